/- What the claim leans on, part 2. -/
import Derived.Test.YtfikjheicjamhaaDoorSP1
import Derived.Test.YtfikjheicjamhaaDoorRows
import Derived.ProofKit
import Derived.LaidMore
import Derived.OpenShut
import Derived.MakeChecks
import Derived.LaidHandle
import Derived.LaidLaws
import Derived.Lib.BytesEntry
import Derived.Lib.IndexAny
import Derived.ShutString
import Derived.ChangeOld
import Derived.SizedLaws
import Derived.ChangeSame
import Derived.Laws.BitsAllLaws
import Derived.Recover
import Derived.WideKeyEntry
section
/- Contracts: the check sum, of the program and of the reference. -/
set_option linter.unusedVariables false
set_option linter.unusedSimpArgs false
set_option maxRecDepth 20000
namespace Go.Proofs.YtfikjheicjamhaaDoor
open Go.Eng Go.Hx
theorem crcStep (g : Nat) (bt : TypeId) (x : Nat) (hx : x < 4294967296) (w : World) (hb : Blk w g bt [.int .u32 (x : Int)]) :
    Calls Tryd.prog 184 #[.pointer (some ⟨g, 0, none⟩)] w fun e w' => e = .returned (.tuple #[]) ∧ Fr (fun i => i = g) w w' ∧ Blk w' g bt [.int .u32 (cstep x : Nat)] := by
  have hc : w.cell? ⟨g, 0, none⟩ = some (.int .u32 (x : Int)) := hb.cell rfl
  have h3 : (0 : Int) ≤ 2197175160 * ((x % 2 : Nat) : Int) ∧ 2197175160 * ((x % 2 : Nat) : Int) < 4294967296 := by omega
  refine enter (N := 9) Tryd.func184 rfl rfl (by simp) ?_
  refine cseq <| creg <| nq (y_ld1 rfl ag120 hc) <| nq (y_bits (by simp) rfl rfl (and1 x hx)) <| nq (y_assign rfl) <| nend <| qsub (sub_cons (t := 1) rfl <| sub_cons (t := 0) rfl <| sub_nil) <| qthen <| creg <| nq (y_ld1 rfl ag120 hc) <| nq (y_shr (p := 2) rfl rfl (by decide) (by decide) (by decide)) <| nq (y_move rfl) <| nq (y_mul rfl rfl (w32 h3.1 h3.2)) <| nq (y_bits (by simp) rfl rfl (xor_step x hx)) <| ?_
  refine nx0 (x_st1 rfl rfl sz120 rfl hb (by simp) fun w1 hf1 hb1 hs1 => ?_)
  refine nend <| qsub (sub_cons (t := 1) rfl <| sub_cons (t := 0) rfl <| sub_nil) <| ?_
  exact ret0 trivial rfl ⟨rfl, hf1, hb1⟩
theorem crcSteps (x n : Nat) (hx : x < 4294967296) (hn : n ≤ 1000000) (w : World) :
    Calls Tryd.prog 169 #[.int .u32 (x : Int), .int .i64 (n : Int)] w fun e w' => e = .returned (.int .u32 (csteps n x : Nat)) ∧ Fr No w w' := by
  refine enter (N := 14) Tryd.func169 rfl rfl (by simp) ?_
  refine cseq <| creg <| ?_
  refine nx (x_box rfl fun g w1 hg hf1 hb1 => ?_)
  refine nq (y_assign rfl) <| nend <| qthen <| cseq <| creg <| nq (y_mkf rfl rfl) <| nq (y_assign rfl) <| nend <| qsub (sub_cons (t := 5) rfl <| sub_cons (t := 4) rfl <| sub_cons (t := 2) rfl <| sub_cons (t := 0) rfl <| sub_cons (t := 1) rfl <| sub_nil) <| qthen <| cseq <| cseq <| creg <| nq (y_move rfl) <| nq (y_move rfl) <| nend <| qthen <| cblock <| ?_
  refine cloop1 (fun k => n - k) (fun k => [(2, .pointer (some ⟨g, 0, none⟩)), (5, .func (.func 184) #[] #[.pointer (some ⟨g, 0, none⟩)]), (7, .int .i64 (n : Int)), (8, .int .i64 (k : Nat))]) (fun k w' => k ≤ n ∧ Fr No w w' ∧ Blk w' g 120 [.int .u32 (csteps k x : Nat)]) 0 (⟨Nat.zero_le _, hf1, hb1⟩) (sub_cons (t := 2) rfl <| sub_cons (t := 5) rfl <| sub_cons (t := 7) rfl <| sub_cons (t := 8) rfl <| sub_nil) (fun k w2 ⟨hk, hf2, hb2⟩ => ?_)
  refine cseq <| creg <| nq (y_lss rfl rfl) <| nend <| qthen <| cseq <| ?_
  refine cif rfl (fun h => ?_) (fun h => ?_)
  · refine cskip <| qthen <| cseq <| cblock <| creg <| nq (y_move rfl) <| ?_
    refine nx (x_callv rfl rfl Tryd.call184 (first := []) (cap := [_]) (crcStep g _ _ (csteps_lt hx k) _ hb2) ?_)
    rintro e_ w3 ⟨rfl, hf3, hb3⟩
    refine ⟨_, rfl, ?_⟩
    refine nend <| qsub (sub_cons (t := 9) rfl <| sub_cons (t := 2) rfl <| sub_cons (t := 5) rfl <| sub_cons (t := 7) rfl <| sub_cons (t := 8) rfl <| sub_nil) <| qblock <| qthen <| creg <| nq (y_add rfl rfl (w64 (by omega) (by omega))) <| nq (y_move rfl) <| nend <| qsub (sub_cons (t := 8) rfl <| sub_cons (t := 9) rfl <| sub_cons (t := 2) rfl <| sub_cons (t := 5) rfl <| sub_cons (t := 7) rfl <| sub_nil) <| ?_
    refine qloop1 (k + 1) (sub_cons (t := 2) rfl <| sub_cons (t := 5) rfl <| sub_cons (t := 7) rfl <| sub_cons (t := 8) rfl <| sub_nil) (⟨by omega, hf2.new hf3 (fun i hi => by omega), hb3⟩) (by omega)
  · obtain rfl : k = n := by omega
    refine cexit <| qthen_exit <| qthen_exit <| qblock_exit <| qthen <| cseq <| creg <| nq (y_ld1 rfl ag120 ((hb2.cell rfl))) <| nq (y_assign rfl) <| nend <| qsub (sub_cons (t := 4) rfl <| sub_cons (t := 9) rfl <| sub_cons (t := 2) rfl <| sub_cons (t := 5) rfl <| sub_cons (t := 7) rfl <| sub_cons (t := 8) rfl <| sub_nil) <| qthen <| cret <| ?_
    exact ret1 trivial rfl rfl ⟨rfl, hf2⟩
theorem crcMore (A : Option Addr) (n c : Nat) (l : List UInt8) (s : Nat) (hs : s < 4294967296) (w : World) (hr : Rd w 1 A n (b8s l)) (hn : n ≤ 140737488351232) :
    Calls Tryd.prog 146 #[.int .u32 (s : Int), .slice A n c] w fun e w' => e = .returned (.int .u32 (4294967295 - cmore (4294967295 - s) l : Nat)) ∧ Fr No w w' := by
  have hl : l.length = n := by have := hr.1; rw [b8s_length] at this; omega
  refine enter (N := 25) Tryd.func146 rfl rfl (by simp) ?_
  refine cseq <| creg <| nq (y_assign rfl) <| nend <| qthen <| cseq <| creg <| nq (y_move rfl) <| nq (yV (y_inv32 rfl hs) (congrArg (fun n : Nat => Value.int .u32 (n : Int)) (xor_ones hs))) <| nq (y_assign rfl) <| nend <| qsub (sub_cons (t := 5) rfl <| sub_cons (t := 4) rfl <| sub_cons (t := 0) rfl <| sub_cons (t := 1) rfl <| sub_nil) <| qthen <| cseq <| cseq <| creg <| nq (y_move rfl) <| nq (y_lenS rfl Tryd.underlying32) <| nq (y_move rfl) <| nend <| qsub (sub_cons (t := 11) rfl <| sub_cons (t := 10) rfl <| sub_cons (t := 5) rfl <| sub_cons (t := 4) rfl <| sub_cons (t := 0) rfl <| sub_cons (t := 1) rfl <| sub_nil) <| qthen <| cblock <| ?_
  refine cloop1 (fun k => n - k) (fun k => [(1, .slice A n c), (5, .int .u32 (cmore (4294967295 - s) (l.take k) : Nat)), (10, .int .i64 (n : Int)), (11, .int .i64 (k : Nat))]) (fun k w' => k ≤ n ∧ Fr No w w') 0 (⟨Nat.zero_le _, Fr.refl _ _⟩) (sub_cons (t := 1) rfl <| sub_cons (t := 5) rfl <| sub_cons (t := 10) rfl <| sub_cons (t := 11) rfl <| sub_nil) (fun k w2 ⟨hk, hf2⟩ => ?_)
  refine cseq <| creg <| nq (y_lss rfl rfl) <| nend <| qthen <| cseq <| ?_
  refine cif rfl (fun h => ?_) (fun h => ?_)
  · have hkn : k < l.length := by omega
    have hm := cmore_lt (n := 4294967295 - s) (by omega) (l.take k)
    have hbt := (l.getD k 0).toNat_lt
    have r2 := hr.fr0 hf2
    refine cskip <| qthen <| cseq <| cblock <| cseq <| creg <| nq (y_move rfl) <| nq (y_assign rfl) <| nend <| qsub (sub_cons (t := 6) rfl <| sub_cons (t := 12) rfl <| sub_cons (t := 1) rfl <| sub_cons (t := 5) rfl <| sub_cons (t := 10) rfl <| sub_cons (t := 11) rfl <| sub_nil) <| qthen <| creg <| nq (y_move rfl) <| nq (y_move rfl) <| nq (y_move rfl) <| nq (y_idxS1 rfl rfl Tryd.underlying32 sz5 r2.2.1 rfl (by omega)) <| nq (y_ld1 rfl ag5 (r2.cell (b8s_get hkn))) <| nq (y_conv rfl Tryd.underlying5 Tryd.underlying120 ((w32 (by omega) (by omega)))) <| nq (y_bits (by simp) rfl rfl (xor_byte _ hm _)) <| ?_
    refine nx (x_call rfl Tryd.call169 (crcSteps _ 8 (xor_byte_lt hm _) (by decide) _) ?_)
    rintro e_ w3 ⟨rfl, hf3⟩
    refine ⟨_, rfl, ?_⟩
    rw [← cmore_snoc, ← Go.Hx.take_snoc hkn]
    refine nq (y_assign rfl) <| nend <| qsub (sub_cons (t := 5) rfl <| sub_cons (t := 6) rfl <| sub_cons (t := 12) rfl <| sub_cons (t := 1) rfl <| sub_cons (t := 10) rfl <| sub_cons (t := 11) rfl <| sub_nil) <| qblock <| qthen <| creg <| nq (y_add rfl rfl (w64 (by omega) (by omega))) <| nq (y_move rfl) <| nend <| qsub (sub_cons (t := 11) rfl <| sub_cons (t := 5) rfl <| sub_cons (t := 6) rfl <| sub_cons (t := 12) rfl <| sub_cons (t := 1) rfl <| sub_cons (t := 10) rfl <| sub_nil) <| ?_
    refine qloop1 (k + 1) (sub_cons (t := 1) rfl <| sub_cons (t := 5) rfl <| sub_cons (t := 10) rfl <| sub_cons (t := 11) rfl <| sub_nil) (⟨by omega, hf2.trans0 hf3⟩) (by omega)
  · obtain rfl : k = n := by omega
    have hm := cmore_lt (n := 4294967295 - s) (by omega) (l.take k)
    refine cexit <| qthen_exit <| qthen_exit <| qblock_exit <| qthen <| cseq <| creg <| nq (y_move rfl) <| nq (y_inv32 rfl hm) <| nq (y_assign rfl) <| nend <| qsub (sub_cons (t := 4) rfl <| sub_cons (t := 12) rfl <| sub_cons (t := 1) rfl <| sub_cons (t := 5) rfl <| sub_cons (t := 10) rfl <| sub_cons (t := 11) rfl <| sub_nil) <| qthen <| cret <| ?_
    rw [List.take_of_length_le (by omega)] at hm ⊢
    rw [xor_ones hm]
    exact ret1 trivial rfl rfl ⟨rfl, hf2⟩
theorem crcSum_c (A : Option Addr) (n c : Nat) (l : List UInt8) (w : World) (hr : Rd w 1 A n (b8s l)) (hn : n ≤ 140737488351232) :
    Calls Tryd.prog 117 #[.slice A n c] w fun e w' => e = .returned (.int .u32 (crcSum l : Nat)) ∧ Fr No w w' := by
  refine enter (N := 5) Tryd.func117 rfl rfl (by simp) ?_
  refine cseq <| creg <| nq (y_assign rfl) <| nend <| qthen <| cseq <| creg <| nq (y_move rfl) <| ?_
  refine nx (x_call rfl Tryd.call146 (crcMore A n c l 0 (by decide) w hr hn) ?_)
  rintro e_ w1 ⟨rfl, hf1⟩
  refine ⟨_, rfl, ?_⟩
  refine nq (y_assign rfl) <| nend <| qsub (sub_cons (t := 2) rfl <| sub_cons (t := 0) rfl <| sub_nil) <| qthen <| cret <| ?_
  exact ret1 trivial rfl rfl ⟨rfl, hf1⟩
theorem clone (A : Option Addr) (n c : Nat) (l : List UInt8) (w : World) (hr : Rd w 1 A n (b8s l)) (hn : n ≤ 140737488351232) :
    Calls Tryd.prog 108 #[.slice A n c] w fun e w' => ∃ v, e = .returned v ∧ Go.Eng.Own w' w.heap.size 5 1 v n (b8s l) ∧ Fr No w w' := by
  have hl : l.length = n := by have := hr.1; rw [b8s_length] at this; omega
  refine enter (N := 8) Tryd.func108 rfl rfl (by simp) ?_
  refine cseq <| creg <| nq (y_assign rfl) <| nend <| qthen <| cseq <| cseq <| creg <| nq (y_move rfl) <| nq (y_eqSn rfl rfl Tryd.underlying32) <| nend <| qsub (sub_cons (t := 4) rfl <| sub_cons (t := 2) rfl <| sub_cons (t := 0) rfl <| sub_nil) <| qthen <| ?_
  cases A with
  | none =>
    have h0 : n = 0 := by
      rcases Nat.eq_zero_or_pos n with h | h
      · exact h
      · exact absurd rfl (hr.2.1 h)
    subst h0
    obtain rfl : l = [] := List.eq_nil_of_length_eq_zero hl
    refine cift rfl (rfl) ?_
    refine cseq <| creg <| nq (y_assign rfl) <| nend <| qthen <| cret <| qthen_ret <| ?_
    exact ret1 trivial rfl rfl ⟨_, rfl, Own.nil _ _ _ _, Fr.refl _ _⟩
  | some a =>
    refine ciff rfl (rfl) ?_
    refine cskip <| qthen <| cseq <| creg <| ?_
    refine nx (x_bsl0 Tryd.underlying32 ti5 fun g w1 hg hf1 hb1 => ?_)
    refine nq (y_move rfl) <| ?_
    refine nx (x_app rfl rfl Tryd.underlying32 Tryd.underlying32 (by exact .inl rfl) ti5 rfl (Own.made0 hb1 hg) (Src.of_rd (hr.fr0 hf1)) b8s_oneCell (by unfold maxLen; omega) (by omega) hf1.size fun v w2 ho hf2 hv => ?_)
    refine nq (y_assign rfl) <| nend <| qsub (sub_cons (t := 2) rfl <| sub_cons (t := 4) rfl <| sub_cons (t := 0) rfl <| sub_nil) <| qthen <| cret <| ?_
    refine ret1 trivial rfl rfl ⟨v, rfl, ?_, hf1.new hf2 (fun i hi => by have : i = g := hi; omega)⟩
    simpa using ho
end Go.Proofs.YtfikjheicjamhaaDoor
end
section
/- Contracts: bytes.Equal, crc.Take, the reference's Take, strings.CutPrefix. -/
set_option linter.unusedVariables false
set_option linter.unusedSimpArgs false
set_option maxRecDepth 20000
namespace Go.Proofs.YtfikjheicjamhaaDoor
open Go.Eng Go.Hx
theorem bytesEqual (A : Option Addr) (n c : Nat) (l : List UInt8) (A' : Option Addr) (n' c' : Nat) (l' : List UInt8) (w : World) (hr : Rd w 1 A n (b8s l)) (hr' : Rd w 1 A' n' (b8s l')) :
    Calls Tryd.prog 115 #[.slice A n c, .slice A' n' c'] w fun e w' => e = .returned (.bool (decide (l = l'))) ∧ w = w' := by
  refine enter (N := 10) Tryd.func115 rfl rfl (by simp) ?_
  refine cseq <| creg <| nq (y_assign rfl) <| nend <| qthen <| cseq <| creg <| nq (y_move rfl) <| nq (y_b2s rfl Tryd.underlying32 Tryd.underlying5 Tryd.underlying9 hr) <| nq (y_move rfl) <| nq (y_b2s rfl Tryd.underlying32 Tryd.underlying5 Tryd.underlying9 hr') <| nq (y_seq rfl rfl) <| nq (y_assign rfl) <| nend <| qsub (sub_cons (t := 4) rfl <| sub_cons (t := 0) rfl <| sub_cons (t := 1) rfl <| sub_nil) <| qthen <| cret <| ?_
  refine ret1 trivial rfl rfl ⟨?_, rfl⟩
  simp only [strOf_inj]
end Go.Proofs.YtfikjheicjamhaaDoor
end
section
/- Contracts over things in memory, from contracts over worlds: bytes, sums, digests. -/
set_option linter.unusedVariables false
set_option linter.unusedSimpArgs false
set_option maxRecDepth 20000
namespace Go.Proofs.YtfikjheicjamhaaDoor
open Go.Eng Go.Hx
theorem bytesEqualC {A A1 : Option Addr} {n c n1 c1 : Nat} {l l1 : List UInt8} : Con Tryd.prog 115 [.slice A n c, .slice A1 n1 c1] [] [RRd 1 A n (b8s l), RRd 1 A1 n1 (b8s l1)] (fun v_ X_ S_ => v_ = (.bool (decide (l = l1))) ∧ X_ = [] ∧ S_ = []) := by
  exact con_pure fun m => Calls.mono (bytesEqual A n c l A1 n1 c1 l1 _ (m.rd 0 rfl) (m.rd 1 rfl)) (fun e w' ⟨h, hw⟩ => ⟨_, h, ⟨rfl, rfl, rfl⟩, hw ▸ Fr.refl _ _⟩)
theorem cloneC {A : Option Addr} {n c : Nat} {l : List UInt8} (hn : n ≤ 140737488351232) : Con Tryd.prog 108 [.slice A n c] [] [RRd 1 A n (b8s l)] (fun v_ X_ S_ => ∃ v, v_ = v ∧ X_ = [ROwn 5 1 v n (b8s l)] ∧ S_ = []) := by
  exact con_own1 fun m => Calls.mono (clone A n c l _ (m.rd 0 rfl) hn) (fun e w' ⟨v, h, ho, hf⟩ => ⟨v, v, _, _, _, _, h, ⟨v, rfl, rfl, rfl⟩, ho, hf⟩)
end Go.Proofs.YtfikjheicjamhaaDoor
end
section
/- Contracts: the program's digest of bytes (layer 2). -/
set_option linter.unusedVariables false
set_option linter.unusedSimpArgs false
set_option maxRecDepth 20000
namespace Go.Proofs.YtfikjheicjamhaaDoor
open Go.Eng Go.Hx
/-- the table of the program -/
def RRoots : Res := RRd 1 (some ⟨0, 0, none⟩) 64 (wds rootsL)
theorem u64neg {n : Nat} (h0 : 0 < n) (hn : n < 32) : IntKind.u64.wrap (-(n : Int)) = ((18446744073709551616 - n : Nat) : Int) := by
  simp [IntKind.wrap, IntKind.signed, IntKind.bits]
  omega
theorem u64and31 {n : Nat} (h0 : 0 < n) (hn : n < 32) : bits .and .u64 ((18446744073709551616 - n : Nat) : Int) 31 = ((32 - n : Nat) : Int) := by
  have h := u64_and_nat (18446744073709551616 - n) 31 (by omega) (by decide)
  rw [show ((31 : Nat) : Int) = 31 from rfl] at h
  rw [h, show (31 : Nat) = 2 ^ 5 - 1 from rfl, Nat.and_two_pow_sub_one_eq_mod]
  congr 1
  show (18446744073709551616 - n) % 32 = 32 - n
  omega
theorem rotC {x : UInt32} {n : Nat} (h0 : 0 < n) (hn : n < 32) : Con Tryd.prog 188 [Wd x, .int .i64 (-(n : Int))] [] [] (fun v_ X_ S_ => v_ = (Wd (rotr n x)) ∧ X_ = [] ∧ S_ = []) := by
  refine henter (N := 17) Tryd.func188 rfl rfl (by simp) fun b => ?_
  have hs : IntKind.u64.wrap (32 - ((32 - n : Nat) : Int)) = (n : Int) := by
    rw [show (32 : Int) - ((32 - n : Nat) : Int) = (n : Int) by omega]
    simp [IntKind.wrap, IntKind.signed, IntKind.bits]
    omega
  refine hseq <| hreg <| hy (fun _ => y_assign rfl) <| hend <| hthen <| hseq <| hreg <| hy (fun _ => y_move rfl) <| hy (fun _ => y_conv rfl Tryd.underlying3 Tryd.underlying174 (u64neg h0 hn)) <| hy (fun _ => y_bits (by simp) rfl rfl (u64and31 h0 hn)) <| hy (fun _ => y_assign rfl) <| hend <| hsub (ρ' := [(5, _), (4, _), (0, _), (1, _)]) ⟨rfl, rfl, rfl, rfl, trivial⟩ <| hthen <| hseq <| hreg <| hy (fun _ => y_move rfl) <| hy (fun _ => y_move rfl) <| hy (fun _ => (y_wshl (k := 32 - n) (by omega) rfl rfl)) <| hy (fun _ => y_move rfl) <| hy (fun _ => y_move rfl) <| hy (fun _ => y_sub rfl rfl hs) <| hy (fun _ => (y_wshr (k := n) hn rfl rfl)) <| hy (fun _ => yV (y_wor rfl rfl) ((show Wd (UInt32.ofNat (x.toNat * 2 ^ (32 - n)) ||| UInt32.ofNat (x.toNat / 2 ^ n)) = Wd (rotr n x) by rw [rotl_or h0 hn]))) <| hy (fun _ => y_assign rfl) <| hend <| hsub (ρ' := [(4, _), (5, _), (0, _), (1, _)]) ⟨rfl, rfl, rfl, rfl, trivial⟩ <| hthen <| hret <| ?_
  exact hret1 trivial rfl rfl [] rfl [] rfl ⟨rfl, rfl, rfl⟩
theorem turnedC {x : UInt32} {n1 n2 n3 : Nat} (h1 : 0 < n1 ∧ n1 < 32) (h2 : 0 < n2 ∧ n2 < 32) (h3 : 0 < n3 ∧ n3 < 32) : Con Tryd.prog 173 [Wd x, .int .i64 (n1 : Int), .int .i64 (n2 : Int), .int .i64 (n3 : Int)] [] [] (fun v_ X_ S_ => v_ = (Wd (turns n1 n2 n3 x)) ∧ X_ = [] ∧ S_ = []) := by
  refine henter (N := 23) Tryd.func173 rfl rfl (by simp) fun b => ?_
  refine hseq <| hreg <| hy (fun _ => y_assign rfl) <| hend <| hthen <| hseq <| hreg <| hy (fun _ => y_move rfl) <| hy (fun _ => y_move rfl) <| hy (fun _ => y_neg rfl (w64 (by omega) (by omega))) <| ?_
  refine hx (xh_call rfl Tryd.call188 (rotC h1.1 h1.2 (n := n1)) [] rfl [] rfl ?_)
  rintro _ _ _ ⟨rfl, rfl, rfl⟩
  refine hy (fun _ => y_move rfl) <| hy (fun _ => y_move rfl) <| hy (fun _ => y_neg rfl (w64 (by omega) (by omega))) <| ?_
  refine hx (xh_call rfl Tryd.call188 (rotC h2.1 h2.2 (n := n2)) [] rfl [] rfl ?_)
  rintro _ _ _ ⟨rfl, rfl, rfl⟩
  refine hy (fun _ => y_wxor rfl rfl) <| hy (fun _ => y_move rfl) <| hy (fun _ => y_move rfl) <| hy (fun _ => y_neg rfl (w64 (by omega) (by omega))) <| ?_
  refine hx (xh_call rfl Tryd.call188 (rotC h3.1 h3.2 (n := n3)) [] rfl [] rfl ?_)
  rintro _ _ _ ⟨rfl, rfl, rfl⟩
  refine hy (fun _ => y_wxor rfl rfl) <| hy (fun _ => y_assign rfl) <| hend <| hsub (ρ' := [(8, _), (0, _), (1, _), (2, _), (3, _)]) ⟨rfl, rfl, rfl, rfl, rfl, trivial⟩ <| hmemQ (X' := []) (S' := []) (fun _ m => m) <| hthen <| hret <| ?_
  exact hret1 trivial rfl rfl [] rfl [] rfl ⟨rfl, rfl, rfl⟩
theorem fill_get {a : List UInt32} {i k n : Nat} (ha : a.length = i) (hk : k < i) : (wds (a ++ List.replicate n 0))[k]? = some (Wd (a.getD k 0)) := by
  rw [wds_get (by simp; omega)]
  simp [List.getD, List.getElem?_append_left (show k < a.length by omega)]
theorem mid_get {a r : List UInt32} {i : Nat} {x : UInt32} (ha : a.length = i) : (wds (a ++ x :: r))[i]? = some (Wd x) := by
  subst ha
  simp [wds]
theorem mid_set {a r : List UInt32} {i : Nat} {x y : UInt32} (ha : a.length = i) : (wds (a ++ x :: r)).set i (Wd y) = wds (a ++ y :: r) := by
  subst ha
  simp [wds, List.set_append]
theorem mid_end {a r : List UInt32} {y : UInt32} : a ++ y :: r = (a ++ [y]) ++ r := by simp
theorem wordsC {A : Option Addr} {c : Nat} {l : List UInt8} (hc : 64 ≤ c) : Con Tryd.prog 172 [.slice A 64 c] [] [RRd 1 A 64 (b8s l)] (fun v_ X_ S_ => v_ = (.agg (wds (wl l 64)).toArray) ∧ X_ = [] ∧ S_ = []) := by
  refine henter (N := 75) Tryd.func172 rfl rfl (by simp) fun b => ?_
  refine hfactC (fun m => rdB (m.rd 0 rfl)) ?_
  rintro ⟨hl_r, hA_r⟩
  have hl : l.length = 64 := hl_r
  refine hseq <| hreg <| ?_
  refine hx (xh_alloc ti254 (fun g2 => ?_))
  refine hend <| hmemQ (X' := [_]) (S' := [_]) (fun _ m => m) <| hthen <| hseq <| hreg <| ?_
  refine hx (xh_alloc ti254 (fun g3 => ?_))
  refine hmemL (fun w m => m.eqX 0 rfl (show _ = RBlk g3 254 (wds (wl l 0 ++ List.replicate (64 - 0) 0)) from rfl)) ?_
  refine hend <| hmemQ (X' := [_, _]) (S' := [_]) (fun _ m => m) <| hthen <| hseq <| hseq <| hreg <| hy (fun _ => y_move rfl) <| hend <| hthen <| hblock <| ?_
  refine hloop1 (fun i => 64 - i) (fun i => [(9, .int .i64 (i : Nat))]) (fun i => [RBlk g3 254 (wds (wl l i ++ List.replicate (64 - i) 0))]) (fun i => []) (fun i => i ≤ 64) 0 [(3, _), (2, _), (0, _)] ⟨rfl, rfl, rfl, trivial⟩ [0] rfl [] rfl (Nat.zero_le _) ⟨rfl, trivial⟩ (fun i hI => ?_)
  have hwl := wl_length l i
  refine hseq <| hreg <| hy (fun _ => y_lss rfl rfl) <| hend <| hthen <| hseq <| ?_
  refine hif rfl (fun h => ?_) (fun h => ?_)
  · have hr64 : (List.replicate (64 - i) (0 : UInt32)) = 0 :: List.replicate (63 - i) 0 := by rw [show 64 - i = (63 - i) + 1 by omega, List.replicate_succ]
    have hr63 : (64 - (i + 1)) = 63 - i := by omega
    refine hcskip <| hthen <| hseq <| hblock <| hseq <| hreg <| hy (fun _ => y_move rfl) <| hy (fun _ => y_assign rfl) <| hend <| hsub (ρ' := [(4, _), (10, _), (9, _), (3, _), (2, _), (0, _)]) ⟨rfl, rfl, rfl, rfl, rfl, rfl, trivial⟩ <| hthen <| hseq <| hseq <| hreg <| hy (fun _ => y_move rfl) <| hy (fun _ => y_lss rfl rfl) <| hend <| hsub (ρ' := [(13, _), (4, _), (10, _), (9, _), (3, _), (2, _), (0, _)]) ⟨rfl, rfl, rfl, rfl, rfl, rfl, rfl, trivial⟩ <| hthen <| ?_
    refine hif rfl (fun h16 => ?_) (fun h16 => ?_)
    · have hws : wl l (i + 1) = wl l i ++ [word4 l (4 * i)] := by rw [wl, if_pos (by omega)]
      refine hmemC (fun w m => m.asV 0 rfl (View.sub (k := 4 * i) (m := 4) hc (by omega))) ?_
      refine hfactC (fun m => rdB (m.rd 0 rfl)) ?_
      rintro ⟨hl_r4, hA_r4⟩
      refine hseq <| hseq <| hreg <| hy (fun _ => y_move rfl) <| hy (fun _ => y_move rfl) <| hy (fun _ => y_mul rfl rfl (w64 (by omega) (by omega))) <| hy (fun _ => y_move rfl) <| hy (fun _ => y_mul rfl rfl (w64 (by omega) (by omega))) <| hy (fun _ => y_add rfl rfl (w64 (by omega) (by omega))) <| hy (fun _ => yV (y_slBoth rfl rfl rfl Tryd.underlying32 sz5 (show ((4 * i : Nat) : Int) = _ by omega) (show ((4 * i + 4 : Nat) : Int) = _ by omega) (by omega) (by omega)) ((show Value.slice (if c = 4 * i then A else A.map (·.add (4 * i * 1))) (4 * i + 4 - 4 * i) (c - 4 * i) = .slice (if c = 4 * i then A else A.map (·.add (4 * i * 1))) 4 (c - 4 * i) by rw [Nat.add_sub_cancel_left]))) <| hy (fun _ => y_lenS rfl Tryd.underlying32) <| hy (fun _ => y_move rfl) <| hend <| hsub (ρ' := [(22, _), (21, _), (20, _), (13, _), (4, _), (10, _), (9, _), (3, _), (2, _), (0, _)]) ⟨rfl, rfl, rfl, rfl, rfl, rfl, rfl, rfl, rfl, rfl, trivial⟩ <| hthen <| hblock <| ?_
      refine hmemC (fun w m => m.eqX 0 rfl (show _ = RBlk g3 254 (wds (wl l i ++ UInt32.ofNat (wp l (4 * i) 0) :: List.replicate (63 - i) 0)) from by rw [hr64]; rfl)) ?_
      refine hloop1 (fun j => 4 - j) (fun j => [(22, .int .i64 (j : Nat))]) (fun j => [RBlk g3 254 (wds (wl l i ++ UInt32.ofNat (wp l (4 * i) j) :: List.replicate (63 - i) 0))]) (fun j => []) (fun j => j ≤ 4) 0 [(21, _), (20, _), (13, _), (4, _), (10, _), (9, _), (3, _), (2, _), (0, _)] ⟨rfl, rfl, rfl, rfl, rfl, rfl, rfl, rfl, rfl, trivial⟩ [0] rfl [] rfl (Nat.zero_le _) ⟨rfl, trivial⟩ (fun j hj4 => ?_)
      refine hseq <| hreg <| hy (fun _ => y_lss rfl rfl) <| hend <| hthen <| hseq <| ?_
      refine hif rfl (fun hj => ?_) (fun hj => ?_)
      · have hgl : ((l.drop (4 * i)).take 4).getD j 0 = l.getD (4 * i + j) 0 := by
          simp [List.getD, List.getElem?_take, List.getElem?_drop, show j < 4 by omega]
        refine hcskip <| hthen <| hseq <| hblock <| hseq <| hreg <| hy (fun _ => y_idxS1 rfl rfl Tryd.underlying32 sz5 hA_r4 rfl (by omega)) <| hy (fun m => y_ld1 rfl ag5 ((m.rd 0 rfl).cell (b8s_get (by omega)))) <| hy (fun _ => y_assign rfl) <| hend <| hsub (ρ' := [(6, _), (23, _), (22, _), (21, _), (20, _), (13, _), (4, _), (10, _), (9, _), (3, _), (2, _), (0, _)]) ⟨rfl, rfl, rfl, rfl, rfl, rfl, rfl, rfl, rfl, rfl, rfl, rfl, trivial⟩ <| hthen <| hreg <| hy (fun _ => y_move rfl) <| hy (fun _ => y_move rfl) <| hy (fun _ => y_idxA1 rfl rfl Tryd.underlying254 sz120 rfl (by omega)) <| hy (fun m => y_ld1 rfl ag120 ((m.blk 0 rfl).cells0 i _ (mid_get hwl))) <| hy (fun _ => y_wshlD (k := 8) (b := 256) (by decide) rfl rfl rfl) <| hy (fun _ => y_move rfl) <| hy (fun _ => y_w8 rfl Tryd.underlying5 Tryd.underlying120) <| hy (fun _ => yV (y_wor rfl rfl) ((show Wd ((UInt32.ofNat (wp l (4 * i) j) * 256) ||| (((l.drop (4 * i)).take 4).getD j 0).toUInt32) = Wd (UInt32.ofNat (wp l (4 * i) (j + 1))) by rw [hgl, wp_step (by omega)]))) <| hy (fun _ => y_idxA1 rfl rfl Tryd.underlying254 sz120 rfl (by omega)) <| ?_
        refine hx0 (xh_st1a 0 rfl rfl rfl sz120 rfl (by rw [wds_length]; simp only [List.length_append, List.length_cons, List.length_replicate, hwl]; omega) ?_)
        refine hend <| hsub (ρ' := [(6, _), (23, _), (22, _), (21, _), (20, _), (13, _), (4, _), (10, _), (9, _), (3, _), (2, _), (0, _)]) ⟨rfl, rfl, rfl, rfl, rfl, rfl, rfl, rfl, rfl, rfl, rfl, rfl, trivial⟩ <| hmemQ (X' := [_, _]) (S' := [_, _]) (fun _ m => m) <| hqblock <| hthen <| hreg <| hy (fun _ => y_add rfl rfl (w64 (by omega) (by omega))) <| hy (fun _ => y_move rfl) <| hend <| hsub (ρ' := [(22, _), (6, _), (23, _), (21, _), (20, _), (13, _), (4, _), (10, _), (9, _), (3, _), (2, _), (0, _)]) ⟨rfl, rfl, rfl, rfl, rfl, rfl, rfl, rfl, rfl, rfl, rfl, rfl, trivial⟩ <| ?_
        refine hmemQ (fun w m => m.eqX 0 rfl (show _ = RBlk g3 254 (wds (wl l i ++ UInt32.ofNat (wp l (4 * i) (j + 1)) :: List.replicate (63 - i) 0)) from by rw [Nat.zero_add, mid_set hwl])) ?_
        refine hnext1 (j + 1) ⟨rfl, rfl, rfl, rfl, rfl, rfl, rfl, rfl, rfl, rfl, trivial⟩ [0, 0] rfl [0, 1] rfl (by omega) (by omega)
      · obtain rfl : j = 4 := by omega
        refine hexit <| hthen_exit <| hthen_exit <| hqblock_exit <| hthen <| hexit <| hthen_exit <| hqblock_exit <| hthen <| hreg <| hy (fun _ => y_add rfl rfl (w64 (by omega) (by omega))) <| hy (fun _ => y_move rfl) <| hend <| hsub (ρ' := [(9, _), (23, _), (22, _), (21, _), (20, _), (13, _), (4, _), (10, _), (3, _), (2, _), (0, _)]) ⟨rfl, rfl, rfl, rfl, rfl, rfl, rfl, rfl, rfl, rfl, rfl, trivial⟩ <| ?_
        refine hmemQ (fun w m => m.eqX 0 rfl (show _ = RBlk g3 254 (wds (wl l (i + 1) ++ List.replicate (64 - (i + 1)) 0)) from by rw [wp_four, mid_end, hws, hr63])) ?_
        refine hnext1 (i + 1) ⟨rfl, rfl, rfl, rfl, trivial⟩ [0, 0] rfl [1] rfl (by omega) (by omega)
    · have hws : wl l (i + 1) = wl l i ++ [wnext (wl l i) i] := by rw [wl, if_neg (by omega)]
      refine hcskip <| hthen <| hseq <| hdrw [] [(0, some 0), (1, some 0), (2, some 0), (3, some 0), (4, some 0), (5, some 0), (6, some 0), (7, some 0), (8, some 0), (9, some 0)] (by kernel_rfl) (by kernel_rfl) rfl 99 <| htyU (y_move rfl) <| htyU (y_sub rfl rfl (w64 (by omega) (by omega))) <| htyU (y_idxA1 rfl rfl Tryd.underlying254 sz120 (show ((i - 15 : Nat) : Int) = _ by omega) (by omega)) <| hty (fun m => y_ld1 rfl ag120 ((m.blk 0 rfl).cells0 (i - 15) _ (fill_get hwl (by omega)))) <| htyU (y_move rfl) <| htyU (y_sub rfl rfl (w64 (by omega) (by omega))) <| htyU (y_idxA1 rfl rfl Tryd.underlying254 sz120 (show ((i - 2 : Nat) : Int) = _ by omega) (by omega)) <| hty (fun m => y_ld1 rfl ag120 ((m.blk 0 rfl).cells0 (i - 2) _ (fill_get hwl (by omega)))) <| htyU (y_assign rfl) <| htyU (y_assign rfl) <| htend <| hsub (ρ' := [(8, _), (7, _), (13, _), (4, _), (10, _), (9, _), (3, _), (2, _), (0, _)]) ⟨rfl, rfl, rfl, rfl, rfl, rfl, rfl, rfl, rfl, trivial⟩ <| hthen <| hdrw [6, 8, 20, 22, 29] [(0, some 4), (1, some 4), (2, some 4), (3, some 4), (4, some 4), (5, some 0), (7, some 1), (10, some 4), (11, some 4), (14, some 4), (15, some 4), (16, some 4), (17, some 4), (19, some 2), (21, some 3), (24, some 4), (25, some 4), (6, none), (8, none), (9, some 4), (12, some 4), (13, some 4), (18, some 4), (20, none), (22, none), (23, some 4), (26, some 4), (27, some 4), (28, some 4), (29, none)] (by kernel_rfl) (by kernel_rfl) rfl 4 <| htyU (y_move rfl) <| htyU (y_move rfl) <| htyU (y_sub rfl rfl (w64 (by omega) (by omega))) <| htyU (y_idxA1 rfl rfl Tryd.underlying254 sz120 (show ((i - 16 : Nat) : Int) = _ by omega) (by omega)) <| hty (fun m => y_ld1 rfl ag120 ((m.blk 0 rfl).cells0 (i - 16) _ (fill_get hwl (by omega)))) <| htyU (y_move rfl) <| htyU (y_move rfl) <| htyU (y_move rfl) <| htyU (y_wshrD (k := 3) (b := 8) (by decide) rfl rfl rfl) <| htyU (y_move rfl) <| htyU (y_sub rfl rfl (w64 (by omega) (by omega))) <| htyU (y_idxA1 rfl rfl Tryd.underlying254 sz120 (show ((i - 7 : Nat) : Int) = _ by omega) (by omega)) <| hty (fun m => y_ld1 rfl ag120 ((m.blk 0 rfl).cells0 (i - 7) _ (fill_get hwl (by omega)))) <| htyU (y_move rfl) <| htyU (y_move rfl) <| htyU (y_move rfl) <| htyU (y_wshrD (k := 10) (b := 1024) (by decide) rfl rfl rfl) <| ?_
      refine htx (xh_call rfl Tryd.call188 (rotC (by decide) (by decide) (n := 7)) [] rfl [] rfl ?_)
      rintro _ _ _ ⟨rfl, rfl, rfl⟩
      refine ⟨(fun _ => wk [0, 0] [0] rfl rfl), ?_⟩
      refine htx (xh_call rfl Tryd.call188 (rotC (by decide) (by decide) (n := 18)) [] rfl [] rfl ?_)
      rintro _ _ _ ⟨rfl, rfl, rfl⟩
      refine ⟨(fun _ => wk [0, 0] [0] rfl rfl), ?_⟩
      refine htyU (y_wxor rfl rfl) <| htyU (y_wxor rfl rfl) <| htyU (y_wadd rfl rfl) <| htyU (y_wadd rfl rfl) <| ?_
      refine htx (xh_call rfl Tryd.call188 (rotC (by decide) (by decide) (n := 17)) [] rfl [] rfl ?_)
      rintro _ _ _ ⟨rfl, rfl, rfl⟩
      refine ⟨(fun _ => wk [0, 0] [0] rfl rfl), ?_⟩
      refine htx (xh_call rfl Tryd.call188 (rotC (by decide) (by decide) (n := 19)) [] rfl [] rfl ?_)
      rintro _ _ _ ⟨rfl, rfl, rfl⟩
      refine ⟨(fun _ => wk [0, 0] [0] rfl rfl), ?_⟩
      refine htyU (y_wxor rfl rfl) <| htyU (y_wxor rfl rfl) <| htyU (yV (y_wadd rfl rfl) ((rfl : _ = Wd (wnext (wl l i) i)))) <| htyU (y_idxA1 rfl rfl Tryd.underlying254 sz120 rfl (by omega)) <| ?_
      refine htx0 (xh_st1a 0 rfl rfl rfl sz120 rfl (by rw [wds_length]; simp only [List.length_append, List.length_replicate, hwl]; omega) ⟨(fun h => absurd h (by decide)), ?_⟩)
      refine htend <| hsub (ρ' := [(8, _), (7, _), (13, _), (4, _), (10, _), (9, _), (3, _), (2, _), (0, _)]) ⟨rfl, rfl, rfl, rfl, rfl, rfl, rfl, rfl, rfl, trivial⟩ <| hmemQ (X' := [_, _]) (S' := [_]) (fun _ m => m) <| hqblock <| hthen <| hreg <| hy (fun _ => y_add rfl rfl (w64 (by omega) (by omega))) <| hy (fun _ => y_move rfl) <| hend <| hsub (ρ' := [(9, _), (8, _), (7, _), (13, _), (4, _), (10, _), (3, _), (2, _), (0, _)]) ⟨rfl, rfl, rfl, rfl, rfl, rfl, rfl, rfl, rfl, trivial⟩ <| ?_
      refine hmemQ (fun w m => m.eqX 0 rfl (show _ = RBlk g3 254 (wds (wl l (i + 1) ++ List.replicate (64 - (i + 1)) 0)) from by rw [Nat.zero_add, hr64, mid_set hwl, mid_end, hws, hr63])) ?_
      refine hnext1 (i + 1) ⟨rfl, rfl, rfl, rfl, trivial⟩ [0, 0] rfl [0] rfl (by omega) (by omega)
  · obtain rfl : i = 64 := by omega
    refine hmemC (fun w m => m.eqX 0 rfl (show _ = RBlk g3 254 (wds (wl l 64)) from by rw [Nat.sub_self]; simp)) ?_
    refine hexit <| hthen_exit <| hthen_exit <| hqblock_exit <| hthen <| hseq <| hreg <| hy (fun m => yV (y_ldN rfl ag254 sz254 (by rw [wds_length, wl_length]) ((m.blk 0 rfl).cells0)) ((rfl : _ = Value.agg (wds (wl l 64)).toArray))) <| ?_
    refine hx0 (xh_stA 1 rfl rfl rfl sz254 (by rw [wds_length, wl_length]) wds_one rfl ?_)
    refine hend <| hsub (ρ' := [(10, _), (9, _), (3, _), (2, _), (0, _)]) ⟨rfl, rfl, rfl, rfl, rfl, trivial⟩ <| hmemQ (X' := [_, _]) (S' := [_]) (fun _ m => m) <| hthen <| hret <| ?_
    exact hretN trivial rfl rfl ag254 sz254 (by rw [wds_length, wl_length]) (fun m => (m.blk 0 rfl).cells0) [] rfl [] rfl ⟨rfl, rfl, rfl⟩
theorem hsum_length (v h : List UInt32) (i : Nat) : (hsum v h i).length = v.length := by simp [hsum]
theorem mixC {A : Option Addr} {c : Nat} {l : List UInt8} {h : List UInt32} (hc : 64 ≤ c) (hh : h.length = 8) : Con Tryd.prog 154 [.agg (wds h).toArray, .slice A 64 c] [] [RRd 1 A 64 (b8s l), RRoots] (fun v_ X_ S_ => v_ = (.agg (wds (blockL h l)).toArray) ∧ X_ = [] ∧ S_ = []) := by
  refine henter (N := 99) Tryd.func154 rfl rfl (by simp) fun b => ?_
  refine hfactC (fun m => rdB (m.rd 0 rfl)) ?_
  rintro ⟨hl_r, hA_r⟩
  refine hseq <| hreg <| ?_
  refine hx (xh_box rfl (fun g2 => ?_))
  refine hmemL (fun w m => m.eqX 0 rfl (show _ = RBlk g2 222 (wds h) from congrArg (RBlk _ _) (cells_agg _))) ?_
  refine hx (xh_alloc ti222 (fun g4 => ?_))
  refine hend <| hmemQ (X' := [_, _]) (S' := [_, _]) (fun _ m => m) <| hthen <| hseq <| hreg <| hy (fun _ => y_move rfl) <| ?_
  refine hx (xh_call rfl Tryd.call172 (wordsC (by omega)) [] rfl [0] rfl ?_)
  rintro _ _ _ ⟨rfl, rfl, rfl⟩
  obtain ⟨W, hW⟩ : ∃ W, wl l 64 = W := ⟨_, rfl⟩
  have hw64 : W.length = 64 := by rw [← hW]; exact wl_length l 64
  rw [hW]
  refine hx (xh_alloc ti254 (fun g5 => ?_))
  refine hx0 (xh_stA 0 rfl rfl rfl sz254 (by rw [wds_length, hw64]) wds_one rfl ?_)
  refine hend <| hsub (ρ' := [(5, _), (4, _), (2, _), (0, _), (1, _)]) ⟨rfl, rfl, rfl, rfl, rfl, trivial⟩ <| hmemQ (X' := [_, _, _]) (S' := [_, _]) (fun _ m => m) <| hthen <| hseq <| hreg <| hy (fun m => yV (y_ldN rfl ag222 sz222 (by rw [wds_length, hh]) ((m.blk 2 rfl).cells0)) ((rfl : _ = Value.agg (wds h).toArray))) <| ?_
  refine hx (xh_alloc ti222 (fun g6 => ?_))
  refine hx0 (xh_stA 0 rfl rfl rfl sz222 (by rw [wds_length, hh]) wds_one rfl ?_)
  refine hend <| hsub (ρ' := [(6, _), (5, _), (4, _), (2, _), (0, _), (1, _)]) ⟨rfl, rfl, rfl, rfl, rfl, rfl, trivial⟩ <| hmemQ (X' := [_, _, _, _]) (S' := [_, _]) (fun _ m => m) <| hthen <| hseq <| hseq <| hreg <| hy (fun _ => y_move rfl) <| hend <| hthen <| hblock <| ?_
  refine hloop1 (fun i => 64 - i) (fun i => [(16, .int .i64 (i : Nat))]) (fun i => [RBlk g6 222 (wds (rnds W h i))]) (fun i => []) (fun i => i ≤ 64) 0 [(6, _), (5, _), (4, _), (2, _), (0, _), (1, _)] ⟨rfl, rfl, rfl, rfl, rfl, rfl, trivial⟩ [0] rfl [] rfl (Nat.zero_le _) ⟨rfl, trivial⟩ (fun i hI => ?_)
  have hv := rnds_length (w := W) hh i
  have hro : rootsL.length = 64 := rfl
  refine hseq <| hreg <| hy (fun _ => y_lss rfl rfl) <| hend <| hthen <| hseq <| ?_
  refine hif rfl (fun hlt => ?_) (fun hlt => ?_)
  · generalize hvd : rnds W h i = v at hv ⊢
    refine hcskip <| hthen <| hseq <| hblock <| hseq <| hreg <| hy (fun _ => y_move rfl) <| hy (fun _ => y_assign rfl) <| hend <| hsub (ρ' := [(7, _), (17, _), (16, _), (6, _), (5, _), (4, _), (2, _), (0, _), (1, _)]) ⟨rfl, rfl, rfl, rfl, rfl, rfl, rfl, rfl, rfl, trivial⟩ <| hthen <| hseq <| hdrw [] [(0, some 0), (1, some 0), (2, some 0), (3, some 0), (4, some 0), (5, some 0)] (by kernel_rfl) (by kernel_rfl) rfl 99 <| htyU (y_idxA1 rfl rfl Tryd.underlying222 sz120 (show ((4 : Nat) : Int) = 4 from rfl) (by omega)) <| hty (fun m => y_ld1 rfl ag120 ((m.blk 0 rfl).cells0 4 _ (wds_get (by omega)))) <| htyU (y_idxA1 rfl rfl Tryd.underlying222 sz120 (show ((0 : Nat) : Int) = 0 from rfl) (by omega)) <| hty (fun m => y_ld1 rfl ag120 ((m.blk 0 rfl).cells0 0 _ (wds_get (by omega)))) <| htyU (y_assign rfl) <| htyU (y_assign rfl) <| htend <| hsub (ρ' := [(9, _), (8, _), (7, _), (17, _), (16, _), (6, _), (5, _), (4, _), (2, _), (0, _), (1, _)]) ⟨rfl, rfl, rfl, rfl, rfl, rfl, rfl, rfl, rfl, rfl, rfl, trivial⟩ <| hthen <| hseq <| hdrw [3] [(0, some 1), (1, some 1), (2, some 0), (5, some 1), (6, some 1), (7, some 1), (8, some 1), (9, some 1), (10, some 1), (11, some 1), (12, some 1), (13, some 1), (14, some 1), (16, some 1), (17, some 1), (18, some 1), (20, some 1), (21, some 1), (22, some 1), (3, none), (4, some 1), (15, some 1), (19, some 1), (23, some 1), (24, some 1)] (by kernel_rfl) (by kernel_rfl) rfl 99 <| htyU (y_idxA1 rfl rfl Tryd.underlying222 sz120 (show ((7 : Nat) : Int) = 7 from rfl) (by omega)) <| hty (fun m => y_ld1 rfl ag120 ((m.blk 0 rfl).cells0 7 _ (wds_get (by omega)))) <| htyU (y_move rfl) <| htyU (y_move rfl) <| htyU (y_idxA1 rfl rfl Tryd.underlying222 sz120 (show ((5 : Nat) : Int) = 5 from rfl) (by omega)) <| hty (fun m => y_ld1 rfl ag120 ((m.blk 0 rfl).cells0 5 _ (wds_get (by omega)))) <| htyU (y_wand rfl rfl) <| htyU (y_move rfl) <| htyU (y_wnot rfl) <| htyU (y_idxA1 rfl rfl Tryd.underlying222 sz120 (show ((6 : Nat) : Int) = 6 from rfl) (by omega)) <| hty (fun m => y_ld1 rfl ag120 ((m.blk 0 rfl).cells0 6 _ (wds_get (by omega)))) <| htyU (y_wand rfl rfl) <| htyU (y_wxor rfl rfl) <| htyU (y_move rfl) <| htyU (y_idxA1 rfl rfl Tryd.underlying254 sz120 rfl (by omega)) <| hty (fun m => y_ld1 rfl ag120 ((show Rd _ 1 _ 64 (wds rootsL) from m.sres 1 rfl).cell (j := i) (wds_get (by omega)))) <| htyU (y_move rfl) <| htyU (y_idxA1 rfl rfl Tryd.underlying254 sz120 rfl (by omega)) <| hty (fun m => y_ld1 rfl ag120 ((m.blk 1 rfl).cells0 i _ (wds_get (by omega)))) <| ?_
    refine htx (xh_call rfl Tryd.call173 (turnedC (by decide) (by decide) (by decide) (n1 := 6) (n2 := 11) (n3 := 25)) [] rfl [] rfl ?_)
    rintro _ _ _ ⟨rfl, rfl, rfl⟩
    refine ⟨(fun _ => wk [0, 0, 0, 0] [0, 1] rfl rfl), ?_⟩
    refine htyU (y_wadd rfl rfl) <| htyU (y_wadd rfl rfl) <| htyU (y_wadd rfl rfl) <| ?_
    generalize hk : rootsL.getD i 0 = k
    refine htyU (yV (y_wadd rfl rfl) ((rfl : _ = Wd (rt v k (W.getD i 0))))) <| htyU (y_assign rfl) <| htend <| hsub (ρ' := [(10, _), (9, _), (8, _), (7, _), (17, _), (16, _), (6, _), (5, _), (4, _), (2, _), (0, _), (1, _)]) ⟨rfl, rfl, rfl, rfl, rfl, rfl, rfl, rfl, rfl, rfl, rfl, rfl, trivial⟩ <| hmemQ (X' := [_, _, _, _]) (S' := [_, _]) (fun _ m => m) <| hthen <| hseq <| hdrw [1] [(0, some 0), (2, some 1), (3, some 1), (4, some 1), (5, some 1), (6, some 1), (7, some 1), (8, some 1), (9, some 1), (10, some 1), (11, some 1), (12, some 1), (13, some 1), (14, some 1), (15, some 1), (16, some 1), (1, none), (17, some 1), (18, some 1)] (by kernel_rfl) (by kernel_rfl) rfl 99 <| htyU (y_move rfl) <| htyU (y_move rfl) <| htyU (y_idxA1 rfl rfl Tryd.underlying222 sz120 (show ((1 : Nat) : Int) = 1 from rfl) (by omega)) <| hty (fun m => y_ld1 rfl ag120 ((m.blk 0 rfl).cells0 1 _ (wds_get (by omega)))) <| htyU (y_wand rfl rfl) <| htyU (y_move rfl) <| htyU (y_idxA1 rfl rfl Tryd.underlying222 sz120 (show ((2 : Nat) : Int) = 2 from rfl) (by omega)) <| hty (fun m => y_ld1 rfl ag120 ((m.blk 0 rfl).cells0 2 _ (wds_get (by omega)))) <| htyU (y_wand rfl rfl) <| htyU (y_wxor rfl rfl) <| htyU (y_idxA1 rfl rfl Tryd.underlying222 sz120 (show ((1 : Nat) : Int) = 1 from rfl) (by omega)) <| hty (fun m => y_ld1 rfl ag120 ((m.blk 0 rfl).cells0 1 _ (wds_get (by omega)))) <| htyU (y_idxA1 rfl rfl Tryd.underlying222 sz120 (show ((2 : Nat) : Int) = 2 from rfl) (by omega)) <| hty (fun m => y_ld1 rfl ag120 ((m.blk 0 rfl).cells0 2 _ (wds_get (by omega)))) <| htyU (y_wand rfl rfl) <| htyU (y_wxor rfl rfl) <| ?_
    refine htx (xh_call rfl Tryd.call173 (turnedC (by decide) (by decide) (by decide) (n1 := 2) (n2 := 13) (n3 := 22)) [] rfl [] rfl ?_)
    rintro _ _ _ ⟨rfl, rfl, rfl⟩
    refine ⟨(fun _ => wk [0, 0, 0, 0] [0, 1] rfl rfl), ?_⟩
    refine htyU (yV (y_wadd rfl rfl) ((rfl : _ = Wd (ru v)))) <| htyU (y_assign rfl) <| htend <| hsub (ρ' := [(11, _), (10, _), (9, _), (8, _), (7, _), (17, _), (16, _), (6, _), (5, _), (4, _), (2, _), (0, _), (1, _)]) ⟨rfl, rfl, rfl, rfl, rfl, rfl, rfl, rfl, rfl, rfl, rfl, rfl, rfl, trivial⟩ <| hmemQ (X' := [_, _, _, _]) (S' := [_, _]) (fun _ m => m) <| hthen <| hreg <| hy (fun _ => y_move rfl) <| hy (fun _ => y_move rfl) <| hy (fun _ => y_wadd rfl rfl) <| hy (fun _ => y_idxA1 rfl rfl Tryd.underlying222 sz120 (show ((0 : Nat) : Int) = 0 from rfl) (by omega)) <| hy (fun m => y_ld1 rfl ag120 ((m.blk 0 rfl).cells0 0 _ (wds_get (by omega)))) <| hy (fun _ => y_idxA1 rfl rfl Tryd.underlying222 sz120 (show ((1 : Nat) : Int) = 1 from rfl) (by omega)) <| hy (fun m => y_ld1 rfl ag120 ((m.blk 0 rfl).cells0 1 _ (wds_get (by omega)))) <| hy (fun _ => y_idxA1 rfl rfl Tryd.underlying222 sz120 (show ((2 : Nat) : Int) = 2 from rfl) (by omega)) <| hy (fun m => y_ld1 rfl ag120 ((m.blk 0 rfl).cells0 2 _ (wds_get (by omega)))) <| hy (fun _ => y_idxA1 rfl rfl Tryd.underlying222 sz120 (show ((3 : Nat) : Int) = 3 from rfl) (by omega)) <| hy (fun m => y_ld1 rfl ag120 ((m.blk 0 rfl).cells0 3 _ (wds_get (by omega)))) <| hy (fun _ => y_move rfl) <| hy (fun _ => y_wadd rfl rfl) <| hy (fun _ => y_idxA1 rfl rfl Tryd.underlying222 sz120 (show ((4 : Nat) : Int) = 4 from rfl) (by omega)) <| hy (fun m => y_ld1 rfl ag120 ((m.blk 0 rfl).cells0 4 _ (wds_get (by omega)))) <| hy (fun _ => y_idxA1 rfl rfl Tryd.underlying222 sz120 (show ((5 : Nat) : Int) = 5 from rfl) (by omega)) <| hy (fun m => y_ld1 rfl ag120 ((m.blk 0 rfl).cells0 5 _ (wds_get (by omega)))) <| hy (fun _ => y_idxA1 rfl rfl Tryd.underlying222 sz120 (show ((6 : Nat) : Int) = 6 from rfl) (by omega)) <| hy (fun m => y_ld1 rfl ag120 ((m.blk 0 rfl).cells0 6 _ (wds_get (by omega)))) <| hy (fun _ => yV (y_buildA (n := 8) ti222 (by kernel_rfl) rfl (by kernel_rfl) rfl (by kernel_rfl) (by kernel_rfl) (wds_cells (l := [_, _, _, _, _, _, _, _]))) ((rfl : _ = Value.agg (wds (rnd v k (W.getD i 0))).toArray))) <| ?_
    refine hx0 (xh_stA 0 rfl rfl rfl sz222 rfl wds_one (by rw [wds_length, hv]) ?_)
    refine hend <| hsub (ρ' := [(11, _), (10, _), (9, _), (8, _), (7, _), (17, _), (16, _), (6, _), (5, _), (4, _), (2, _), (0, _), (1, _)]) ⟨rfl, rfl, rfl, rfl, rfl, rfl, rfl, rfl, rfl, rfl, rfl, rfl, rfl, trivial⟩ <| hmemQ (X' := [_, _, _, _]) (S' := [_, _]) (fun _ m => m) <| hqblock <| hthen <| hreg <| hy (fun _ => y_add rfl rfl (w64 (by omega) (by omega))) <| hy (fun _ => y_move rfl) <| hend <| hsub (ρ' := [(16, _), (11, _), (10, _), (9, _), (8, _), (7, _), (17, _), (6, _), (5, _), (4, _), (2, _), (0, _), (1, _)]) ⟨rfl, rfl, rfl, rfl, rfl, rfl, rfl, rfl, rfl, rfl, rfl, rfl, rfl, trivial⟩ <| ?_
    refine hmemQ (fun w m => m.eqX 0 rfl (show _ = RBlk g6 222 (wds (rnds W h (i + 1))) from by rw [← hvd, ← hk]; rfl)) ?_
    refine hnext1 (i + 1) ⟨rfl, rfl, rfl, rfl, rfl, rfl, rfl, trivial⟩ [0, 0, 0, 0] rfl [0, 1] rfl (by omega) (by omega)
  · obtain rfl : i = 64 := by omega
    generalize hvv : rnds W h 64 = v at hv ⊢
    refine hmemC (fun w m => m.eqX 0 rfl (show _ = RBlk g6 222 (wds (hsum v h 0)) from by rw [hsum_zero])) ?_
    refine hexit <| hthen_exit <| hthen_exit <| hqblock_exit <| hthen <| hseq <| hseq <| hreg <| hy (fun _ => y_move rfl) <| hend <| hthen <| hblock <| ?_
    refine hloop1 (fun j => 8 - j) (fun j => [(86, .int .i64 (j : Nat))]) (fun j => [RBlk g6 222 (wds (hsum v h j))]) (fun j => []) (fun j => j ≤ 8) 0 [(17, _), (16, _), (6, _), (5, _), (4, _), (2, _), (0, _), (1, _)] ⟨rfl, rfl, rfl, rfl, rfl, rfl, rfl, rfl, trivial⟩ [0] rfl [] rfl (Nat.zero_le _) ⟨rfl, trivial⟩ (fun j hj8 => ?_)
    have hsl := hsum_length v h j
    refine hseq <| hreg <| hy (fun _ => y_lss rfl rfl) <| hend <| hthen <| hseq <| ?_
    refine hif rfl (fun hj => ?_) (fun hj => ?_)
    · refine hcskip <| hthen <| hseq <| hblock <| hseq <| hreg <| hy (fun _ => y_move rfl) <| hy (fun _ => y_assign rfl) <| hend <| hsub (ρ' := [(12, _), (87, _), (86, _), (17, _), (16, _), (6, _), (5, _), (4, _), (2, _), (0, _), (1, _)]) ⟨rfl, rfl, rfl, rfl, rfl, rfl, rfl, rfl, rfl, rfl, rfl, trivial⟩ <| hthen <| hdrw [8] [(0, some 0), (1, some 0), (2, some 0), (3, some 0), (4, some 0), (5, some 0), (6, some 0), (7, some 0), (8, none)] (by kernel_rfl) (by kernel_rfl) rfl 0 <| htyU (y_move rfl) <| htyU (y_idxA1 rfl rfl Tryd.underlying222 sz120 rfl (by omega)) <| hty (fun m => y_ld1 rfl ag120 ((m.blk 0 rfl).cells0 j _ (wds_get (by omega)))) <| htyU (y_move rfl) <| htyU (y_idxA1 rfl rfl Tryd.underlying222 sz120 rfl (by omega)) <| hty (fun m => y_ld1 rfl ag120 ((m.blk 3 rfl).cells0 j _ (wds_get (by omega)))) <| htyU (yV (y_wadd rfl rfl) ((rfl : _ = Wd (v_ (hsum v h j) j + v_ h j)))) <| htyU (y_idxA1 rfl rfl Tryd.underlying222 sz120 rfl (by omega)) <| ?_
      refine htx0 (xh_st1a 0 rfl rfl rfl sz120 rfl (by rw [wds_length]; omega) ⟨(fun h => absurd h (by decide)), ?_⟩)
      refine htend <| hsub (ρ' := [(12, _), (87, _), (86, _), (17, _), (16, _), (6, _), (5, _), (4, _), (2, _), (0, _), (1, _)]) ⟨rfl, rfl, rfl, rfl, rfl, rfl, rfl, rfl, rfl, rfl, rfl, trivial⟩ <| hmemQ (X' := [_, _, _, _]) (S' := [_, _]) (fun _ m => m) <| hqblock <| hthen <| hreg <| hy (fun _ => y_add rfl rfl (w64 (by omega) (by omega))) <| hy (fun _ => y_move rfl) <| hend <| hsub (ρ' := [(86, _), (12, _), (87, _), (17, _), (16, _), (6, _), (5, _), (4, _), (2, _), (0, _), (1, _)]) ⟨rfl, rfl, rfl, rfl, rfl, rfl, rfl, rfl, rfl, rfl, rfl, trivial⟩ <| ?_
      refine hmemQ (fun w m => m.eqX 0 rfl (show _ = RBlk g6 222 (wds (hsum v h (j + 1))) from by rw [Nat.zero_add, wds_set, hsum_succ (by omega)])) ?_
      refine hnext1 (j + 1) ⟨rfl, rfl, rfl, rfl, rfl, rfl, rfl, rfl, rfl, trivial⟩ [0, 0, 0, 0] rfl [0, 1] rfl (by omega) (by omega)
    · obtain rfl : j = 8 := by omega
      have hB : hsum v h 8 = blockL h l := by rw [blockL, hW, hvv]
      rw [hB]
      have hbl := blockL_length hh l
      refine hexit <| hthen_exit <| hthen_exit <| hqblock_exit <| hthen <| hseq <| hreg <| hy (fun m => yV (y_ldN rfl ag222 sz222 (by rw [wds_length, hbl]) ((m.blk 0 rfl).cells0)) ((rfl : _ = Value.agg (wds (blockL h l)).toArray))) <| ?_
      refine hx0 (xh_stA 2 rfl rfl rfl sz222 (by rw [wds_length, hbl]) wds_one rfl ?_)
      refine hend <| hsub (ρ' := [(87, _), (86, _), (17, _), (16, _), (6, _), (5, _), (4, _), (2, _), (0, _), (1, _)]) ⟨rfl, rfl, rfl, rfl, rfl, rfl, rfl, rfl, rfl, rfl, trivial⟩ <| hmemQ (X' := [_, _, _, _]) (S' := [_, _]) (fun _ m => m) <| hthen <| hret <| ?_
      exact hretN trivial rfl rfl ag222 sz222 (by rw [wds_length, hbl]) (fun m => (m.blk 0 rfl).cells0) [] rfl [] rfl ⟨rfl, rfl, rfl⟩
end Go.Proofs.YtfikjheicjamhaaDoor
end
section
/- What the condition 'laid' gives: the program's table of words. -/
set_option linter.unusedVariables false
set_option linter.unusedSimpArgs false
set_option maxRecDepth 100000
namespace Go.Proofs.YtfikjheicjamhaaDoor
open Go.Eng Go.Hx Go.ChangeShapes Go.WideShapes Go.ChangeAt Go.WideMaps Go.WideElems Go.RowKit
theorem gRoots : Tryd.prog.globalNamed "lighterage/sha.roots" = some 0 := by kernel_rfl
theorem tRoots : (Tryd.prog.globals[0]?).map (·.type) = some 254 := by kernel_rfl
theorem roots_list : (Rows.laid_lighterage_sha_roots : DataW Unit) = .agg (rootsL.map fun x => .lit (.int .u32 (x.toNat : Int))) := by kernel_rfl
theorem door_met (os : Os) (args : Array Value) : laidMetH Tryd.prog [("lighterage/sha.roots", Rows.laid_lighterage_sha_roots)] ((World.doorLaid Tryd.prog 400 os).forCall (fun _ _ => 0) ⟨#[], args, []⟩).memory :=
  laidMetH_of_parts3 (fuel := 8) (laidMet_of_run' 8 (by kernel_rfl) (by kernel_rfl)) (by kernel_rfl) (by kernel_rfl)
theorem roots_of_laid {W : World} (h : laidMetH Tryd.prog [("lighterage/sha.roots", Rows.laid_lighterage_sha_roots)] W) : RRoots.holds W := by
  rw [MakeChecks.laidMetH_plain _ _ _ (by kernel_rfl)] at h
  obtain ⟨ps, ⟨g0, t0, cs0, f0, p0, q0, hg0, ht0, hv0, hd0, _, _⟩, _, _⟩ := h
  obtain rfl := Option.some.inj (gRoots.symm.trans hg0)
  obtain rfl := Option.some.inj (tRoots.symm.trans ht0)
  rw [roots_list] at hd0
  obtain ⟨xs, m1, rfl, hx1, hlen, hn, hel⟩ := DataW.trod_array Tryd.underlying254 hd0
  have c3 : Tryd.prog.cellsOf 120 = 1 := by kernel_rfl
  simp only [Prod.mk.injEq, DataW.agg.injEq] at hx1
  refine ⟨by rw [wds_length]; rfl, fun _ => by simp, fun j u hu => ?_⟩
  have hj : j < 64 := by
    obtain ⟨h1, _⟩ := List.getElem?_eq_some_iff.1 hu
    rw [wds_length] at h1
    exact h1
  have h0 := hel j hj
  have hxj : (xs.map (·.1))[j]? = (rootsL.map fun x => DataW.lit (Lit.int .u32 (x.toNat : Int)))[j]? := by rw [← hx1.1]
  obtain ⟨y, hy⟩ : ∃ y, xs[j]? = some y := ⟨_, List.getElem?_eq_getElem (by omega)⟩
  rw [hy] at h0
  obtain ⟨n, e1, e2, _⟩ := DataW.trod_int Tryd.underlying120 h0
  rw [List.getElem?_map, hy, List.getElem?_map] at hxj
  rw [wds, List.getElem?_map] at hu
  cases hr : rootsL[j]? with
  | none => rw [hr] at hu; cases hu
  | some r =>
    rw [hr] at hu hxj
    rw [e2] at hxj
    have hn2 : n = (r.toNat : Int) := by simpa using hxj
    have hu2 : u = .int .u32 (r.toNat : Int) := by simpa using hu.symm
    have h5 := World.var?_cell hg0 hv0 j
    rw [c3, Nat.mul_one] at e1
    have h6 : cs0[j]? = some (.int .u32 n) := by
      have h7 : (List.take 1 (List.drop j cs0.toList))[0]? = some (.int .u32 n) := by rw [e1]; rfl
      rw [List.getElem?_take, if_pos (by decide), List.getElem?_drop, Nat.add_zero] at h7
      simpa using h7
    show W.cell? ((Option.getD (some _) d0).add j) = some u
    rw [hu2, ← hn2, ← h6, ← h5]
    have e : (⟨0, 0, none⟩ : Addr).add j = ⟨0, j, none⟩ := by simp [Addr.add]; omega
    exact congrArg W.cell? e
end Go.Proofs.YtfikjheicjamhaaDoor
end
section
/- How bytes stand: plain lists; and the entry of bytes.Compare over slices. No program. -/
set_option linter.unusedVariables false
set_option linter.unusedSimpArgs false
namespace Go.Hx
open Go.Eng
abbrev cb := Lib.compareBytes
end Go.Hx
end
section
/- Contracts of small functions on bytes and digests (as in my Hexa texts). -/
set_option linter.unusedVariables false
set_option linter.unusedSimpArgs false
set_option maxRecDepth 20000
namespace Go.Proofs.YtfikjheicjamhaaDoor
open Go.Eng Go.Hx
theorem short_c (s : List UInt8) (m : Nat) (w : World) : Calls Tryd.prog 92 #[.string (strOf s), .int .i64 (m : Int)] w fun e w' => e = .returned (.string (strOf (s.take m))) ∧ w = w' := by
  refine enter (N := 13) Tryd.func92 rfl rfl (by simp) ?_
  refine cseq <| creg <| nq (y_assign rfl) <| nend <| qthen <| cseq <| cseq <| creg <| nq (y_move rfl) <| nq (y_lenStr rfl Tryd.underlying9) <| nq (y_move rfl) <| nq (y_gtr rfl rfl) <| nend <| qsub (sub_cons (t := 8) rfl <| sub_cons (t := 4) rfl <| sub_cons (t := 0) rfl <| sub_cons (t := 1) rfl <| sub_nil) <| qthen <| ?_
  refine cif rfl (fun h => ?_) (fun h => ?_)
  · rw [strOf_size] at h
    refine cseq <| creg <| nq (y_move rfl) <| nq (y_move rfl) <| nq (y_strTo rfl rfl Tryd.underlying9 rfl ((by rw [bytesOf_strOf]; omega))) <| nq (y_assign rfl) <| nend <| qsub (sub_cons (t := 4) rfl <| sub_cons (t := 8) rfl <| sub_cons (t := 0) rfl <| sub_cons (t := 1) rfl <| sub_nil) <| qthen <| cret <| qthen_ret <| ?_
    exact ret1 trivial rfl rfl ⟨rfl, rfl⟩
  · rw [strOf_size] at h
    refine cskip <| qthen <| cseq <| creg <| nq (y_move rfl) <| nq (y_assign rfl) <| nend <| qsub (sub_cons (t := 4) rfl <| sub_cons (t := 8) rfl <| sub_cons (t := 0) rfl <| sub_cons (t := 1) rfl <| sub_nil) <| qthen <| cret <| ?_
    refine ret1 trivial rfl rfl ⟨?_, rfl⟩
    rw [List.take_of_length_le (by omega)]
theorem take_drop_set {a b : List UInt8} {j n : Nat} (ha : a.length = n) (hb : b.length = n) (hj : j < n) : (a.take j ++ b.drop j).set j (a.getD j 0) = a.take (j + 1) ++ b.drop (j + 1) := by
  rw [List.set_append, if_neg (by rw [List.length_take]; omega), List.length_take, Nat.min_eq_left (by omega), Nat.sub_self, take_snoc (by omega), List.append_assoc]
  congr 1
  rw [List.drop_eq_getElem_cons (by omega)]
  rfl
theorem zeros_eq : (Value.agg (b8s (List.replicate 32 0)).toArray).cells.toList = b8s (List.replicate 32 0) := rfl
theorem of (A : Option Addr) (c : Nat) (l : List UInt8) (w : World) (hr : Rd w 1 A 32 (b8s l)) :
    Calls Tryd.prog 72 #[.slice A 32 c] w fun e w' => e = .returned (.agg (b8s l).toArray) ∧ Fr No w w' := by
  have hl : l.length = 32 := by have := hr.1; rw [b8s_length] at this; omega
  refine enter (N := 16) Tryd.func72 rfl rfl (by simp) ?_
  refine cseq <| creg <| ?_
  refine nx (x_alloc ti23 fun g1 w1 hg1 hf1 hb1 => ?_)
  refine nend <| qthen <| cseq <| creg <| ?_
  refine nx (x_alloc ti23 fun g2 w2 hg2 hf2 hb2 => ?_)
  rw [zeros_eq] at hb1 hb2
  have hlt := hb1.lt
  refine nend <| qthen <| cseq <| cseq <| creg <| nq (y_assign rfl) <| nend <| qthen <| cblock <| ?_
  refine cloop1 (fun j => 32 - j) (fun j => [(0, .slice A 32 c), (2, .pointer (some ⟨g1, 0, none⟩)), (3, .pointer (some ⟨g2, 0, none⟩)), (4, .int .i64 (j : Nat))]) (fun j w' => j ≤ 32 ∧ Fr No w w' ∧ Blk w' g1 23 (b8s (List.replicate 32 0)) ∧ Blk w' g2 23 (b8s (l.take j ++ (List.replicate 32 0).drop j))) 0 (⟨Nat.zero_le _, hf1.trans0 hf2, hb1.fr0 hf2, hb2⟩) (sub_cons (t := 0) rfl <| sub_cons (t := 2) rfl <| sub_cons (t := 3) rfl <| sub_cons (t := 4) rfl <| sub_nil) (fun j w4 ⟨hj, hf4, i1, i2⟩ => ?_)
  refine cseq <| cseq <| creg <| nq (y_move rfl) <| nq (y_lss rfl rfl) <| nend <| qsub (sub_cons (t := 6) rfl <| sub_cons (t := 0) rfl <| sub_cons (t := 2) rfl <| sub_cons (t := 3) rfl <| sub_cons (t := 4) rfl <| sub_nil) <| qthen <| ?_
  refine cif rfl (fun h => ?_) (fun h => ?_)
  · have ga := b8s_get (l := l) (i := j) (by omega)
    have hlen : (l.take j ++ (List.replicate 32 (0 : UInt8)).drop j).length = 32 := by rw [List.length_append, List.length_take, List.length_drop, List.length_replicate]; omega
    have r4 := hr.fr0 hf4
    refine cskip <| qthen <| cseq <| cblock <| creg <| nq (y_move rfl) <| nq (y_move rfl) <| nq (y_move rfl) <| nq (y_idxS1 rfl rfl Tryd.underlying32 sz5 r4.2.1 rfl (by omega)) <| nq (y_ld1 rfl ag5 (r4.cell ga)) <| nq (y_idxA1 rfl rfl Tryd.underlying23 sz5 rfl (by omega)) <| ?_
    refine nx0 (x_st1a rfl rfl sz5 rfl i2 (by rw [b8s_length]; omega) fun w5 hf5 i2' hs5 => ?_)
    rw [Nat.zero_add, ← b8s_set, take_drop_set hl (List.length_replicate ..) (by omega)] at i2'
    refine nend <| qsub (sub_cons (t := 6) rfl <| sub_cons (t := 0) rfl <| sub_cons (t := 2) rfl <| sub_cons (t := 3) rfl <| sub_cons (t := 4) rfl <| sub_nil) <| qblock <| qthen <| creg <| nq (y_move rfl) <| nq (y_add rfl rfl (w64 (by omega) (by omega))) <| nq (y_assign rfl) <| nend <| qsub (sub_cons (t := 4) rfl <| sub_cons (t := 6) rfl <| sub_cons (t := 0) rfl <| sub_cons (t := 2) rfl <| sub_cons (t := 3) rfl <| sub_nil) <| ?_
    refine qloop1 (j + 1) (sub_cons (t := 0) rfl <| sub_cons (t := 2) rfl <| sub_cons (t := 3) rfl <| sub_cons (t := 4) rfl <| sub_nil) (⟨by omega, hf4.new hf5 (fun i hi => by have := hf1.size; omega), i1.fr hf5 (by omega), i2'⟩) (by omega)
  · obtain rfl : j = 32 := by omega
    have e : l.take 32 ++ (List.replicate 32 (0 : UInt8)).drop 32 = l := by
      rw [List.take_of_length_le (by omega), List.drop_of_length_le (by simp)]; simp
    rw [e] at i2
    refine cexit <| qthen_exit <| qthen_exit <| qblock_exit <| qthen <| cseq <| creg <| nq (y_ldN rfl ag23 sz23 ((by rw [b8s_length]; exact hl)) i2.cells0) <| ?_
    refine nx0 (x_stD rfl rfl sz23 hl i1 (by rw [b8s_length]; simp) fun w5 hf5 i1' hs5 => ?_)
    refine nend <| qsub (sub_cons (t := 6) rfl <| sub_cons (t := 0) rfl <| sub_cons (t := 2) rfl <| sub_cons (t := 3) rfl <| sub_cons (t := 4) rfl <| sub_nil) <| qthen <| cret <| ?_
    exact retN trivial rfl rfl ag23 sz23 (by rw [b8s_length]; exact hl) i1'.cells0 ⟨rfl, hf4.new hf5 (fun i hi => by omega)⟩
theorem bytes (a : List UInt8) (w : World) (ha : a.length = 32) :
    Calls Tryd.prog 105 #[.agg (b8s a).toArray] w fun e w' => ∃ v, e = .returned v ∧ Go.Eng.Own w' w.heap.size 5 1 v 32 (b8s a) ∧ Fr No w w' := by
  refine enter (N := 16) Tryd.func105 rfl rfl (by simp) ?_
  refine cseq <| creg <| ?_
  refine nx (x_box rfl fun g1 w1 hg1 hf1 hb1 => ?_)
  rw [cells_agg] at hb1
  refine nq (y_assign rfl) <| nend <| qthen <| cseq <| creg <| nq (y_assign rfl) <| nend <| qthen <| cseq <| cseq <| creg <| nq (y_assign rfl) <| nend <| qthen <| cblock <| ?_
  refine cloop2 (fun k _ => 32 - k) (fun k v => [(1, .pointer (some ⟨g1, 0, none⟩)), (3, v), (4, .int .i64 (k : Nat))]) (fun k v w' => k ≤ 32 ∧ Go.Eng.Own w' w1.heap.size 5 1 v k (b8s (a.take k)) ∧ Fr No w1 w') 0 (.slice none 0 0) (⟨Nat.zero_le _, Own.nil w1 w1.heap.size _ 1, Fr.refl _ _⟩) (sub_cons (t := 1) rfl <| sub_cons (t := 3) rfl <| sub_cons (t := 4) rfl <| sub_nil) (fun k v w2 ⟨hk, ho, hf⟩ => ?_)
  refine cseq <| cseq <| creg <| nq (y_move rfl) <| nq (y_lss rfl rfl) <| nend <| qsub (sub_cons (t := 6) rfl <| sub_cons (t := 1) rfl <| sub_cons (t := 3) rfl <| sub_cons (t := 4) rfl <| sub_nil) <| qthen <| ?_
  refine cif rfl (fun h => ?_) (fun h => ?_)
  · have ga := b8s_get (l := a) (i := k) (by omega)
    refine cskip <| qthen <| cseq <| cblock <| creg <| nq (y_move rfl) <| nq (y_move rfl) <| nq (y_idxA1 rfl rfl Tryd.underlying23 sz5 rfl (by omega)) <| nq (y_ld1 rfl ag5 ((hb1.fr0 hf).cells0 _ _ ga)) <| ?_
    refine nx (x_bsl Tryd.underlying32 ti5 rfl rfl rfl (by simp [Value.cells, B8]) (by decide) (by decide) fun g w3 hg hf3 hb3 => ?_)
    refine nx (x_app rfl rfl Tryd.underlying32 Tryd.underlying32 (by exact .inl rfl) ti5 rfl (ho.fr0 hf3) (Src.of_blk hb3 rfl) (b8s_one (l := [_])) (by unfold maxLen; omega) (by omega) (hf.trans0 hf3).size fun v4 w4 ho4 hf4 hv4 => ?_)
    refine nq (y_assign rfl) <| nend <| qsub (sub_cons (t := 3) rfl <| sub_cons (t := 6) rfl <| sub_cons (t := 1) rfl <| sub_cons (t := 4) rfl <| sub_nil) <| qblock <| qthen <| creg <| nq (y_move rfl) <| nq (y_add rfl rfl (w64 (by omega) (by omega))) <| nq (y_assign rfl) <| nend <| qsub (sub_cons (t := 4) rfl <| sub_cons (t := 3) rfl <| sub_cons (t := 6) rfl <| sub_cons (t := 1) rfl <| sub_nil) <| ?_
    refine qloop2 (k + 1) v4 (sub_cons (t := 1) rfl <| sub_cons (t := 3) rfl <| sub_cons (t := 4) rfl <| sub_nil) (⟨by omega, by rw [take_snoc (by omega), b8s_append]; exact ho4, (hf.trans0 hf3).new hf4 (fun i hi => (ho.from hi).1)⟩) (by omega)
  · obtain rfl : k = 32 := by omega
    refine cexit <| qthen_exit <| qthen_exit <| qblock_exit <| qthen <| cseq <| creg <| nq (y_move rfl) <| nq (y_assign rfl) <| nend <| qsub (sub_cons (t := 2) rfl <| sub_cons (t := 6) rfl <| sub_cons (t := 1) rfl <| sub_cons (t := 3) rfl <| sub_cons (t := 4) rfl <| sub_nil) <| qthen <| cret <| ?_
    rw [List.take_of_length_le (by omega)] at ho
    exact ret1 trivial rfl rfl ⟨v, rfl, ho.wide hf1.size, hf1.trans0 hf⟩
end Go.Proofs.YtfikjheicjamhaaDoor
end
section
/- Contracts of layer 1 in other seats: texts of digests, and back; errors.Is (as in my Hexa texts). -/
set_option linter.unusedVariables false
set_option linter.unusedSimpArgs false
set_option maxRecDepth 20000
namespace Go.Proofs.YtfikjheicjamhaaDoor
open Go.Eng Go.Hx Go.Extern
theorem text (A : Option Addr) (n c : Nat) (l : List UInt8) (w : World) (hr : Rd w 1 A n (b8s l)) (hn : n ≤ 70368744177664) :
    Calls Tryd.prog 135 #[.slice A n c] w fun e w' => e = .returned (.string (strOf (hexs l))) ∧ Fr No w w' := by
  have hl : l.length = n := by have := hr.1; rw [b8s_length] at this; omega
  refine enter (N := 28) Tryd.func135 rfl rfl (by simp) ?_
  refine cseq <| creg <| nq (y_assign rfl) <| nend <| qthen <| cseq <| creg <| nq (y_assign rfl) <| nend <| qthen <| cseq <| cseq <| creg <| nq (y_move rfl) <| nq (y_lenS rfl Tryd.underlying32) <| nq (y_move rfl) <| nend <| qsub (sub_cons (t := 7) rfl <| sub_cons (t := 6) rfl <| sub_cons (t := 3) rfl <| sub_cons (t := 2) rfl <| sub_cons (t := 0) rfl <| sub_nil) <| qthen <| cblock <| ?_
  refine cloop2 (fun k _ => n - k) (fun k v => [(0, .slice A n c), (3, v), (6, .int .i64 n), (7, .int .i64 (k : Nat))]) (fun k v w' => k ≤ n ∧ Go.Eng.Own w' w.heap.size 5 1 v (2 * k) (b8s (hexs (l.take k))) ∧ Fr No w w') 0 (.slice none 0 0) (⟨Nat.zero_le _, Own.nil w w.heap.size _ 1, Fr.refl _ _⟩) (sub_cons (t := 0) rfl <| sub_cons (t := 3) rfl <| sub_cons (t := 6) rfl <| sub_cons (t := 7) rfl <| sub_nil) (fun k v w1 ⟨hk, ho, hf⟩ => ?_)
  refine cseq <| creg <| nq (y_lss rfl rfl) <| nend <| qthen <| cseq <| ?_
  refine cif rfl (fun h => ?_) (fun h => ?_)
  · have hkn : k < n := by omega
    have hb := (l.getD k 0).toNat_lt
    refine cskip <| qthen <| cseq <| cblock <| cseq <| creg <| nq (y_move rfl) <| nq (y_assign rfl) <| nend <| qsub (sub_cons (t := 4) rfl <| sub_cons (t := 8) rfl <| sub_cons (t := 0) rfl <| sub_cons (t := 3) rfl <| sub_cons (t := 6) rfl <| sub_cons (t := 7) rfl <| sub_nil) <| qthen <| ?_
    refine cdrw [(0, false), (1, false), (2, false), (3, false), (4, false), (5, false), (6, false), (7, false), (8, false), (9, false), (10, false), (11, false), (12, false), (13, true), (14, true), (15, false)] (by kernel_rfl) (by kernel_rfl) rfl (fun w' => Fr No w w') (hf.trans0 (Fr.drew _)) (fun w2 hf2 hS2 => ?_)
    refine sq (fun w_ hS_ => y_move rfl) <| sq (fun w_ hS_ => y_move rfl) <| sq (fun w_ hS_ => y_move rfl) <| sq (fun w_ hS_ => y_idxS1 rfl rfl Tryd.underlying32 sz5 hr.2.1 rfl (by omega)) <| sq (fun w_ hS_ => y_ld1 rfl ag5 (((hr.fr0 hS_).cell (b8s_get (by omega))))) <| sq (fun w_ hS_ => y_shr (p := 16) rfl rfl (by decide) (by decide) (by decide)) <| sq (fun w_ hS_ => y_idxStr rfl rfl Tryd.underlying9 rfl ((hexd_hi _))) <| sq (fun w_ hS_ => y_move rfl) <| sq (fun w_ hS_ => y_move rfl) <| sq (fun w_ hS_ => y_idxS1 rfl rfl Tryd.underlying32 sz5 hr.2.1 rfl (by omega)) <| sq (fun w_ hS_ => y_ld1 rfl ag5 (((hr.fr0 hS_).cell (b8s_get (by omega))))) <| sq (fun w_ hS_ => y_bits (by simp) rfl rfl ((and15 _))) <| sq (fun w_ hS_ => y_idxStr rfl rfl Tryd.underlying9 rfl ((hexd_lo _))) <| ?_
    refine sx (x_bsl Tryd.underlying32 ti5 rfl rfl rfl (by simp [Value.cells, B8]) (by decide) (by decide) fun g w3 hg hf3 hb3 => ?_)
    have hS3 : Fr No w w3 := hS2.trans0 hf3
    refine ⟨hS3, ?_⟩
    refine sx (x_app rfl rfl Tryd.underlying32 Tryd.underlying32 (by exact .inl rfl) ti5 rfl (ho.fr0 (hf2.trans0 hf3)) (Src.of_rd (Own.rd (Own.made hb3 (Nat.le_refl _) (Nat.le_refl _) (by decide) (by rfl))).2.2) (by simp [Value.cells]; exact ⟨rfl, rfl⟩) (by unfold maxLen; omega) (by omega) hS3.size fun v4 w4 ho4 hf4 hv4 => ?_)
    have hS4 : Fr No w w4 := hS3.new hf4 (fun i hi => (ho.from hi).1)
    refine ⟨hS4, ?_⟩
    refine sq (fun w_ hS_ => y_assign rfl) <| send <| qsub (sub_cons (t := 3) rfl <| sub_cons (t := 4) rfl <| sub_cons (t := 8) rfl <| sub_cons (t := 0) rfl <| sub_cons (t := 6) rfl <| sub_cons (t := 7) rfl <| sub_nil) <| qblock <| qthen <| creg <| nq (y_add rfl rfl (w64 (by omega) (by omega))) <| nq (y_move rfl) <| nend <| qsub (sub_cons (t := 7) rfl <| sub_cons (t := 3) rfl <| sub_cons (t := 4) rfl <| sub_cons (t := 8) rfl <| sub_cons (t := 0) rfl <| sub_cons (t := 6) rfl <| sub_nil) <| ?_
    refine qloop2 (k + 1) v4 (sub_cons (t := 0) rfl <| sub_cons (t := 3) rfl <| sub_cons (t := 6) rfl <| sub_cons (t := 7) rfl <| sub_nil) (⟨by omega, ?_, hS4⟩) (by omega)
    have e1 : 2 * k + 2 = 2 * (k + 1) := by omega
    have e2 : hexs (l.take (k + 1)) = hexs (l.take k) ++ hex1 (l.getD k 0) := hexs_snoc (by omega)
    rw [e1] at ho4
    rw [e2, b8s_append]
    exact ho4
  · obtain rfl : k = n := by omega
    obtain ⟨A', c', rfl, hc'⟩ := ho.slice
    have hro := (Own.rd ho).2.2
    rw [List.take_of_length_le (by omega)] at hro
    refine cexit <| qthen_exit <| qthen_exit <| qblock_exit <| qthen <| cseq <| creg <| nq (y_move rfl) <| nq (y_b2s rfl Tryd.underlying32 Tryd.underlying5 Tryd.underlying9 hro) <| nq (y_assign rfl) <| nend <| qsub (sub_cons (t := 2) rfl <| sub_cons (t := 8) rfl <| sub_cons (t := 0) rfl <| sub_cons (t := 3) rfl <| sub_cons (t := 6) rfl <| sub_cons (t := 7) rfl <| sub_nil) <| qthen <| cret <| ?_
    exact ret1 trivial rfl rfl ⟨rfl, hf⟩
theorem rtext (A : Option Addr) (n c : Nat) (l : List UInt8) (w : World) (hr : Rd w 1 A n (b8s l)) (hn : n ≤ 70368744177664) :
    Calls Tryd.prog 136 #[.slice A n c] w fun e w' => e = .returned (.string (strOf (hexs l))) ∧ Fr No w w' := by
  have hl : l.length = n := by have := hr.1; rw [b8s_length] at this; omega
  refine enter (N := 40) Tryd.func136 rfl rfl (by simp) ?_
  refine cseq <| creg <| nq (y_assign rfl) <| nend <| qthen <| cseq <| creg <| nq (y_assign rfl) <| nend <| qthen <| cseq <| creg <| nq (y_assign rfl) <| nend <| qthen <| cseq <| cseq <| creg <| nq (y_assign rfl) <| nend <| qthen <| cblock <| ?_
  refine cloop1 (fun k => n - k) (fun k => [(0, .slice A n c), (3, .string ⟨#[48, 49, 50, 51, 52, 53, 54, 55, 56, 57, 97, 98, 99, 100, 101, 102]⟩), (4, .string (strOf (hexs (l.take k)))), (5, .int .i64 (k : Nat))]) (fun k w' => k ≤ n ∧ Fr No w w') 0 (⟨Nat.zero_le _, Fr.refl _ _⟩) (sub_cons (t := 0) rfl <| sub_cons (t := 3) rfl <| sub_cons (t := 4) rfl <| sub_cons (t := 5) rfl <| sub_nil) (fun k w1 ⟨hk, hf⟩ => ?_)
  refine cseq <| cseq <| creg <| nq (y_move rfl) <| nq (y_move rfl) <| nq (y_lenS rfl Tryd.underlying32) <| nq (y_lss rfl rfl) <| nend <| qsub (sub_cons (t := 11) rfl <| sub_cons (t := 0) rfl <| sub_cons (t := 3) rfl <| sub_cons (t := 4) rfl <| sub_cons (t := 5) rfl <| sub_nil) <| qthen <| ?_
  refine cif rfl (fun h => ?_) (fun h => ?_)
  · have hkn : k < n := by omega
    have hb := (l.getD k 0).toNat_lt
    have hr1 := hr.fr0 hf
    refine cskip <| qthen <| cseq <| cblock <| cseq <| creg <| nq (y_move rfl) <| nq (y_move rfl) <| nq (y_idxS1 rfl rfl Tryd.underlying32 sz5 hr.2.1 rfl (by omega)) <| nq (y_ld1 rfl ag5 (hr1.cell (b8s_get (by omega)))) <| nq (y_conv rfl Tryd.underlying5 Tryd.underlying3 ((wb8 _))) <| nq (y_quo rfl rfl (by omega) (by omega) (w64 (by omega) (by omega))) <| nq (y_assign rfl) <| nend <| qsub (sub_cons (t := 6) rfl <| sub_cons (t := 11) rfl <| sub_cons (t := 0) rfl <| sub_cons (t := 3) rfl <| sub_cons (t := 4) rfl <| sub_cons (t := 5) rfl <| sub_nil) <| qthen <| cseq <| creg <| nq (y_move rfl) <| nq (y_move rfl) <| nq (y_idxS1 rfl rfl Tryd.underlying32 sz5 hr.2.1 rfl (by omega)) <| nq (y_ld1 rfl ag5 (hr1.cell (b8s_get (by omega)))) <| nq (y_conv rfl Tryd.underlying5 Tryd.underlying3 ((wb8 _))) <| nq (y_rem rfl rfl (by omega) (by omega)) <| nq (y_assign rfl) <| nend <| qsub (sub_cons (t := 7) rfl <| sub_cons (t := 6) rfl <| sub_cons (t := 11) rfl <| sub_cons (t := 0) rfl <| sub_cons (t := 3) rfl <| sub_cons (t := 4) rfl <| sub_cons (t := 5) rfl <| sub_nil) <| qthen <| ?_
    have hll := hexs_length (l.take k)
    have htl : (l.take k).length ≤ k := List.length_take_le _ _
    refine cdrw [(0, false), (1, false), (2, false), (3, false), (4, false), (5, false), (6, false), (7, false), (8, false), (9, false), (10, false), (11, false), (12, false), (13, false)] (by kernel_rfl) (by kernel_rfl) rfl (fun w' => Fr No w w') (hf.trans0 (Fr.drew _)) (fun w2 hf2 hS2 => ?_)
    refine sq (fun w_ hS_ => y_move rfl) <| sq (fun w_ hS_ => y_move rfl) <| sq (fun w_ hS_ => y_move rfl) <| sq (fun w_ hS_ => y_move rfl) <| sq (fun w_ hS_ => y_add rfl rfl (w64 (by omega) (by omega))) <| sq (fun w_ hS_ => y_strBoth rfl rfl rfl Tryd.underlying9 (show (((l.getD k 0).toNat / 16 : Nat) : Int) = _ by omega) (show (((l.getD k 0).toNat / 16 + 1 : Nat) : Int) = _ by omega) ((by omega)) ((by show _ ≤ 16; omega))) <| sq (fun w_ hS_ => y_sadd rfl rfl ((by simp [strOf_size]; omega))) <| sq (fun w_ hS_ => y_move rfl) <| sq (fun w_ hS_ => y_move rfl) <| sq (fun w_ hS_ => y_move rfl) <| sq (fun w_ hS_ => y_add rfl rfl (w64 (by omega) (by omega))) <| sq (fun w_ hS_ => y_strBoth rfl rfl rfl Tryd.underlying9 (show (((l.getD k 0).toNat % 16 : Nat) : Int) = _ by omega) (show (((l.getD k 0).toNat % 16 + 1 : Nat) : Int) = _ by omega) ((by omega)) ((by show _ ≤ 16; omega))) <| sq (fun w_ hS_ => yV (y_sadd rfl rfl ((by simp [strOf_size, ByteArray.size_append]; omega))) (congrArg Value.string (hexs_step (by omega)))) <| sq (fun w_ hS_ => y_assign rfl) <| send <| qsub (sub_cons (t := 4) rfl <| sub_cons (t := 7) rfl <| sub_cons (t := 6) rfl <| sub_cons (t := 11) rfl <| sub_cons (t := 0) rfl <| sub_cons (t := 3) rfl <| sub_cons (t := 5) rfl <| sub_nil) <| qblock <| qthen <| creg <| nq (y_move rfl) <| nq (y_add rfl rfl (w64 (by omega) (by omega))) <| nq (y_assign rfl) <| nend <| qsub (sub_cons (t := 5) rfl <| sub_cons (t := 4) rfl <| sub_cons (t := 7) rfl <| sub_cons (t := 6) rfl <| sub_cons (t := 11) rfl <| sub_cons (t := 0) rfl <| sub_cons (t := 3) rfl <| sub_nil) <| ?_
    refine qloop1 (k + 1) (sub_cons (t := 0) rfl <| sub_cons (t := 3) rfl <| sub_cons (t := 4) rfl <| sub_cons (t := 5) rfl <| sub_nil) (⟨by omega, hS2⟩) (by omega)
  · obtain rfl : k = n := by omega
    refine cexit <| qthen_exit <| qthen_exit <| qblock_exit <| qthen <| cseq <| creg <| nq (y_move rfl) <| nq (y_assign rfl) <| nend <| qsub (sub_cons (t := 2) rfl <| sub_cons (t := 11) rfl <| sub_cons (t := 0) rfl <| sub_cons (t := 3) rfl <| sub_cons (t := 4) rfl <| sub_cons (t := 5) rfl <| sub_nil) <| qthen <| cret <| ?_
    refine ret1 trivial rfl rfl ⟨?_, hf⟩
    rw [List.take_of_length_le (by omega)]
theorem name (a : List UInt8) (w : World) (ha : a.length = 32) :
    Calls Tryd.prog 90 #[.agg (b8s a).toArray] w fun e w' => e = .returned (.string (strOf (hexs a))) ∧ Fr No w w' := by
  refine enter (N := 5) Tryd.func90 rfl rfl (by simp) ?_
  refine cseq <| creg <| ?_
  refine nx (x_box rfl fun g1 w1 hg1 hf1 hb1 => ?_)
  rw [cells_agg] at hb1
  refine nq (y_assign rfl) <| nend <| qthen <| cseq <| creg <| nq (y_slArr rfl Tryd.underlying23 sz5) <| ?_
  refine nx (x_call rfl Tryd.call135 (text _ _ _ a _ (Rd.of_blk hb1 (by rw [b8s_length]; omega)) (by omega)) ?_)
  rintro e_ w2 ⟨rfl, hf2⟩
  refine ⟨_, rfl, ?_⟩
  refine nq (y_assign rfl) <| nend <| qsub (sub_cons (t := 2) rfl <| sub_cons (t := 1) rfl <| sub_cons (t := 0) rfl <| sub_nil) <| qthen <| cret <| ?_
  exact ret1 trivial rfl rfl ⟨rfl, hf1.trans0 hf2⟩
theorem isTypeOf (v : Value) (w : World) : (Extern.ReflectliteType.typeOf #[.iface 33 v]).run Tryd.prog w = .ok (.iface 228 (.agg #[.pointer (some ⟨2, 33, none⟩)])) w := by kernel_rfl
theorem isComparable (w : World) : ((Extern.ReflectliteType.method fun t => do Rtype.noPackHeld "Comparable" t; pure (.bool (← typeInfo t).comparable)) #[.agg #[.pointer (some ⟨2, 33, none⟩)]]).run Tryd.prog w = .ok (.bool true) w := by kernel_rfl
theorem isMethodComparable (v : Value) (w : World) : (Go.method (Tryd.prog.types.size + Made.depth) 228 v "Comparable").run Tryd.prog w = .ok (219, v) w := by kernel_rfl
theorem noIs (v : Value) (xT : TypeId) (w : World) : (Instr.typeAssert (.iface 33 v) xT 230 true).run Tryd.prog w = .ok (.tuple #[.nilIface, .bool false]) w := run_typeAssert_lacksB Tryd.underlying230 (by kernel_rfl) (by kernel_rfl) v xT w
theorem noUnwrap (v : Value) (xT : TypeId) (w : World) : (Instr.typeAssert (.iface 33 v) xT 233 true).run Tryd.prog w = .ok (.tuple #[.nilIface, .bool false]) w := run_typeAssert_lacksB Tryd.underlying233 (by kernel_rfl) (by kernel_rfl) v xT w
theorem noUnwraps (v : Value) (xT : TypeId) (w : World) : (Instr.typeAssert (.iface 33 v) xT 235 true).run Tryd.prog w = .ok (.tuple #[.nilIface, .bool false]) w := run_typeAssert_lacksB Tryd.underlying235 (by kernel_rfl) (by kernel_rfl) v xT w
theorem isErr (k m : Int) (w : World) :
    Calls Tryd.prog 138 #[.iface 33 (.int .i64 k), .iface 33 (.int .i64 m), .bool true] w fun e w' => e = .returned (.bool (decide (k = m))) ∧ w = w' := by
  refine enter (N := 54) Tryd.func138 rfl rfl (by simp) ?_
  refine cseq <| creg <| nq (y_assign rfl) <| nend <| qthen <| cblock <| ?_
  refine cloop1 (fun _ => 0) (fun _ => [(0, .iface 33 (.int .i64 k)), (1, .iface 33 (.int .i64 m)), (2, .bool true)]) (fun _ w' => w = w') 0 (rfl) (sub_cons (t := 0) rfl <| sub_cons (t := 1) rfl <| sub_cons (t := 2) rfl <| sub_nil) (fun i w1 hw => ?_)
  obtain rfl := hw
  refine cblock <| cseq <| cseq <| creg <| nq (y_move rfl) <| nq (y_move rfl) <| ng rfl rfl rfl (y_move rfl) <| ng rfl rfl rfl (y_move rfl) <| ng rfl rfl rfl (((y_eqII rfl rfl Tryd.underlying199 (by kernel_rfl) Tryd.underlying33))) <| nq (y_pickT rfl rfl) <| nend <| qsub (sub_cons (t := 19) rfl <| sub_cons (t := 0) rfl <| sub_cons (t := 1) rfl <| sub_cons (t := 2) rfl <| sub_nil) <| qthen <| ?_
  refine cif rfl (fun h => ?_) (fun h => ?_)
  · refine cseq <| creg <| nq (y_assign rfl) <| nend <| qthen <| cret <| qthen_ret <| qblock_ret <| qthen_ret <| qblock_ret <| ?_
    refine ret1 trivial rfl rfl ⟨?_, rfl⟩
    rw [decide_eq_true h]
  · refine cskip <| qthen <| cseq <| cseq <| creg <| nq (y_move rfl) <| nq (y_tas rfl ((noIs _ _ _))) <| nq (y_move rfl) <| nq (y_extract rfl rfl) <| nq (y_extract rfl rfl) <| nq (y_assign rfl) <| nq (y_assign rfl) <| nend <| qsub (sub_cons (t := 8) rfl <| sub_cons (t := 7) rfl <| sub_cons (t := 19) rfl <| sub_cons (t := 0) rfl <| sub_cons (t := 1) rfl <| sub_cons (t := 2) rfl <| sub_nil) <| qthen <| cseq <| creg <| nq (y_move rfl) <| nq (y_move rfl) <| nskip rfl rfl rfl (by decide) <| nskip rfl rfl rfl (by decide) <| nskip rfl rfl rfl (by decide) <| nq (y_pickF rfl rfl) <| nend <| qsub (sub_cons (t := 30) rfl <| sub_cons (t := 8) rfl <| sub_cons (t := 7) rfl <| sub_cons (t := 19) rfl <| sub_cons (t := 0) rfl <| sub_cons (t := 1) rfl <| sub_cons (t := 2) rfl <| sub_nil) <| qthen <| ?_
    refine ciff rfl (rfl) ?_
    refine cskip <| qthen <| cseq <| creg <| nq (y_move rfl) <| nend <| qthen <| cblock <| cseq <| creg <| nq (y_tas rfl ((noUnwrap _ _ _))) <| nq (y_extract rfl rfl) <| nq (y_extract rfl rfl) <| nend <| qsub (sub_cons (t := 34) rfl <| sub_cons (t := 33) rfl <| sub_cons (t := 31) rfl <| sub_cons (t := 30) rfl <| sub_cons (t := 8) rfl <| sub_cons (t := 7) rfl <| sub_cons (t := 19) rfl <| sub_cons (t := 0) rfl <| sub_cons (t := 1) rfl <| sub_cons (t := 2) rfl <| sub_nil) <| qthen <| ?_
    refine ciff rfl (rfl) ?_
    refine cseq <| creg <| nq (y_tas rfl ((noUnwraps _ _ _))) <| nq (y_extract rfl rfl) <| nq (y_extract rfl rfl) <| nend <| qsub (sub_cons (t := 41) rfl <| sub_cons (t := 40) rfl <| sub_cons (t := 34) rfl <| sub_cons (t := 33) rfl <| sub_cons (t := 31) rfl <| sub_cons (t := 30) rfl <| sub_cons (t := 8) rfl <| sub_cons (t := 7) rfl <| sub_cons (t := 19) rfl <| sub_cons (t := 0) rfl <| sub_cons (t := 1) rfl <| sub_cons (t := 2) rfl <| sub_nil) <| qthen <| ?_
    refine ciff rfl (rfl) ?_
    refine cseq <| creg <| nq (y_assign rfl) <| nend <| qsub (sub_cons (t := 41) rfl <| sub_cons (t := 40) rfl <| sub_cons (t := 34) rfl <| sub_cons (t := 33) rfl <| sub_cons (t := 31) rfl <| sub_cons (t := 30) rfl <| sub_cons (t := 8) rfl <| sub_cons (t := 7) rfl <| sub_cons (t := 19) rfl <| sub_cons (t := 0) rfl <| sub_cons (t := 1) rfl <| sub_cons (t := 2) rfl <| sub_nil) <| qthen <| cseq <| creg <| nq (y_assign rfl) <| nend <| qthen <| cret <| qblock_ret <| qblock_ret <| qthen_ret <| qblock_ret <| ?_
    refine ret1 trivial rfl rfl ⟨?_, rfl⟩
    rw [decide_eq_false h]
theorem errorsIs (k m : Int) (w : World) :
    Calls Tryd.prog 93 #[.iface 33 (.int .i64 k), .iface 33 (.int .i64 m)] w fun e w' => e = .returned (.bool (decide (k = m))) ∧ w = w' := by
  refine enter (N := 22) Tryd.func93 rfl rfl (by simp) ?_
  refine cseq <| creg <| nq (y_assign rfl) <| nend <| qthen <| cseq <| cseq <| creg <| nq (y_move rfl) <| nq (((y_eqIN rfl rfl (by kernel_rfl)))) <| nq (y_move rfl) <| ng rfl rfl rfl (y_move rfl) <| ng rfl rfl rfl (((y_eqIN rfl rfl (by kernel_rfl)))) <| nq (y_pickF rfl rfl) <| nend <| qsub (sub_cons (t := 11) rfl <| sub_cons (t := 4) rfl <| sub_cons (t := 0) rfl <| sub_cons (t := 1) rfl <| sub_nil) <| qthen <| ?_
  refine ciff rfl (rfl) ?_
  refine cskip <| qthen <| cseq <| creg <| nq (y_move rfl) <| ?_
  refine nq (y_ext rfl Tryd.func137 (by kernel_rfl) (by kernel_rfl) (by kernel_rfl) (show _ = some Extern.ReflectliteType.typeOf by kernel_rfl) (isTypeOf _ _)) ?_
  refine nq (y_invE rfl rfl (isMethodComparable _ _) Tryd.func219 (by kernel_rfl) (by kernel_rfl) (by kernel_rfl) (g := Extern.ReflectliteType.method fun t => do Rtype.noPackHeld "Comparable" t; pure (.bool (← typeInfo t).comparable)) (by kernel_rfl) (isComparable _)) ?_
  refine nq (y_assign rfl) <| nend <| qsub (sub_cons (t := 5) rfl <| sub_cons (t := 11) rfl <| sub_cons (t := 4) rfl <| sub_cons (t := 0) rfl <| sub_cons (t := 1) rfl <| sub_nil) <| qthen <| cseq <| creg <| nq (y_move rfl) <| nq (y_move rfl) <| nq (y_move rfl) <| ?_
  refine nx (x_call rfl Tryd.call138 (isErr k m w) ?_)
  rintro e_ w1 ⟨rfl, rfl⟩
  refine ⟨_, rfl, ?_⟩
  refine nq (y_assign rfl) <| nend <| qsub (sub_cons (t := 4) rfl <| sub_cons (t := 5) rfl <| sub_cons (t := 11) rfl <| sub_cons (t := 0) rfl <| sub_cons (t := 1) rfl <| sub_nil) <| qthen <| cret <| ?_
  exact ret1 trivial rfl rfl ⟨rfl, rfl⟩
/-- so many bytes, made of any -/
def fill (l : List UInt8) (n : Nat) : List UInt8 := (List.range n).map fun i => l.getD (i % l.length) 0
theorem rname (a : List UInt8) (w : World) (ha : a.length = 32) :
    Calls Tryd.prog 91 #[.agg (b8s a).toArray] w fun e w' => e = .returned (.string (strOf (hexs a))) ∧ Fr No w w' := by
  refine enter (N := 6) Tryd.func91 rfl rfl (by simp) ?_
  refine cseq <| creg <| ?_
  refine nx (x_box rfl fun g1 w1 hg1 hf1 hb1 => ?_)
  rw [cells_agg] at hb1
  refine nq (y_assign rfl) <| nend <| qthen <| cseq <| creg <| nq (y_ldN rfl ag23 sz23 ((by rw [b8s_length]; exact ha)) hb1.cells0) <| ?_
  refine nx (x_call rfl Tryd.call105 (bytes a _ ha) ?_)
  rintro e_ w2 ⟨v, rfl, hv, hf2⟩
  refine ⟨_, rfl, ?_⟩
  obtain ⟨Av, cv, rfl, hcv⟩ := hv.slice
  refine nx (x_call rfl Tryd.call136 (rtext Av _ cv a _ ((Own.rd hv).2.2) (by omega)) ?_)
  rintro e_ w3 ⟨rfl, hf3⟩
  refine ⟨_, rfl, ?_⟩
  refine nq (y_assign rfl) <| nend <| qsub (sub_cons (t := 2) rfl <| sub_cons (t := 1) rfl <| sub_cons (t := 0) rfl <| sub_nil) <| qthen <| cret <| ?_
  exact ret1 trivial rfl rfl ⟨rfl, (hf1.trans0 hf2).trans0 hf3⟩
end Go.Proofs.YtfikjheicjamhaaDoor
end
section
/- Lists of digests in a row: plain lists. No program. -/
set_option linter.unusedVariables false
set_option linter.unusedSimpArgs false
namespace Go.Hx
open Go.Eng
/-- each ahead of the next -/
def Rise : List (List UInt8) → Prop
  | [] => True
  | [_] => True
  | a :: b :: r => cb a b < 0 ∧ Rise (b :: r)
instance : (l : List (List UInt8)) → Decidable (Rise l)
  | [] => isTrue trivial
  | [_] => isTrue trivial
  | a :: b :: r => @instDecidableAnd (cb a b < 0) (Rise (b :: r)) inferInstance (instDecidableRise (b :: r))
end Go.Hx
end
section
/- Contracts: what journals may be, their bytes. -/
set_option linter.unusedVariables false
set_option linter.unusedSimpArgs false
set_option maxRecDepth 20000
namespace Go.Proofs.YtfikjheicjamhaaDoor
open Go.Eng Go.Hx
/-- which journals may be -/
def JMay (ds : List (List UInt8)) : Prop := Rise ds ∧ ds.length ≤ 4096
instance (ds : List (List UInt8)) : Decidable (JMay ds) := inferInstanceAs (Decidable (_ ∧ _))
end Go.Proofs.YtfikjheicjamhaaDoor
end
section
/- Contracts: a journal's bytes. -/
set_option linter.unusedVariables false
set_option linter.unusedSimpArgs false
set_option maxRecDepth 20000
namespace Go.Proofs.YtfikjheicjamhaaDoor
open Go.Eng Go.Hx
theorem number (n : Nat) (w : World) (hn : n < 4294967296) :
    Calls Tryd.prog 63 #[.int .i64 (n : Int)] w fun e w' => ∃ v, e = .returned v ∧ Go.Eng.Own w' w.heap.size 5 1 v 4 (b8s (le4 n)) ∧ Fr No w w' := by
  refine enter (N := 21) Tryd.func63 rfl rfl (by simp) ?_
  refine cseq <| creg <| nq (y_assign rfl) <| nend <| qthen <| cseq <| creg <| nq (y_move rfl) <| nq (y_conv rfl Tryd.underlying3 Tryd.underlying120 ((w32 (by omega) (by omega)))) <| nq (y_assign rfl) <| nend <| qsub (sub_cons (t := 3) rfl <| sub_cons (t := 2) rfl <| sub_cons (t := 0) rfl <| sub_nil) <| qthen <| cseq <| creg <| nq (y_move rfl) <| nq (y_rem rfl rfl (by omega) (by omega)) <| nq (y_conv rfl Tryd.underlying120 Tryd.underlying5 ((show IntKind.u8.wrap ((n : Int) % 256) = ((UInt8.ofNat n).toNat : Int) by simp [IntKind.wrap, IntKind.signed, IntKind.bits]))) <| nq (y_move rfl) <| nq (y_quo rfl rfl (by omega) (by omega) (w32 (by omega) (by omega))) <| nq (y_rem rfl rfl (by omega) (by omega)) <| nq (y_conv rfl Tryd.underlying120 Tryd.underlying5 ((show IntKind.u8.wrap ((n : Int) / 256 % 256) = ((UInt8.ofNat (n / 256)).toNat : Int) by simp [IntKind.wrap, IntKind.signed, IntKind.bits]))) <| nq (y_move rfl) <| nq (y_quo rfl rfl (by omega) (by omega) (w32 (by omega) (by omega))) <| nq (y_rem rfl rfl (by omega) (by omega)) <| nq (y_conv rfl Tryd.underlying120 Tryd.underlying5 ((show IntKind.u8.wrap ((n : Int) / 65536 % 256) = ((UInt8.ofNat (n / 65536)).toNat : Int) by simp [IntKind.wrap, IntKind.signed, IntKind.bits]))) <| nq (y_move rfl) <| nq (y_quo rfl rfl (by omega) (by omega) (w32 (by omega) (by omega))) <| nq (y_conv rfl Tryd.underlying120 Tryd.underlying5 ((show IntKind.u8.wrap ((n : Int) / 16777216) = ((UInt8.ofNat (n / 16777216)).toNat : Int) by simp [IntKind.wrap, IntKind.signed, IntKind.bits]))) <| ?_
  refine nx (x_bsl Tryd.underlying32 ti5 rfl rfl rfl (by simp [Value.cells, B8]) (by decide) (by decide) fun g w1 hg hf1 hb1 => ?_)
  refine nq (y_assign rfl) <| nend <| qsub (sub_cons (t := 2) rfl <| sub_cons (t := 3) rfl <| sub_cons (t := 0) rfl <| sub_nil) <| qthen <| cret <| ?_
  exact ret1 trivial rfl rfl ⟨_, rfl, Own.made hb1 hg (Nat.le_refl _) (by decide) rfl, hf1⟩
end Go.Proofs.YtfikjheicjamhaaDoor
end
section
/- Contracts over things in memory, from contracts over worlds: the reference's small functions. -/
set_option linter.unusedVariables false
set_option linter.unusedSimpArgs false
set_option maxRecDepth 20000
namespace Go.Proofs.YtfikjheicjamhaaDoor
open Go.Eng Go.Hx
theorem shortC {s : List UInt8} {m : Nat} : Con Tryd.prog 92 [.string (strOf s), .int .i64 (m : Int)] [] [] (fun v_ X_ S_ => v_ = (.string (strOf (s.take m))) ∧ X_ = [] ∧ S_ = []) := by
  exact con_pure fun mm => Calls.mono (short_c s m _) (fun e w' ⟨h, hw⟩ => ⟨_, h, ⟨rfl, rfl, rfl⟩, hw ▸ Fr.refl _ _⟩)
end Go.Proofs.YtfikjheicjamhaaDoor
end
section
/- Contracts over things in memory: texts of digests, errors. -/
set_option linter.unusedVariables false
set_option linter.unusedSimpArgs false
set_option maxRecDepth 20000
namespace Go.Proofs.YtfikjheicjamhaaDoor
open Go.Eng Go.Hx
theorem hnameC {a : List UInt8} (ha : a.length = 32) : Con Tryd.prog 90 [.agg (b8s a).toArray] [] [] (fun v_ X_ S_ => v_ = (.string (strOf (hexs a))) ∧ X_ = [] ∧ S_ = []) := by
  exact con_pure fun m => Calls.mono (name a _ ha) (fun e w' ⟨h, hf⟩ => ⟨_, h, ⟨rfl, rfl, rfl⟩, hf⟩)
theorem rhnameC {a : List UInt8} (ha : a.length = 32) : Con Tryd.prog 91 [.agg (b8s a).toArray] [] [] (fun v_ X_ S_ => v_ = (.string (strOf (hexs a))) ∧ X_ = [] ∧ S_ = []) := by
  exact con_pure fun m => Calls.mono (rname a _ ha) (fun e w' ⟨h, hf⟩ => ⟨_, h, ⟨rfl, rfl, rfl⟩, hf⟩)
theorem errIsC {k q : Int} : Con Tryd.prog 93 [.iface 33 (.int .i64 k), .iface 33 (.int .i64 q)] [] [] (fun v_ X_ S_ => v_ = (.bool (decide (k = q))) ∧ X_ = [] ∧ S_ = []) := by
  exact con_pure fun m => Calls.mono (errorsIs k q _) (fun e w' ⟨h, hw⟩ => ⟨_, h, ⟨rfl, rfl, rfl⟩, hw ▸ Fr.refl _ _⟩)
end Go.Proofs.YtfikjheicjamhaaDoor
end
section
/- Contracts: strings.Contains of one letter; a text's names. -/
set_option linter.unusedVariables false
set_option linter.unusedSimpArgs false
set_option maxRecDepth 20000
namespace Go.Proofs.YtfikjheicjamhaaDoor
open Go.Eng Go.Hx
theorem sIndexByteC {l : List UInt8} {c : UInt8} : Con Tryd.prog 190 [.string (strOf l), B8 c] [] [] (fun v_ X_ S_ => v_ = (.int .i64 (Lib.indexByte l c)) ∧ X_ = [] ∧ S_ = []) := by
  refine henter (N := 8) Tryd.func190 rfl rfl (by simp) fun b => ?_
  refine hseq <| hreg <| hy (fun _ => y_assign rfl) <| hend <| hthen <| hseq <| hreg <| hy (fun _ => y_move rfl) <| hy (fun _ => y_move rfl) <| ?_
  refine hx (xh_y (fun m => y_ext rfl Tryd.func194 (by kernel_rfl) (by kernel_rfl) (by kernel_rfl) (show _ = some Extern.BytealgIndexByte.indexByte by kernel_rfl) (Lib.run_indexByteString _ _ _)) ?_)
  refine hy (fun _ => y_assign rfl) <| hend <| hsub (ρ' := [(4, _), (0, _), (1, _)]) ⟨rfl, rfl, rfl, trivial⟩ <| hthen <| hret <| ?_
  exact hret1 trivial rfl rfl [] rfl [] rfl ⟨(by congr 2; simp), rfl, rfl⟩
theorem slIndex1C {l : List UInt8} {c : UInt8} : Con Tryd.prog 187 [.string (strOf l), .string (strOf [c])] [] [] (fun v_ X_ S_ => v_ = (.int .i64 (Lib.indexByte l c)) ∧ X_ = [] ∧ S_ = []) := by
  refine henter (N := 143) Tryd.func187 rfl rfl (by simp) fun b => ?_
  refine hseq <| hreg <| hy (fun _ => y_assign rfl) <| hend <| hthen <| hseq <| hreg <| hy (fun _ => y_move rfl) <| hy (fun _ => yV (y_lenStr rfl Tryd.underlying9) ((rfl : _ = Value.int .i64 1))) <| hy (fun _ => y_assign rfl) <| hend <| hsub (ρ' := [(5, _), (4, _), (0, _), (1, _)]) ⟨rfl, rfl, rfl, rfl, trivial⟩ <| hthen <| hseq <| hblock <| hseq <| hreg <| hy (fun _ => y_move rfl) <| hy (fun _ => y_eql rfl rfl) <| hy (fun _ => y_move rfl) <| ?_
  refine hyg (o := _) rfl rfl rfl (fun _ => y_move rfl) <| hyg (o := _) rfl rfl rfl (fun _ => y_move rfl) <| hyg (o := _) rfl rfl rfl (fun _ => y_seq rfl rfl) <| hy (fun _ => y_pickF rfl rfl) <| hy (fun _ => y_assign rfl) <| hend <| hsub (ρ' := [(16, _), (5, _), (4, _), (0, _), (1, _)]) ⟨rfl, rfl, rfl, rfl, rfl, trivial⟩ <| hthen <| ?_
  refine hif rfl (fun h => ?_) (fun h => ?_)
  · obtain rfl := strOf_inj.1 h
    refine hseq <| hreg <| hy (fun _ => y_assign rfl) <| hend <| hthen <| hret <| hqblock_ret <| hthen_ret <| ?_
    exact hret1 trivial rfl rfl [] rfl [] rfl ⟨(by simp [Lib.indexByte]), rfl, rfl⟩
  · refine hseq <| hreg <| hy (fun _ => y_move rfl) <| hy (fun _ => y_eql rfl rfl) <| hy (fun _ => y_assign rfl) <| hend <| hsub (ρ' := [(24, _), (16, _), (5, _), (4, _), (0, _), (1, _)]) ⟨rfl, rfl, rfl, rfl, rfl, rfl, trivial⟩ <| hthen <| ?_
    refine hift rfl (rfl) ?_
    refine hseq <| hreg <| hy (fun _ => y_move rfl) <| hy (fun _ => y_move rfl) <| hy (fun _ => yV (y_idxStr rfl rfl Tryd.underlying9 rfl (strOf_at (by simp))) ((rfl : _ = B8 c))) <| ?_
    refine hx (xh_call rfl Tryd.call190 (sIndexByteC) [] rfl [] rfl ?_)
    rintro _ _ _ ⟨rfl, rfl, rfl⟩
    refine hy (fun _ => y_assign rfl) <| hend <| hsub (ρ' := [(4, _), (24, _), (16, _), (5, _), (0, _), (1, _)]) ⟨rfl, rfl, rfl, rfl, rfl, rfl, trivial⟩ <| hmemQ (X' := []) (S' := []) (fun _ m => m) <| hthen <| hret <| hqblock_ret <| hthen_ret <| ?_
    exact hret1 trivial rfl rfl [] rfl [] rfl ⟨rfl, rfl, rfl⟩
theorem stringsIndex1C {l : List UInt8} {c : UInt8} : Con Tryd.prog 171 [.string (strOf l), .string (strOf [c])] [] [] (fun v_ X_ S_ => v_ = (.int .i64 (Lib.indexByte l c)) ∧ X_ = [] ∧ S_ = []) := by
  refine henter (N := 8) Tryd.func171 rfl rfl (by simp) fun b => ?_
  refine hseq <| hreg <| hy (fun _ => y_assign rfl) <| hend <| hthen <| hseq <| hreg <| hy (fun _ => y_move rfl) <| hy (fun _ => y_move rfl) <| ?_
  refine hx (xh_call rfl Tryd.call187 (slIndex1C) [] rfl [] rfl ?_)
  rintro _ _ _ ⟨rfl, rfl, rfl⟩
  refine hy (fun _ => y_assign rfl) <| hend <| hsub (ρ' := [(4, _), (0, _), (1, _)]) ⟨rfl, rfl, rfl, trivial⟩ <| hmemQ (X' := []) (S' := []) (fun _ m => m) <| hthen <| hret <| ?_
  exact hret1 trivial rfl rfl [] rfl [] rfl ⟨rfl, rfl, rfl⟩
theorem contains1C {l : List UInt8} {c : UInt8} : Con Tryd.prog 153 [.string (strOf l), .string (strOf [c])] [] [] (fun v_ X_ S_ => v_ = (.bool (decide (c ∈ l))) ∧ X_ = [] ∧ S_ = []) := by
  refine henter (N := 9) Tryd.func153 rfl rfl (by simp) fun b => ?_
  refine hseq <| hreg <| hy (fun _ => y_assign rfl) <| hend <| hthen <| hseq <| hreg <| hy (fun _ => y_move rfl) <| hy (fun _ => y_move rfl) <| ?_
  refine hx (xh_call rfl Tryd.call171 (stringsIndex1C) [] rfl [] rfl ?_)
  rintro _ _ _ ⟨rfl, rfl, rfl⟩
  refine hy (fun _ => y_geq rfl rfl) <| hy (fun _ => y_assign rfl) <| hend <| hsub (ρ' := [(4, _), (0, _), (1, _)]) ⟨rfl, rfl, rfl, trivial⟩ <| hmemQ (X' := []) (S' := []) (fun _ m => m) <| hthen <| hret <| ?_
  exact hret1 trivial rfl rfl [] rfl [] rfl ⟨(by congr 1; rw [← Lib.contains_iff_indexByte]; simp), rfl, rfl⟩
/-- may a text be a name? -/
def Named (p : List UInt8) : Prop := p ≠ [] ∧ p.length ≤ 96 ∧ ¬ (0 : UInt8) ∈ p
instance (p : List UInt8) : Decidable (Named p) := by unfold Named; infer_instance
theorem str_nil (p : List UInt8) : strOf p ≠ ⟨#[]⟩ ↔ p ≠ [] := by
  rw [show (⟨#[]⟩ : ByteArray) = strOf [] from rfl]
  simp only [ne_eq, strOf_inj]
theorem namedC {p : List UInt8} : Con Tryd.prog 123 [.string (strOf p)] [] [] (fun v_ X_ S_ => v_ = (.bool (decide (Named p))) ∧ X_ = [] ∧ S_ = []) := by
  have hsz := strOf_size p
  refine henter (N := 15) Tryd.func123 rfl rfl (by simp) fun b => ?_
  refine hseq <| hreg <| hy (fun _ => y_assign rfl) <| hend <| hthen <| hseq <| hreg <| hy (fun _ => y_move rfl) <| hy (fun _ => y_sne rfl rfl) <| hy (fun _ => y_move rfl) <| ?_
  refine hsplit 5 rfl (fun h1 => ?_) (fun h1 => ?_)
  · have h1' := (str_nil p).1 h1
    refine hyg (o := _) rfl rfl rfl (fun _ => y_move rfl) <| hyg (o := _) rfl rfl rfl (fun _ => y_lenStr rfl Tryd.underlying9) <| hyg (o := _) rfl rfl rfl (fun _ => y_leq rfl rfl) <| hy (fun _ => y_pickT rfl rfl) <| hy (fun _ => y_move rfl) <| ?_
    refine hsplit 10 rfl (fun h2 => ?_) (fun h2 => ?_)
    · have h2' : p.length ≤ 96 := by omega
      refine hyg (o := _) rfl rfl rfl (fun _ => y_move rfl) <| ?_
      refine hxg (o := _) rfl rfl rfl (xh_call rfl Tryd.call153 (contains1C) [] rfl [] rfl ?_)
      rintro _ _ _ ⟨rfl, rfl, rfl⟩
      refine hyg (o := _) rfl rfl rfl (fun _ => y_notp rfl) <| hy (fun _ => y_pickT rfl rfl) <| hy (fun _ => y_assign rfl) <| hend <| hsub (ρ' := [(2, _), (0, _)]) ⟨rfl, rfl, trivial⟩ <| hmemQ (X' := []) (S' := []) (fun _ m => m) <| hthen <| hret <| ?_
      exact hret1 trivial rfl rfl [] rfl [] rfl ⟨(by congr 1; simp only [Named]; simp [h1', h2']), rfl, rfl⟩
    · have h2' : ¬ p.length ≤ 96 := by omega
      refine hskip rfl rfl rfl (by decide) <| hskip rfl rfl rfl (by decide) <| hskip rfl rfl rfl (by decide) <| hy (fun _ => y_pickF rfl rfl) <| hy (fun _ => y_assign rfl) <| hend <| hsub (ρ' := [(2, _), (0, _)]) ⟨rfl, rfl, trivial⟩ <| hthen <| hret <| ?_
      exact hret1 trivial rfl rfl [] rfl [] rfl ⟨(by congr 1; simp only [Named]; simp [h2']), rfl, rfl⟩
  · have h1' : ¬ p ≠ [] := fun h => h1 ((str_nil p).2 h)
    refine hskip rfl rfl rfl (by decide) <| hskip rfl rfl rfl (by decide) <| hskip rfl rfl rfl (by decide) <| hy (fun _ => y_pickF rfl rfl) <| hy (fun _ => y_move rfl) <| ?_
    refine hskip rfl rfl rfl (by decide) <| hskip rfl rfl rfl (by decide) <| hskip rfl rfl rfl (by decide) <| hy (fun _ => y_pickF rfl rfl) <| hy (fun _ => y_assign rfl) <| hend <| hsub (ρ' := [(2, _), (0, _)]) ⟨rfl, rfl, trivial⟩ <| hthen <| hret <| ?_
    exact hret1 trivial rfl rfl [] rfl [] rfl ⟨(by congr 1; simp only [Named]; simp [h1']), rfl, rfl⟩
end Go.Proofs.YtfikjheicjamhaaDoor
end
section
/- Contracts: a disk. -/
set_option linter.unusedVariables false
set_option linter.unusedSimpArgs false
set_option maxRecDepth 20000
namespace Go.Proofs.YtfikjheicjamhaaDoor
open Go.Eng Go.Hx
abbrev Files := List (List UInt8 × BRow)
def vals (l : Files) : List (List UInt8 × Value) := l.map fun x => (x.1, x.2.val)
def tot (l : Files) : Nat := (l.map fun x => x.2.n).sum
theorem vals_get : ∀ (l : Files) (p : List UInt8), aget (vals l) p = (aget l p).map BRow.val
  | [], p => rfl
  | (k, r) :: q, p => by
    have := vals_get q p
    simp only [vals, List.map_cons, aget] at this ⊢
    split <;> simp_all
theorem vals_put : ∀ (l : Files) (p : List UInt8) (r : BRow), aput (vals l) p r.val = vals (aput l p r)
  | [], p, r => rfl
  | (k, u) :: q, p, r => by
    have := vals_put q p r
    simp only [vals, List.map_cons, aput] at this ⊢
    split <;> simp_all
theorem vals_del : ∀ (l : Files) (p : List UInt8), adel (vals l) p = vals (adel l p)
  | [], p => rfl
  | (k, u) :: q, p => by
    have := vals_del q p
    simp only [vals, List.map_cons, adel] at this ⊢
    split <;> simp_all
theorem vals_at {l : Files} {j : Nat} {p : List UInt8 × Value} (h : (vals l)[j]? = some p) : ∃ r, l[j]? = some (p.1, r) ∧ p.2 = r.val := by
  simp only [vals, List.getElem?_map] at h
  cases hl : l[j]? with
  | none => rw [hl] at h; cases h
  | some x =>
    rw [hl] at h
    simp only [Option.map_some, Option.some.injEq] at h
    subst h
    exact ⟨x.2, rfl, rfl⟩
theorem vals_erase (l : Files) (j : Nat) : (vals l).eraseIdx j = vals (l.eraseIdx j) := (map_eraseIdx _ l j).symm
theorem tot_erase : ∀ {l : Files} {j : Nat} {x : List UInt8 × BRow}, l[j]? = some x → tot (l.eraseIdx j) + x.2.n = tot l
  | [], j, x, h => by simp at h
  | a :: q, 0, x, h => by
    simp only [List.getElem?_cons_zero, Option.some.injEq] at h
    subst h
    simp [tot]; omega
  | a :: q, j + 1, x, h => by
    simp only [List.getElem?_cons_succ] at h
    have := tot_erase h
    simp only [tot, List.eraseIdx_cons_succ, List.map_cons, List.sum_cons] at this ⊢
    omega
/-- a change that waits -/
inductive Chg
  | written (p : List UInt8) (r : BRow)
  | renamed (a b : List UInt8)
  | removed (p : List UInt8)
def Chg.row : Chg → Option BRow
  | .written _ r => some r
  | _ => none
def Chg.val : Chg → Value
  | .written p r => .iface 150 (.agg [SV p, r.val].toArray)
  | .renamed a b => .iface 206 (.agg [SV a, SV b].toArray)
  | .removed p => .iface 0 (.agg [SV p].toArray)
structure DSt where
  room : Int
  gs : Nat
  gl : Nat
  seen : Files
  lasts : Files
  waits : List Chg
  wA : Option Addr
  wc : Nat
  power : Int
def rowsOf (st : DSt) : List BRow := st.seen.map (·.2) ++ st.lasts.map (·.2) ++ st.waits.filterMap Chg.row
def dcells (st : DSt) : List Value := [.int .i64 st.room, .map (some st.gs), .map (some st.gl), .slice st.wA st.waits.length st.wc, .int .i64 st.power]
abbrev RDisk (g : Nat) (st : DSt) : Res := RPack [RBlk g 146 (dcells st), RMap SV st.gs (vals st.seen), RMap SV st.gl (vals st.lasts), ROwn 148 1 (.slice st.wA st.waits.length st.wc) st.waits.length (st.waits.map Chg.val), RRows (rowsOf st)]
def dinit (n : Int) (gs gl : Nat) : DSt := ⟨n, gs, gl, [], [], [], none, 0, -1⟩
theorem newC {n : Int} (h1 : 1 ≤ n) (h2 : n ≤ 1048576) : Con Tryd.prog 73 [.int .i64 n] [] [] (fun v_ X_ S_ => ∃ g gs gl, v_ = (.tuple #[.pointer (some ⟨g, 0, none⟩), .int .i64 0]) ∧ X_ = [RDisk g (dinit n gs gl)] ∧ S_ = []) := by
  refine henter (N := 15) Tryd.func73 rfl rfl (by simp) fun b => ?_
  refine hseq <| hreg <| hy (fun _ => y_assign rfl) <| hy (fun _ => y_assign rfl) <| hend <| hthen <| hseq <| hseq <| hreg <| hy (fun _ => y_move rfl) <| hy (fun _ => y_lss rfl rfl) <| hy (fun _ => y_move rfl) <| ?_
  refine hsplit 6 rfl (fun h => ?_) (fun h => ?_)
  · exact absurd h (by omega)
  · refine hyg (o := _) rfl rfl rfl (fun _ => y_move rfl) <| hyg (o := _) rfl rfl rfl (fun _ => y_gtr rfl rfl) <| hy (fun _ => y_pickF rfl rfl) <| hend <| hsub (ρ' := [(9, _), (3, _), (2, _), (0, _)]) ⟨rfl, rfl, rfl, rfl, trivial⟩ <| hthen <| ?_
    refine hiff rfl (decide_eq_false (by omega)) ?_
    refine hcskip <| hthen <| hseq <| hreg <| hy (fun _ => y_move rfl) <| ?_
    refine hx (xh_mkmap SV (fun g11 => ?_))
    refine hx (xh_mkmap SV (fun g12 => ?_))
    refine hy (fun _ => yV (y_build ti146 rfl rfl (by kernel_rfl) (.cons (o := 0) (sz := 1) (by kernel_rfl) rfl rfl (Nat.le_of_ble_eq_true rfl) (.cons (o := 1) (sz := 1) (by kernel_rfl) rfl rfl (Nat.le_of_ble_eq_true rfl) (.cons (o := 2) (sz := 1) (by kernel_rfl) rfl rfl (Nat.le_of_ble_eq_true rfl) (.cons (o := 4) (sz := 1) (by kernel_rfl) rfl rfl (Nat.le_of_ble_eq_true rfl) .nil))))) ((rfl : _ = Value.agg (dcells (dinit n g11 g12)).toArray))) <| ?_
    refine hx (xh_box rfl (fun g14 => ?_))
    refine hy (fun _ => y_assign rfl) <| hy (fun _ => y_assign rfl) <| hend <| hsub (ρ' := [(3, _), (2, _), (9, _), (0, _)]) ⟨rfl, rfl, rfl, rfl, trivial⟩ <| hmemQ (X' := [_, _, _]) (S' := []) (fun _ m => m) <| hthen <| hret <| ?_
    refine hmemQ (fun w m => m.addX (r' := ROwn 148 1 (.slice none 0 0) 0 []) (.refl _ _) (Own.nil _ _ _ _) (fun k hk => hk.elim)) ?_
    refine hmemQ (fun w m => m.noRows) ?_
    refine hmemQ (X' := RDisk g14 (dinit n g11 g12) :: _) (fun w m => (m.perm (takeR_perm [2, 3, 2, 1, 0] _ [_, _, _, _, _] _ rfl)).pack) ?_
    exact hret2 trivial rfl rfl rfl [0] rfl [] rfl ⟨_, _, _, rfl, rfl, rfl⟩
theorem upC {g : Nat} {st : DSt} : Con Tryd.prog 124 [.pointer (some ⟨g, 0, none⟩)] [RDisk g st] [] (fun v_ X_ S_ => v_ = (.bool (decide (st.power ≠ 0))) ∧ X_ = [RDisk g st] ∧ S_ = []) := by
  refine henter (N := 8) Tryd.func124 rfl rfl (by simp) fun b => ?_
  refine hmemC (fun w m => (m.perm (takeR_perm [0] _ [_] _ rfl)).unpack) ?_
  refine hseq <| hreg <| hy (fun _ => y_assign rfl) <| hend <| hthen <| hseq <| hreg <| hy (fun _ => y_move rfl) <| hy (fun _ => y_nilp rfl) <| hy (fun _ => y_fld rfl fa146_4 (by decide)) <| hy (fun m => y_ld1 rfl ag3 (ld_blk (m.blk 0 rfl) rfl)) <| hy (fun _ => y_neq rfl rfl) <| hy (fun _ => y_assign rfl) <| hend <| hsub (ρ' := [(2, _), (0, _)]) ⟨rfl, rfl, trivial⟩ <| hthen <| hret <| ?_
  refine hmemQ (X' := RDisk g st :: _) (fun w m => (m.perm (takeR_perm [0, 0, 0, 0, 0] _ [_, _, _, _, _] _ rfl)).pack) ?_
  exact hret1 trivial rfl rfl [0] rfl [] rfl ⟨rfl, rfl, rfl⟩
/-- a call that is done -/
def DSt.spent (st : DSt) : DSt := { st with power := if 0 < st.power then st.power - 1 else st.power }
theorem spendC {g : Nat} {st : DSt} (hp : st.power ≤ 1000000000000) : Con Tryd.prog 127 [.pointer (some ⟨g, 0, none⟩)] [RDisk g st] [] (fun v_ X_ S_ => v_ = (.tuple #[]) ∧ X_ = [RDisk g st.spent] ∧ S_ = []) := by
  refine henter (N := 14) Tryd.func127 rfl rfl (by simp) fun b => ?_
  refine hmemC (fun w m => (m.perm (takeR_perm [0] _ [_] _ rfl)).unpack) ?_
  refine hseq <| hreg <| hy (fun _ => y_move rfl) <| hy (fun _ => y_nilp rfl) <| hy (fun _ => y_fld rfl fa146_4 (by decide)) <| hy (fun m => y_ld1 rfl ag3 (ld_blk (m.blk 0 rfl) rfl)) <| hy (fun _ => y_gtr rfl rfl) <| hend <| hsub (ρ' := [(6, _), (0, _)]) ⟨rfl, rfl, trivial⟩ <| hthen <| ?_
  refine hif rfl (fun h => ?_) (fun h => ?_)
  · have e : st.spent = { st with power := st.power - 1 } := by simp only [DSt.spent, if_pos h]
    rw [e]
    refine hreg <| hy (fun _ => y_move rfl) <| hy (fun _ => y_nilp rfl) <| hy (fun _ => y_fld rfl fa146_4 (by decide)) <| hy (fun m => y_ld1 rfl ag3 (ld_blk (m.blk 0 rfl) rfl)) <| hy (fun _ => y_sub rfl rfl (w64 (by omega) (by omega))) <| hy (fun _ => y_nilp rfl) <| hy (fun _ => y_fld rfl fa146_4 (by decide)) <| ?_
    refine hx0 (xh_st1a 0 rfl rfl rfl sz3 rfl (by first | exact Nat.le_of_ble_eq_true rfl | simp) ?_)
    refine hend <| hsub (ρ' := [(6, _), (0, _)]) ⟨rfl, rfl, trivial⟩ <| hmemQ (X' := [_, _, _, _, _]) (S' := []) (fun _ m => m) <| ?_
    refine hmemQ (X' := RDisk g { st with power := st.power - 1 } :: _) (fun w m => (m.perm (takeR_perm [0, 0, 0, 0, 0] _ [_, _, _, _, _] _ rfl)).pack) ?_
    exact hret0 trivial rfl [0] rfl [] rfl ⟨rfl, rfl, rfl⟩
  · have e : st.spent = st := by simp only [DSt.spent, if_neg h]
    rw [e]
    refine hcskip <| ?_
    refine hmemQ (X' := RDisk g st :: _) (fun w m => (m.perm (takeR_perm [0, 0, 0, 0, 0] _ [_, _, _, _, _] _ rfl)).pack) ?_
    exact hret0 trivial rfl [0] rfl [] rfl ⟨rfl, rfl, rfl⟩
theorem usedC {g : Nat} {st : DSt} (ht : tot st.seen ≤ 1000000000000) : Con Tryd.prog 125 [.pointer (some ⟨g, 0, none⟩)] [RDisk g st] [] (fun v_ X_ S_ => v_ = (.int .i64 (tot st.seen : Nat)) ∧ X_ = [RDisk g st] ∧ S_ = []) := by
  refine henter (N := 20) Tryd.func125 rfl rfl (by simp) fun b => ?_
  refine hmemC (fun w m => (m.perm (takeR_perm [0] _ [_] _ rfl)).unpack) ?_
  refine hseq <| hreg <| hy (fun _ => y_assign rfl) <| hend <| hthen <| hseq <| hreg <| hy (fun _ => y_assign rfl) <| hend <| hthen <| hseq <| hseq <| hreg <| hy (fun _ => y_move rfl) <| hy (fun _ => y_nilp rfl) <| hy (fun _ => y_fld rfl fa146_1 (by decide)) <| hy (fun m => y_ld1 rfl ag143 (ld_blk (m.blk 0 rfl) rfl)) <| ?_
  refine hx (xh_range 1 rfl rfl Tryd.underlying143 (fun r10 => ?_))
  refine hend <| hsub (ρ' := [(10, _), (3, _), (2, _), (0, _)]) ⟨rfl, rfl, rfl, rfl, trivial⟩ <| hmemQ (X' := [_, _, _, _, _]) (S' := []) (fun _ m => m) <| hthen <| hblock <| ?_
  refine hloop3 (fun left n cur => left.length) (fun left n cur => [(3, .int .i64 (n : Nat))]) (fun left n cur => [RRng SV r10 st.gs (vals st.seen) (vals left) cur]) (fun left n cur => []) (fun left n cur => n + tot left = tot st.seen) st.seen 0 none [(10, _), (2, _), (0, _)] ⟨rfl, rfl, rfl, trivial⟩ [0] rfl [] rfl (Nat.zero_add _) ⟨rfl, trivial⟩ (fun left n cur hI => ?_)
  refine hseq <| hreg <| ?_
  refine hx (xh_next 0 rfl rfl (fun h0 => ?_) (fun j p hp => ?_))
  · obtain rfl : left = [] := List.map_eq_nil_iff.1 h0
    have hn : n = tot st.seen := by simpa [tot] using hI
    subst hn
    refine hy (fun _ => y_extract rfl rfl) <| hend <| hsub (ρ' := [(12, _), (3, _), (10, _), (2, _), (0, _)]) ⟨rfl, rfl, rfl, rfl, rfl, trivial⟩ <| hthen <| hseq <| ?_
    refine hiff rfl (rfl) ?_
    refine hexit <| hthen_exit <| hthen_exit <| hqblock_exit <| hthen <| hseq <| hreg <| hy (fun _ => y_move rfl) <| hy (fun _ => y_assign rfl) <| hend <| hsub (ρ' := [(2, _), (12, _), (3, _), (10, _), (0, _)]) ⟨rfl, rfl, rfl, rfl, rfl, trivial⟩ <| hthen <| hret <| ?_
    refine hmemQ (fun w m => m.rngEnd 0 rfl) ?_
    refine hmemQ (X' := RDisk g st :: _) (fun w m => (m.perm (takeR_perm [1, 0, 0, 0, 0] _ [_, _, _, _, _] _ rfl)).pack) ?_
    exact hret1 trivial rfl rfl [0] rfl [] rfl ⟨rfl, rfl, rfl⟩
  · obtain ⟨k, v⟩ := p
    obtain ⟨r, hr, e⟩ := vals_at hp
    obtain rfl : v = r.val := e
    have ht := tot_erase hr
    have hlt := (List.getElem?_eq_some_iff.1 hr).1
    simp only at ht
    refine hy (fun _ => y_extract rfl rfl) <| hend <| hsub (ρ' := [(12, _), (3, _), (10, _), (2, _), (0, _)]) ⟨rfl, rfl, rfl, rfl, rfl, trivial⟩ <| hthen <| hseq <| ?_
    refine hift rfl (rfl) ?_
    refine hcskip <| hthen <| hblock <| hseq <| hreg <| hy (fun m => y_entryM rfl (m.rngX 0 rfl)) <| hy (fun _ => yV (y_extract rfl rfl) ((rfl : _ = Value.slice r.A r.n r.c))) <| hy (fun _ => y_assign rfl) <| hend <| hsub (ρ' := [(5, _), (12, _), (3, _), (10, _), (2, _), (0, _)]) ⟨rfl, rfl, rfl, rfl, rfl, rfl, trivial⟩ <| hthen <| hreg <| hy (fun _ => y_move rfl) <| hy (fun _ => y_move rfl) <| hy (fun _ => y_lenS rfl Tryd.underlying32) <| hy (fun _ => y_add rfl rfl (w64 (by omega) (by omega))) <| hy (fun _ => y_assign rfl) <| hend <| hsub (ρ' := [(3, _), (5, _), (12, _), (10, _), (2, _), (0, _)]) ⟨rfl, rfl, rfl, rfl, rfl, rfl, trivial⟩ <| hqblock <| ?_
    refine hmemQ (fun w m => m.eqX 0 rfl (show _ = RRng SV r10 st.gs (vals st.seen) (vals (left.eraseIdx j)) (some (k, r.val)) from congrArg (fun q => RRng SV r10 st.gs (vals st.seen) q (some (k, r.val))) (vals_erase left j))) ?_
    refine hnext3 (left.eraseIdx j) (n + r.n) (some (k, r.val)) ⟨rfl, rfl, rfl, rfl, trivial⟩ [0, 0, 0, 0, 0] rfl [] rfl (by omega) (by rw [List.length_eraseIdx, if_pos hlt]; omega)
theorem aget_split {l : Files} (p : List UInt8) : (aget l p = none ∧ aget (vals l) p = none) ∨ ∃ r, aget l p = some r ∧ aget (vals l) p = some r.val := by
  rw [vals_get]
  cases aget l p with
  | none => exact .inl ⟨rfl, rfl⟩
  | some r => exact .inr ⟨r, rfl, rfl⟩
/-- why a file is not found -/
def foundE (st : DSt) (p : List UInt8) : Int := if st.power = 0 then 6 else if aget st.seen p = none then 4 else 0
theorem foundC {g : Nat} {st : DSt} {p : List UInt8} : Con Tryd.prog 118 [.pointer (some ⟨g, 0, none⟩), .string (strOf p)] [RDisk g st] [] (fun v_ X_ S_ => v_ = (.int .i64 (foundE st p)) ∧ X_ = [RDisk g st] ∧ S_ = []) := by
  have hf : foundE st p = foundE st p := rfl
  refine henter (N := 23) Tryd.func118 rfl rfl (by simp) fun b => ?_
  refine hmemC (fun w m => (m.perm (takeR_perm [0] _ [_] _ rfl)).unpack) ?_
  have hh : (aget (vals st.seen) p).isSome = decide (aget st.seen p ≠ none) := by
    rcases aget_split (l := st.seen) p with ⟨h1, h2⟩ | ⟨r, h1, h2⟩ <;> simp [h1, h2]
  refine hseq <| hreg <| hy (fun _ => y_assign rfl) <| hend <| hthen <| hseq <| hreg <| hy (fun _ => y_move rfl) <| hy (fun _ => y_nilp rfl) <| hy (fun _ => y_fld rfl fa146_1 (by decide)) <| hy (fun m => y_ld1 rfl ag143 (ld_blk (m.blk 0 rfl) rfl)) <| hy (fun _ => y_move rfl) <| hy (fun m => y_lookM (enc := SV) rfl rfl Tryd.underlying143 ti32 (strKey Tryd.underlying9) (m.mapX 1 rfl)) <| hy (fun _ => y_move rfl) <| hy (fun _ => y_extract rfl rfl) <| hy (fun _ => yV (y_extract rfl rfl) ((show Value.bool (aget (vals st.seen) p).isSome = .bool (decide (aget st.seen p ≠ none)) by rw [hh]))) <| hy (fun _ => y_assign rfl) <| hy (fun _ => y_assign rfl) <| hend <| hsub (ρ' := [(6, _), (4, _), (0, _), (1, _)]) ⟨rfl, rfl, rfl, rfl, trivial⟩ <| hthen <| hseq <| hblock <| hseq <| hreg <| ?_
  refine hmemL (X' := RDisk g st :: _) (fun w m => (m.perm (takeR_perm [0, 0, 0, 0, 0] _ [_, _, _, _, _] _ rfl)).pack) ?_
  refine hy (fun _ => y_move rfl) <| ?_
  refine hx (xh_call rfl Tryd.call124 (upC) [0] rfl [] rfl ?_)
  rintro _ _ _ ⟨rfl, rfl, rfl⟩
  refine hy (fun _ => y_notp rfl) <| hy (fun _ => y_assign rfl) <| hend <| hsub (ρ' := [(16, _), (6, _), (4, _), (0, _), (1, _)]) ⟨rfl, rfl, rfl, rfl, rfl, trivial⟩ <| hmemQ (X' := [_]) (S' := []) (fun _ m => m) <| hthen <| ?_
  refine hif rfl (fun h1 => ?_) (fun h1 => ?_)
  · refine hseq <| hreg <| hy (fun _ => y_assign rfl) <| hend <| hthen <| hret <| hqblock_ret <| hthen_ret <| ?_
    exact hret1 trivial rfl rfl [0] rfl [] rfl ⟨(by rw [foundE, if_pos (by omega)]), rfl, rfl⟩
  · refine hseq <| hreg <| hy (fun _ => y_move rfl) <| hy (fun _ => y_notp rfl) <| hy (fun _ => y_assign rfl) <| hend <| hsub (ρ' := [(20, _), (16, _), (6, _), (4, _), (0, _), (1, _)]) ⟨rfl, rfl, rfl, rfl, rfl, rfl, trivial⟩ <| hthen <| ?_
    refine hif rfl (fun h2 => ?_) (fun h2 => ?_)
    · refine hseq <| hreg <| hy (fun _ => y_assign rfl) <| hend <| hthen <| hret <| hqblock_ret <| hthen_ret <| ?_
      exact hret1 trivial rfl rfl [0] rfl [] rfl ⟨(by rw [foundE, if_neg (by omega), if_pos (Decidable.not_not.1 h2)]), rfl, rfl⟩
    · refine hcskip <| hqblock <| hthen <| hseq <| hreg <| hy (fun _ => y_assign rfl) <| hend <| hthen <| hret <| ?_
      exact hret1 trivial rfl rfl [0] rfl [] rfl ⟨(by rw [foundE, if_neg (by omega), if_neg (fun e => h2 (fun h => h e))]), rfl, rfl⟩
end Go.Proofs.YtfikjheicjamhaaDoor
end
section
/- Contracts: a disk's Read, Write, Sync. -/
set_option linter.unusedVariables false
set_option linter.unusedSimpArgs false
set_option maxRecDepth 20000
namespace Go.Proofs.YtfikjheicjamhaaDoor
open Go.Eng Go.Hx
theorem mem_seen {st : DSt} {p : List UInt8} {r : BRow} (h : aget st.seen p = some r) : r ∈ rowsOf st := by
  unfold rowsOf
  refine List.mem_append_left _ (List.mem_append_left _ ?_)
  exact List.mem_map.2 ⟨_, aget_mem h, rfl⟩
/-- what is read -/
def readB (st : DSt) (p : List UInt8) : List UInt8 := if foundE st p = 0 then ((aget st.seen p).map (·.l)).getD [] else []
theorem readB_no {st : DSt} {p : List UInt8} (h : foundE st p ≠ 0) : readB st p = [] := by rw [readB, if_neg h]
theorem readB_ok {st : DSt} {p : List UInt8} {r : BRow} (h : foundE st p = 0) (hr : aget st.seen p = some r) : readB st p = r.l := by rw [readB, if_pos h, hr]; rfl
theorem found_ok {st : DSt} {p : List UInt8} (h : foundE st p = 0) : ∃ r, aget st.seen p = some r := by
  unfold foundE at h
  split at h
  · omega
  · split at h
    · omega
    · rename_i h2
      cases hq : aget st.seen p with
      | none => exact absurd hq h2
      | some r => exact ⟨r, rfl⟩
def Small (st : DSt) : Prop := ∀ r ∈ rowsOf st, r.n ≤ 1000000000
theorem readC {g : Nat} {st : DSt} {p : List UInt8} (hs : Small st) : Con Tryd.prog 65 [.pointer (some ⟨g, 0, none⟩), .string (strOf p)] [RDisk g st] [] (fun v_ X_ S_ => ∃ v, v_ = (.tuple #[v, .int .i64 (foundE st p)]) ∧ X_ = [RDisk g st, ROwn 5 1 v (readB st p).length (b8s (readB st p))] ∧ S_ = []) := by
  refine henter (N := 20) Tryd.func65 rfl rfl (by simp) fun b => ?_
  refine hseq <| hreg <| hy (fun _ => y_assign rfl) <| hy (fun _ => y_assign rfl) <| hend <| hthen <| hseq <| hseq <| hreg <| hy (fun _ => y_move rfl) <| hy (fun _ => y_move rfl) <| ?_
  refine hx (xh_call rfl Tryd.call118 (foundC) [0] rfl [] rfl ?_)
  rintro _ _ _ ⟨rfl, rfl, rfl⟩
  refine hy (fun _ => y_assign rfl) <| hend <| hsub (ρ' := [(6, _), (5, _), (4, _), (0, _), (1, _)]) ⟨rfl, rfl, rfl, rfl, rfl, trivial⟩ <| hmemQ (X' := [_]) (S' := []) (fun _ m => m) <| hthen <| hseq <| hreg <| hy (fun _ => y_move rfl) <| hy (fun _ => y_neq rfl rfl) <| hend <| hsub (ρ' := [(11, _), (6, _), (5, _), (4, _), (0, _), (1, _)]) ⟨rfl, rfl, rfl, rfl, rfl, rfl, trivial⟩ <| hthen <| ?_
  refine hif rfl (fun h => ?_) (fun h => ?_)
  · rw [readB_no h]
    refine hseq <| hreg <| hy (fun _ => y_move rfl) <| hy (fun _ => y_assign rfl) <| hy (fun _ => y_assign rfl) <| hend <| hsub (ρ' := [(5, _), (4, _), (11, _), (6, _), (0, _), (1, _)]) ⟨rfl, rfl, rfl, rfl, rfl, rfl, trivial⟩ <| hthen <| hret <| hthen_ret <| ?_
    refine hmemQ (fun w m => m.addX (r' := ROwn 5 1 (.slice none 0 0) 0 []) (.refl _ _) (Own.nil _ _ _ _) (fun k hk => hk.elim)) ?_
    exact hret2 trivial rfl rfl rfl [1, 0] rfl [] rfl ⟨_, rfl, rfl, rfl⟩
  · have h0 := Decidable.not_not.1 h
    obtain ⟨r, hr⟩ := found_ok h0
    have hv : aget (vals st.seen) p = some r.val := by rw [vals_get, hr]; rfl
    rw [readB_ok h0 hr, h0]
    have hmem := mem_seen hr
    obtain ⟨i, hi⟩ := List.mem_iff_getElem?.1 hmem
    have hsm := hs r hmem
    refine hmemC (fun w m => (m.perm (takeR_perm [0] _ [_] _ rfl)).unpack) ?_
    refine hfactC (fun m => rdB ((View.ok (View.row hi)).1 _ (m.xres 4 rfl))) fun hrl => ?_
    have hrl := hrl.1
    refine hcskip <| hthen <| hseq <| hreg <| hy (fun _ => y_move rfl) <| hy (fun _ => y_nilp rfl) <| hy (fun _ => y_fld rfl fa146_1 (by decide)) <| hy (fun m => y_ld1 rfl ag143 (ld_blk (m.blk 0 rfl) rfl)) <| hy (fun _ => y_move rfl) <| hy (fun m => yV (y_lookM (enc := SV) rfl rfl Tryd.underlying143 ti32 (strKey Tryd.underlying9) (m.mapX 1 rfl)) ((show lookVal false (.slice none 0 0) (aget (vals st.seen) p) = .slice r.A r.n r.c by rw [hv]; rfl))) <| ?_
    refine hx (xh_calll rfl Tryd.call108 (cloneC (by omega)) [] rfl (.x 4 rfl (View.row hi) .nil) ?_)
    rintro _ _ _ ⟨v, rfl, rfl, rfl⟩
    refine ⟨rfl, ?_⟩
    refine hfactL (fun m => (m.own 0 rfl).slice) ?_
    rintro ⟨A_x, c_x, rfl, hc_x⟩
    refine hfactL (fun m => (m.ord 0 rfl).2.1) fun hA_x => ?_
    refine hy (fun _ => y_assign rfl) <| hy (fun _ => y_assign rfl) <| hend <| hsub (ρ' := [(5, _), (4, _), (11, _), (6, _), (0, _), (1, _)]) ⟨rfl, rfl, rfl, rfl, rfl, rfl, trivial⟩ <| hmemQ (X' := [_, _, _, _, _, _]) (S' := []) (fun _ m => m) <| hthen <| hret <| ?_
    refine hmemQ (X' := RDisk g st :: _) (fun w m => (m.perm (takeR_perm [1, 1, 1, 1, 1] _ [_, _, _, _, _] _ rfl)).pack) ?_
    exact hret2 trivial rfl rfl rfl [0, 0] rfl [] rfl ⟨_, rfl, (by rw [hrl]), rfl⟩
theorem wmakeC {g : Nat} {l : List (List UInt8 × Value)} {p : List UInt8} {r : BRow} : Con Tryd.prog 88 [.agg [SV p, r.val].toArray, .map (some g)] [RMap SV g l] [] (fun v_ X_ S_ => v_ = (.tuple #[]) ∧ X_ = [RMap SV g (aput l p r.val)] ∧ S_ = []) := by
  refine henter (N := 9) Tryd.func88 rfl rfl (by simp) fun b => ?_
  refine hseq <| hreg <| ?_
  refine hx (xh_box rfl (fun g2 => ?_))
  refine hend <| hmemQ (X' := [_, _]) (S' := []) (fun _ m => m) <| hthen <| hreg <| hy (fun _ => y_move rfl) <| hy (fun _ => y_fld rfl fa150_0 (by decide)) <| hy (fun m => y_ld1 rfl ag9 (ld_blk (m.blk 0 rfl) rfl)) <| hy (fun _ => y_fld rfl fa150_1 (by decide)) <| hy (fun m => y_ld1 rfl ag32 (ld_blk (m.blk 0 rfl) rfl)) <| ?_
  refine hx0 (xh_mapup (enc := SV) 1 rfl rfl rfl rfl Tryd.underlying143 (strKey Tryd.underlying9) ?_)
  refine hend <| hsub (ρ' := [(2, _), (0, _), (1, _)]) ⟨rfl, rfl, rfl, trivial⟩ <| hmemQ (X' := [_, _]) (S' := []) (fun _ m => m) <| ?_
  exact hret0 trivial rfl [0] rfl [] rfl ⟨rfl, rfl, rfl⟩
theorem aput_vals {l : Files} {p : List UInt8} {r x : BRow} (h : x ∈ (aput l p r).map (·.2)) : x ∈ l.map (·.2) ∨ x = r := by
  induction l with
  | nil => simp only [aput, List.map_cons, List.map_nil, List.mem_singleton] at h; exact .inr h
  | cons a q ih =>
    obtain ⟨k, u⟩ := a
    simp only [aput] at h
    split at h
    · simp only [List.map_cons, List.mem_cons] at h ⊢
      rcases h with rfl | h
      · exact .inr rfl
      · exact .inl (.inr h)
    · simp only [List.map_cons, List.mem_cons] at h ⊢
      rcases h with rfl | h
      · exact .inl (.inl rfl)
      · rcases ih h with h | h
        · exact .inl (.inr h)
        · exact .inr h
/-- behind a change: a file that is written -/
def DSt.wrote (st : DSt) (p : List UInt8) (r : BRow) (A : Option Addr) (c : Nat) : DSt := { st.spent with seen := aput st.seen p r, waits := st.waits ++ [.written p r], wA := A, wc := c }
theorem rows_wrote {st : DSt} {p : List UInt8} {r : BRow} {A : Option Addr} {c : Nat} : ∀ x ∈ rowsOf (st.wrote p r A c), x ∈ rowsOf st ∨ x = r := by
  intro x hx
  unfold rowsOf DSt.wrote at hx
  simp only [DSt.spent, List.mem_append, List.filterMap_append] at hx
  unfold rowsOf
  simp only [List.mem_append]
  rcases hx with (h | h) | h | h
  · rcases aput_vals h with h | h
    · exact .inl (.inl (.inl h))
    · exact .inr h
  · exact .inl (.inl (.inr h))
  · exact .inl (.inr h)
  · simp [Chg.row] at h
    exact .inr h
theorem doWC {g : Nat} {st : DSt} {p : List UInt8} {r : BRow} {e : TypeId} (hp : st.power ≤ 1000000000000) (hw : st.waits.length ≤ 1000000) : Con Tryd.prog 126 [.pointer (some ⟨g, 0, none⟩), (Chg.written p r).val] [RDisk g st, ROwn e 1 (.slice r.A r.n r.c) r.n (b8s r.l)] [] (fun v_ X_ S_ => ∃ A c, v_ = (.tuple #[]) ∧ X_ = [RDisk g (st.wrote p r A c)] ∧ S_ = []) := by
  have hsw : st.spent.waits.length = st.waits.length := rfl
  refine henter (N := 25) Tryd.func126 rfl rfl (by simp) fun b => ?_
  refine hseq <| hreg <| hy (fun _ => y_move rfl) <| ?_
  refine hx (xh_call rfl Tryd.call127 (spendC (by omega)) [0] rfl [] rfl ?_)
  rintro _ _ _ ⟨rfl, rfl, rfl⟩
  refine hmemL (fun w m => (m.perm (takeR_perm [0] _ [_] _ rfl)).unpack) ?_
  refine hend <| hsub (ρ' := [(0, _), (1, _)]) ⟨rfl, rfl, trivial⟩ <| hmemQ (X' := [_, _, _, _, _, _]) (S' := []) (fun _ m => m) <| hthen <| hseq <| hdrw [8] [(0, some 0), (1, some 0), (2, some 0), (3, some 0), (4, some 0), (5, some 0), (6, some 0), (7, some 0), (8, none)] (by kernel_rfl) (by kernel_rfl) rfl 0 <| htyU (y_move rfl) <| htyU (y_move rfl) <| htyU (y_nilp rfl) <| htyU (y_fld rfl fa146_1 (by decide)) <| hty (fun m => y_ld1 rfl ag143 (ld_blk (m.blk 0 rfl) rfl)) <| htyU (y_mkf rfl rfl) <| htyU (y_nilm rfl (by kernel_rfl)) <| htyU (y_move rfl) <| ?_
  refine htx (xh_inv rfl rfl (fun w => by kernel_rfl) Tryd.call88 (wmakeC) [1] rfl [] rfl ?_)
  rintro _ _ _ ⟨rfl, rfl, rfl⟩
  refine ⟨(fun h => absurd h (by decide)), ?_⟩
  refine htend <| hsub (ρ' := [(0, _), (1, _)]) ⟨rfl, rfl, trivial⟩ <| hmemQ (X' := [_, _, _, _, _, _]) (S' := []) (fun _ m => m) <| hthen <| hreg <| hy (fun _ => y_move rfl) <| hy (fun _ => y_move rfl) <| hy (fun _ => y_nilp rfl) <| hy (fun _ => y_fld rfl fa146_3 (by decide)) <| hy (fun m => y_ld1 rfl ag144 (ld_blk (m.blk 1 rfl) rfl)) <| hy (fun _ => y_move rfl) <| ?_
  refine hx (xh_bsl Tryd.underlying144 ti148 rfl rfl rfl (by simp [Value.cells, Chg.val]) (by decide) (by decide) (fun g21 => ?_))
  have hA_b21 : 0 < 1 → (some (⟨g21, 0, none⟩ : Addr)) ≠ none := fun _ h => by cases h
  refine hmemL (fun w m => m.eqX 0 rfl (show _ = ROwn 148 1 (.slice (some ⟨g21, 0, none⟩) 1 1) 1 [(Chg.written p r).val] from rfl)) ?_
  refine hx (xh_app 4 rfl rfl rfl Tryd.underlying144 Tryd.underlying144 (by exact .inl rfl) ti148 rfl (fun m => Src.of_rd (m.ord 0 rfl)) (by simp [Chg.val, Value.oneCell']) (by unfold maxLen; omega) (by omega) (fun u => ?_))
  refine hfactL (fun m => (m.own 0 rfl).slice) ?_
  rintro ⟨A_d3, c_d3, rfl, hc_d3⟩
  refine hfactL (fun m => (m.ord 0 rfl).2.1) fun hA_d3 => ?_
  refine hy (fun _ => y_nilp rfl) <| hy (fun _ => y_fld rfl fa146_3 (by decide)) <| ?_
  refine hx0 (xh_st1a 3 rfl rfl rfl sz144 rfl (by first | exact Nat.le_of_ble_eq_true rfl | simp) ?_)
  refine hend <| hsub (ρ' := [(0, _), (1, _)]) ⟨rfl, rfl, trivial⟩ <| hmemQ (X' := [_, _, _, _, _, _, _]) (S' := []) (fun _ m => m) <| ?_
  refine hmemQ (fun w m => m.eqX 0 rfl (show _ = RBlk g 146 (dcells (st.wrote p r A_d3 c_d3)) from by simp [dcells, DSt.wrote, DSt.spent])) ?_
  refine hmemQ (fun w m => m.eqX 3 rfl (show _ = RMap SV st.gs (vals (st.wrote p r A_d3 c_d3).seen) from congrArg (RMap SV st.gs) (vals_put _ _ _))) ?_
  refine hmemQ (fun w m => m.eqX 2 rfl (show _ = ROwn 148 1 (.slice A_d3 (st.wrote p r A_d3 c_d3).waits.length c_d3) (st.wrote p r A_d3 c_d3).waits.length ((st.wrote p r A_d3 c_d3).waits.map Chg.val) from by simp [DSt.wrote, DSt.spent])) ?_
  refine hmemQ (X' := RRows (rowsOf (st.wrote p r A_d3 c_d3)) :: _) (fun w m => (m.perm (takeR_perm [5, 5] _ [_, _] _ rfl)).rowAdd (rows_wrote)) ?_
  refine hmemQ (X' := RDisk g (st.wrote p r A_d3 c_d3) :: _) (fun w m => (m.perm (takeR_perm [3, 2, 3, 1, 0] _ [_, _, _, _, _] _ rfl)).pack) ?_
  exact hret0 trivial rfl [0] rfl [] rfl ⟨_, _, rfl, rfl, rfl⟩
/-- what is told of a Write -/
def writeE (st : DSt) (p : List UInt8) (n : Nat) : Int := if ¬ Named p then 1 else if st.power = 0 then 6 else if st.room < (tot st.seen : Int) - (((aget st.seen p).map (·.n)).getD 0 : Nat) + n then 5 else 0
theorem tot_le : ∀ {l : Files} {m : Nat}, (∀ x ∈ l, x.2.n ≤ m) → tot l ≤ l.length * m
  | [], m, h => by simp [tot]
  | a :: q, m, h => by
    have := tot_le (l := q) (m := m) (fun x hx => h x (List.mem_cons_of_mem _ hx))
    have h1 := h a (List.mem_cons_self ..)
    simp only [tot, List.map_cons, List.sum_cons, List.length_cons, Nat.add_mul] at this ⊢
    omega
/-- what a disk is, in numbers -/
structure DOk (st : DSt) (k : Nat) : Prop where
  power : st.power ≤ 1000000000000
  room : st.room ≤ 1048576
  seen : st.seen.length ≤ k
  rest : st.lasts.length + st.waits.length ≤ k
  small : ∀ r ∈ rowsOf st, r.n ≤ 1048576
theorem DOk.le {st : DSt} {k k' : Nat} (h : DOk st k) (hk : k ≤ k') : DOk st k' := ⟨h.power, h.room, Nat.le_trans h.seen hk, Nat.le_trans h.rest hk, h.small⟩
theorem DOk.tot {st : DSt} {k : Nat} (h : DOk st k) : tot st.seen ≤ k * 1048576 := Nat.le_trans (tot_le (m := 1048576) (fun x hx => h.small _ (by unfold rowsOf; exact List.mem_append_left _ (List.mem_append_left _ (List.mem_map.2 ⟨x, hx, rfl⟩))))) (Nat.mul_le_mul_right _ h.seen)
theorem DOk.sm {st : DSt} {k : Nat} (h : DOk st k) : Small st := fun r hr => Nat.le_trans (h.small r hr) (by decide)
theorem DOk.init {n : Int} {gs gl : Nat} (h : n ≤ 1048576) : DOk (dinit n gs gl) 0 := ⟨by simp [dinit], h, Nat.le_refl _, Nat.le_refl _, fun r hr => by simp [rowsOf, dinit] at hr⟩
theorem aput_len (l : Files) (p : List UInt8) (r : BRow) : (aput l p r).length ≤ l.length + 1 := by
  induction l with
  | nil => simp [aput]
  | cons a q ih =>
    obtain ⟨k, u⟩ := a
    simp only [aput]
    split <;> simp only [List.length_cons] <;> omega
theorem adel_len (l : Files) (p : List UInt8) : (adel l p).length ≤ l.length := by
  induction l with
  | nil => simp [adel]
  | cons a q ih =>
    obtain ⟨k, u⟩ := a
    simp only [adel]
    split <;> simp only [List.length_cons] <;> omega
theorem spent_power {st : DSt} (h : st.power ≤ 1000000000000) : st.spent.power ≤ 1000000000000 := by
  simp only [DSt.spent]
  split <;> omega
theorem DOk.wrote {st : DSt} {k : Nat} (h : DOk st k) {p : List UInt8} {r : BRow} (hr : r.n ≤ 1048576) (A : Option Addr) (c : Nat) : DOk (st.wrote p r A c) (k + 1) := by
  refine ⟨spent_power h.power, h.room, ?_, ?_, fun x hx => ?_⟩
  · have := aput_len st.seen p r
    have := h.seen
    show (aput st.seen p r).length ≤ k + 1
    omega
  · have := h.rest
    show st.lasts.length + (st.waits ++ [Chg.written p r]).length ≤ k + 1
    simp only [List.length_append, List.length_cons, List.length_nil]
    omega
  · rcases rows_wrote x hx with h' | rfl
    · exact h.small x h'
    · exact hr
theorem writeC {g : Nat} {st : DSt} {p : List UInt8} {A : Option Addr} {n c : Nat} {l : List UInt8} {k : Nat} (ok : DOk st k) (hk : k ≤ 100000) (hn : n ≤ 1048576) : Con Tryd.prog 79 [.pointer (some ⟨g, 0, none⟩), .string (strOf p), .slice A n c] [RDisk g st] [RRd 1 A n (b8s l)] (fun v_ X_ S_ => ∃ st1 B c1 A1 c2, v_ = (.int .i64 (writeE st p n)) ∧ X_ = [RDisk g st1] ∧ S_ = [] ∧ ((writeE st p n ≠ 0 ∧ st1 = st) ∨ (writeE st p n = 0 ∧ st1 = st.wrote p ⟨B, n, c1, l⟩ A1 c2))) := by
  have hp := ok.power
  have hw : st.waits.length ≤ 1000000 := by have := ok.rest; omega
  have ht : tot st.seen ≤ 1000000000000 := by have := ok.tot; omega
  have hs := ok.sm
  refine henter (N := 41) Tryd.func79 rfl rfl (by simp) fun b => ?_
  refine hfactC (fun m => rdB (m.rd 0 rfl)) ?_
  rintro ⟨hl_r, hA_r⟩
  refine hseq <| hreg <| hy (fun _ => y_assign rfl) <| hend <| hthen <| hseq <| hblock <| hseq <| hreg <| hy (fun _ => y_move rfl) <| ?_
  refine hx (xh_call rfl Tryd.call123 (namedC) [] rfl [] rfl ?_)
  rintro _ _ _ ⟨rfl, rfl, rfl⟩
  refine hy (fun _ => y_notp rfl) <| hy (fun _ => y_assign rfl) <| hend <| hsub (ρ' := [(7, _), (6, _), (0, _), (1, _), (2, _)]) ⟨rfl, rfl, rfl, rfl, rfl, trivial⟩ <| hmemQ (X' := [_]) (S' := [_]) (fun _ m => m) <| hthen <| ?_
  refine hif rfl (fun h1 => ?_) (fun h1 => ?_)
  · have e : writeE st p n = 1 := by rw [writeE, if_pos h1]
    rw [e]
    refine hseq <| hreg <| hy (fun _ => y_assign rfl) <| hend <| hthen <| hret <| hqblock_ret <| hthen_ret <| ?_
    exact hret1 trivial rfl rfl [0] rfl [] rfl ⟨_, none, 0, none, 0, rfl, rfl, rfl, .inl ⟨by decide, rfl⟩⟩
  · refine hseq <| hreg <| hy (fun _ => y_move rfl) <| ?_
    refine hx (xh_call rfl Tryd.call124 (upC) [0] rfl [] rfl ?_)
    rintro _ _ _ ⟨rfl, rfl, rfl⟩
    refine hy (fun _ => y_notp rfl) <| hy (fun _ => y_assign rfl) <| hend <| hsub (ρ' := [(11, _), (7, _), (6, _), (0, _), (1, _), (2, _)]) ⟨rfl, rfl, rfl, rfl, rfl, rfl, trivial⟩ <| hmemQ (X' := [_]) (S' := [_]) (fun _ m => m) <| hthen <| ?_
    refine hif rfl (fun h2 => ?_) (fun h2 => ?_)
    · have e : writeE st p n = 6 := by rw [writeE, if_neg h1, if_pos (by omega)]
      rw [e]
      refine hseq <| hreg <| hy (fun _ => y_assign rfl) <| hend <| hthen <| hret <| hqblock_ret <| hthen_ret <| ?_
      exact hret1 trivial rfl rfl [0] rfl [] rfl ⟨_, none, 0, none, 0, rfl, rfl, rfl, .inl ⟨by decide, rfl⟩⟩
    · have hwe : writeE st p n = if st.room < (tot st.seen : Int) - (((aget st.seen p).map (·.n)).getD 0 : Nat) + n then 5 else 0 := by rw [writeE, if_neg h1, if_neg (by omega)]
      have hv : ∃ B m c0, lookVal false (.slice none 0 0) (aget (vals st.seen) p) = .slice B m c0 ∧ m = ((aget st.seen p).map (·.n)).getD 0 ∧ m ≤ 1000000000 := by
        rw [vals_get]
        cases hq : aget st.seen p with
        | none => exact ⟨none, 0, 0, rfl, rfl, by decide⟩
        | some r => exact ⟨r.A, r.n, r.c, rfl, rfl, hs r (mem_seen hq)⟩
      obtain ⟨B, m, c0, hv1, hv2, hv3⟩ := hv
      rw [← hv2] at hwe
      refine hseq <| hdrw [1] [(0, some 0), (2, some 1), (3, some 1), (4, some 1), (5, some 1), (6, some 1), (7, some 1), (8, some 1), (10, some 1), (11, some 1), (13, some 1), (14, some 1), (15, some 1), (16, some 1), (1, none), (9, some 1), (12, some 1), (17, some 1), (18, some 1)] (by kernel_rfl) (by kernel_rfl) rfl 99 <| htyU (y_move rfl) <| htyU (y_move rfl) <| htyU (y_nilp rfl) <| htyU (y_fld rfl fa146_1 (by decide)) <| hty (fun m => y_ld1 rfl ag143 (ld_blk (show Blk _ _ _ _ from m.inP 0 rfl 0 rfl) rfl)) <| htyU (y_move rfl) <| hty (fun m => yV (y_lookM (enc := SV) rfl rfl Tryd.underlying143 ti32 (strKey Tryd.underlying9) (show MapAt _ _ _ _ from m.inP 0 rfl 1 rfl)) (hv1)) <| htyU (y_lenS rfl Tryd.underlying32) <| htyU (y_move rfl) <| htyU (y_lenS rfl Tryd.underlying32) <| htyU (y_move rfl) <| htyU (y_nilp rfl) <| htyU (y_fld rfl fa146_0 (by decide)) <| hty (fun m => y_ld1 rfl ag3 (ld_blk (show Blk _ _ _ _ from m.inP 0 rfl 0 rfl) rfl)) <| ?_
      refine htx (xh_call rfl Tryd.call125 (usedC (by omega)) [0] rfl [] rfl ?_)
      rintro _ _ _ ⟨rfl, rfl, rfl⟩
      refine ⟨(fun _ => wk [0] [0] rfl rfl), ?_⟩
      refine htyU (y_sub rfl rfl (w64 (by omega) (by omega))) <| htyU (y_add rfl rfl (w64 (by omega) (by omega))) <| htyU (y_gtr rfl rfl) <| htyU (y_assign rfl) <| htend <| hsub (ρ' := [(15, _), (11, _), (7, _), (6, _), (0, _), (1, _), (2, _)]) ⟨rfl, rfl, rfl, rfl, rfl, rfl, rfl, trivial⟩ <| hmemQ (X' := [_]) (S' := [_]) (fun _ m => m) <| hthen <| ?_
      refine hif rfl (fun h3 => ?_) (fun h3 => ?_)
      · rw [if_pos (by omega)] at hwe
        rw [hwe]
        refine hseq <| hreg <| hy (fun _ => y_assign rfl) <| hend <| hthen <| hret <| hqblock_ret <| hthen_ret <| ?_
        exact hret1 trivial rfl rfl [0] rfl [] rfl ⟨_, none, 0, none, 0, rfl, rfl, rfl, .inl ⟨by decide, rfl⟩⟩
      · rw [if_neg (by omega)] at hwe
        rw [hwe]
        refine hcskip <| hqblock <| hthen <| hseq <| hreg <| hy (fun _ => y_move rfl) <| hy (fun _ => y_move rfl) <| hy (fun _ => y_move rfl) <| ?_
        refine hx (xh_call rfl Tryd.call108 (cloneC (by omega)) [] rfl [0] rfl ?_)
        rintro _ _ _ ⟨v, rfl, rfl, rfl⟩
        refine hfactL (fun m => (m.own 0 rfl).slice) ?_
        rintro ⟨A_x, c_x, rfl, hc_x⟩
        refine hfactL (fun m => (m.ord 0 rfl).2.1) fun hA_x => ?_
        refine hy (fun _ => yV (y_build ti150 rfl rfl (by kernel_rfl) (.cons (o := 0) (sz := 1) (by kernel_rfl) rfl rfl (Nat.le_of_ble_eq_true rfl) (.cons (o := 1) (sz := 1) (by kernel_rfl) rfl rfl (Nat.le_of_ble_eq_true rfl) .nil))) ((rfl : _ = Value.agg [SV p, Value.slice A_x n c_x].toArray))) <| hy (fun _ => y_mki rfl Tryd.underlying150 (fun _ h => by cases h)) <| ?_
        refine hx (xh_call rfl Tryd.call126 (doWC (by omega) (by omega) (r := ⟨A_x, n, c_x, l⟩)) [1, 0] rfl [] rfl ?_)
        rintro _ _ _ ⟨A2, c2, rfl, rfl, rfl⟩
        refine hend <| hsub (ρ' := [(15, _), (11, _), (7, _), (6, _), (0, _), (1, _), (2, _)]) ⟨rfl, rfl, rfl, rfl, rfl, rfl, rfl, trivial⟩ <| hmemQ (X' := [_]) (S' := [_]) (fun _ m => m) <| hthen <| hseq <| hreg <| hy (fun _ => y_assign rfl) <| hend <| hthen <| hret <| ?_
        exact hret1 trivial rfl rfl [0] rfl [] rfl ⟨_, _, _, _, _, rfl, rfl, rfl, .inr ⟨rfl, rfl⟩⟩
theorem mcloneC {g : Nat} {l : List (List UInt8 × Value)} : Con Tryd.prog 89 [.map (some g)] [RMap SV g l] [] (fun v_ X_ S_ => ∃ g1, v_ = (.map (some g1)) ∧ X_ = [RMap SV g l, RMap SV g1 l] ∧ S_ = []) := by
  refine henter (N := 9) Tryd.func89 rfl rfl (by simp) fun b => ?_
  refine hseq <| hreg <| hy (fun _ => y_assign rfl) <| hend <| hthen <| hseq <| hseq <| hreg <| hy (fun _ => y_move rfl) <| hy (fun _ => y_eqMn rfl rfl Tryd.underlying143) <| hend <| hsub (ρ' := [(4, _), (2, _), (0, _)]) ⟨rfl, rfl, rfl, trivial⟩ <| hthen <| ?_
  refine hiff rfl (rfl) ?_
  refine hcskip <| hthen <| hseq <| hreg <| hy (fun _ => y_move rfl) <| hy (fun _ => y_mki rfl Tryd.underlying143 (fun _ h => by cases h)) <| ?_
  refine hx (xh_mclone 0 rfl rfl Tryd.func134 (by kernel_rfl) (by kernel_rfl) (by kernel_rfl) (by kernel_rfl) (fun g1 => ?_))
  refine hy (fun _ => y_tas rfl (show _ = Result.ok (Value.map (some g1)) _ by kernel_rfl)) <| hy (fun _ => y_assign rfl) <| hend <| hsub (ρ' := [(2, _), (4, _), (0, _)]) ⟨rfl, rfl, rfl, trivial⟩ <| hmemQ (X' := [_, _]) (S' := []) (fun _ m => m) <| hthen <| hret <| ?_
  exact hret1 trivial rfl rfl [1, 0] rfl [] rfl ⟨_, rfl, rfl, rfl⟩
/-- behind a Sync -/
def DSt.synced (st : DSt) (gl : Nat) : DSt := { st.spent with gl := gl, lasts := st.seen, waits := [], wA := none, wc := 0 }
def syncE (st : DSt) : Int := if st.power = 0 then 6 else 0
theorem rows_synced {st : DSt} {gl : Nat} : ∀ x ∈ rowsOf (st.synced gl), x ∈ rowsOf st := by
  intro x hx
  unfold rowsOf DSt.synced at hx
  simp only [DSt.spent, List.filterMap_nil, List.append_nil, List.mem_append, or_self] at hx
  unfold rowsOf
  exact List.mem_append_left _ (List.mem_append_left _ hx)
theorem DOk.synced {st : DSt} {k : Nat} (h : DOk st k) (gl : Nat) : DOk (st.synced gl) k :=
  ⟨spent_power h.power, h.room, h.seen, by show st.seen.length + 0 ≤ k; have := h.seen; omega, fun x hx => h.small x (rows_synced x hx)⟩
theorem syncC {g : Nat} {st : DSt} {k : Nat} (ok : DOk st k) : Con Tryd.prog 81 [.pointer (some ⟨g, 0, none⟩)] [RDisk g st] [] (fun v_ X_ S_ => ∃ st1 gl, v_ = (.int .i64 (syncE st)) ∧ X_ = [RDisk g st1] ∧ S_ = [] ∧ ((st.power = 0 ∧ st1 = st) ∨ (st.power ≠ 0 ∧ st1 = st.synced gl))) := by
  refine henter (N := 19) Tryd.func81 rfl rfl (by simp) fun b => ?_
  refine hseq <| hreg <| hy (fun _ => y_assign rfl) <| hend <| hthen <| hseq <| hseq <| hreg <| hy (fun _ => y_move rfl) <| ?_
  refine hx (xh_call rfl Tryd.call124 (upC) [0] rfl [] rfl ?_)
  rintro _ _ _ ⟨rfl, rfl, rfl⟩
  refine hy (fun _ => y_notp rfl) <| hend <| hsub (ρ' := [(5, _), (2, _), (0, _)]) ⟨rfl, rfl, rfl, trivial⟩ <| hmemQ (X' := [_]) (S' := []) (fun _ m => m) <| hthen <| ?_
  refine hif rfl (fun h1 => ?_) (fun h1 => ?_)
  · have h0 : st.power = 0 := Decidable.not_not.1 h1
    have e : syncE st = 6 := by rw [syncE, if_pos h0]
    rw [e]
    refine hseq <| hreg <| hy (fun _ => y_assign rfl) <| hend <| hthen <| hret <| hthen_ret <| ?_
    exact hret1 trivial rfl rfl [0] rfl [] rfl ⟨_, 0, rfl, rfl, rfl, .inl ⟨h0, rfl⟩⟩
  · have h0 : st.power ≠ 0 := fun e => h1 (fun h => h e)
    have e : syncE st = 0 := by rw [syncE, if_neg h0]
    rw [e]
    have hp := ok.power
    refine hcskip <| hthen <| hseq <| hreg <| hy (fun _ => y_move rfl) <| ?_
    refine hx (xh_call rfl Tryd.call127 (spendC (by omega)) [0] rfl [] rfl ?_)
    rintro _ _ _ ⟨rfl, rfl, rfl⟩
    refine hmemL (fun w m => (m.perm (takeR_perm [0] _ [_] _ rfl)).unpack) ?_
    refine hend <| hsub (ρ' := [(5, _), (2, _), (0, _)]) ⟨rfl, rfl, rfl, trivial⟩ <| hmemQ (X' := [_, _, _, _, _]) (S' := []) (fun _ m => m) <| hthen <| hseq <| hreg <| hy (fun _ => y_move rfl) <| hy (fun _ => y_move rfl) <| hy (fun _ => y_move rfl) <| hy (fun _ => y_nilp rfl) <| hy (fun _ => y_fld rfl fa146_1 (by decide)) <| hy (fun m => y_ld1 rfl ag143 (ld_blk (m.blk 0 rfl) rfl)) <| ?_
    refine hx (xh_call rfl Tryd.call89 (mcloneC) [1] rfl [] rfl ?_)
    rintro _ _ _ ⟨g1, rfl, rfl, rfl⟩
    refine hy (fun _ => y_nilp rfl) <| hy (fun _ => y_fld rfl fa146_2 (by decide)) <| ?_
    refine hx0 (xh_st1a 2 rfl rfl rfl sz143 rfl (by first | exact Nat.le_of_ble_eq_true rfl | simp) ?_)
    refine hy (fun _ => y_nilp rfl) <| hy (fun _ => y_fld rfl fa146_3 (by decide)) <| ?_
    refine hx0 (xh_st1a 0 rfl rfl rfl sz144 rfl (by first | exact Nat.le_of_ble_eq_true rfl | simp) ?_)
    refine hend <| hsub (ρ' := [(5, _), (2, _), (0, _)]) ⟨rfl, rfl, rfl, trivial⟩ <| hmemQ (X' := [_, _, _, _, _, _]) (S' := []) (fun _ m => m) <| hthen <| hseq <| hreg <| hy (fun _ => y_assign rfl) <| hend <| hthen <| hret <| ?_
    refine hmemQ (fun w m => m.addX (r' := ROwn 148 1 (.slice none 0 0) 0 []) (.refl _ _) (Own.nil _ _ _ _) (fun k hk => hk.elim)) ?_
    refine hmemQ (fun w m => Mem.dropX' (X := [_]) (m.perm (takeR_perm [4] _ [_] _ rfl))) ?_
    refine hmemQ (fun w m => Mem.dropX' (X := [_]) (m.perm (takeR_perm [4] _ [_] _ rfl))) ?_
    refine hmemQ (fun w m => m.eqX 1 rfl (show _ = RBlk g 146 (dcells (st.synced g1)) from rfl)) ?_
    refine hmemQ (X' := RRows (rowsOf (st.synced g1)) :: _) (fun w m => (m.perm (takeR_perm [4] _ [_] _ rfl)).rowSub (rows_synced)) ?_
    refine hmemQ (X' := RDisk g (st.synced g1) :: _) (fun w m => (m.perm (takeR_perm [1, 2, 2, 1, 0] _ [_, _, _, _, _] _ rfl)).pack) ?_
    exact hret1 trivial rfl rfl [0] rfl [] rfl ⟨_, _, rfl, rfl, rfl, .inr ⟨h0, rfl⟩⟩
end Go.Proofs.YtfikjheicjamhaaDoor
end
section
/- Contracts: a disk's Restart, where only files that were written wait. -/
set_option linter.unusedVariables false
set_option linter.unusedSimpArgs false
set_option maxRecDepth 20000
namespace Go.Proofs.YtfikjheicjamhaaDoor
open Go.Eng Go.Hx
/-- one change that waits, at a restart: the bits that are left, and the files -/
def rstep (st : List Bool × Files) (c : Chg) : List Bool × Files :=
  if st.1.headD false then
    match c with
    | .written p r => (st.1.tail.tail, aput st.2 p (if st.1.tail.headD false then r else r.half))
    | .renamed a b => (st.1.tail, match aget st.2 a with
      | none => st.2
      | some r => aput (adel st.2 a) b r)
    | .removed p => (st.1.tail, adel st.2 p)
  else (st.1.tail, st.2)
def rfold (keep : List Bool) (st : DSt) (i : Nat) : List Bool × Files := (st.waits.take i).foldl rstep (keep, st.lasts)
theorem rfold_succ {keep : List Bool} {st : DSt} {i : Nat} {c : Chg} (h : st.waits[i]? = some c) : rfold keep st (i + 1) = rstep (rfold keep st i) c := by
  unfold rfold
  obtain ⟨hi, rfl⟩ := List.getElem?_eq_some_iff.1 h
  rw [List.take_succ_eq_append_getElem hi, List.foldl_append]
  rfl
def Half (rows : List BRow) (r : BRow) : Prop := ∃ q ∈ rows, r = q ∨ ∃ k, k ≤ q.n ∧ r = ⟨q.A, k, q.c, q.l.take k⟩
theorem rfold_rows {keep : List Bool} {st : DSt} (i : Nat) : ∀ r ∈ (rfold keep st i).2.map (·.2), Half (rowsOf st) r := by
  have base : ∀ r ∈ st.lasts.map (·.2), Half (rowsOf st) r := fun r hr => ⟨r, by unfold rowsOf; exact List.mem_append_left _ (List.mem_append_right _ hr), .inl rfl⟩
  have adel_vals : ∀ {l : Files} {p : List UInt8} {x : BRow}, x ∈ (adel l p).map (·.2) → x ∈ l.map (·.2) := fun {l p x} h => by
    induction l with
    | nil => exact h
    | cons a q ih =>
      obtain ⟨k, u⟩ := a
      simp only [adel] at h
      split at h
      · exact List.mem_cons_of_mem _ h
      · simp only [List.map_cons, List.mem_cons] at h ⊢
        rcases h with rfl | h
        · exact .inl rfl
        · exact .inr (ih h)
  induction i with
  | zero => intro r hr; exact base r (by simpa [rfold] using hr)
  | succ i ih =>
    cases hc : st.waits[i]? with
    | none =>
      have : rfold keep st (i + 1) = rfold keep st i := by
        unfold rfold
        have := List.getElem?_eq_none_iff.1 hc
        rw [List.take_of_length_le (by omega), List.take_of_length_le this]
      rw [this]
      exact ih
    | some c =>
      rw [rfold_succ hc]
      have hcm := List.mem_of_getElem? hc
      intro r hr
      unfold rstep at hr
      split at hr
      · cases c with
        | written p q =>
          have hq : q ∈ rowsOf st := by
            unfold rowsOf
            exact List.mem_append_right _ (List.mem_filterMap.2 ⟨_, hcm, rfl⟩)
          rcases aput_vals hr with h | h
          · exact ih r h
          · rw [h]
            split
            · exact ⟨q, hq, .inl rfl⟩
            · exact ⟨q, hq, .inr ⟨q.n / 2, by omega, rfl⟩⟩
        | renamed a b =>
          simp only at hr
          split at hr
          · exact ih r hr
          · rename_i u hu
            rcases aput_vals hr with h | h
            · exact ih r (adel_vals h)
            · rw [h]; exact ih u (List.mem_map.2 ⟨_, aget_mem hu, rfl⟩)
        | removed p => exact ih r (adel_vals hr)
      · exact ih r hr
/-- behind a restart -/
def DSt.started (st : DSt) (keep : List Bool) (gs : Nat) : DSt :=
  let L := (rfold keep st st.waits.length).2
  { st with gs := gs, seen := L, lasts := L, waits := [], wA := none, wc := 0, power := -1 }
theorem rows_started {st : DSt} {keep : List Bool} (gs : Nat) : ∀ r ∈ rowsOf (st.started keep gs), Half (rowsOf st) r := by
  intro r hr
  unfold rowsOf DSt.started at hr
  simp only [List.filterMap_nil, List.append_nil, List.mem_append, or_self] at hr
  exact rfold_rows _ r hr
theorem rfold_len (keep : List Bool) (st : DSt) (i : Nat) : (rfold keep st i).2.length ≤ st.lasts.length + i := by
  induction i with
  | zero => simp [rfold]
  | succ i ih =>
    cases hc : st.waits[i]? with
    | none =>
      have : rfold keep st (i + 1) = rfold keep st i := by
        unfold rfold
        have := List.getElem?_eq_none_iff.1 hc
        rw [List.take_of_length_le (by omega), List.take_of_length_le this]
      rw [this]; omega
    | some c =>
      rw [rfold_succ hc]
      unfold rstep
      split
      · cases c with
        | written p r =>
          have := aput_len (rfold keep st i).2 p (if (rfold keep st i).1.tail.headD false then r else r.half)
          show (aput _ _ _).length ≤ _
          omega
        | renamed a b =>
          simp only
          split
          · omega
          · rename_i u hu
            have h1 := aput_len (adel (rfold keep st i).2 a) b u
            have h2 := adel_len (rfold keep st i).2 a
            omega
        | removed p =>
          have h2 := adel_len (rfold keep st i).2 p
          show (adel _ _).length ≤ _
          omega
      · show (rfold keep st i).2.length ≤ _
        omega
theorem DOk.started {st : DSt} {k : Nat} (h : DOk st k) (keep : List Bool) (gs : Nat) : DOk (st.started keep gs) k := by
  have hl := rfold_len keep st st.waits.length
  have hr := h.rest
  refine ⟨by show (-1 : Int) ≤ _; omega, h.room, ?_, ?_, fun x hx => ?_⟩
  · show (rfold keep st st.waits.length).2.length ≤ k
    omega
  · show (rfold keep st st.waits.length).2.length + 0 ≤ k
    omega
  · obtain ⟨q, hq, rfl | ⟨j, hj, rfl⟩⟩ := rows_started gs x hx
    · exact h.small _ hq
    · exact Nat.le_trans hj (h.small q hq)
def Wr (st : DSt) : Prop := ∀ c ∈ st.waits, ∃ p r, c = .written p r
end Go.Proofs.YtfikjheicjamhaaDoor
end
section
/- The disk's example (lives of layer 12), computed. -/
set_option linter.unusedVariables false
set_option linter.unusedSimpArgs false
set_option maxRecDepth 20000
namespace Go.Proofs.YtfikjheicjamhaaDoor
open Go.Eng Go.Hx
theorem named1 {x : UInt8} (h : x ≠ 0) : Named [x] := ⟨by simp, by simp, by simp; exact fun e => h e.symm⟩
end Go.Proofs.YtfikjheicjamhaaDoor
end
section
/- From a row's readings to what my contracts ask. No statement is proved here. -/
set_option linter.unusedVariables false
set_option linter.unusedSimpArgs false
namespace Go.Eng
open Go.RowKit Go.ChangeShapes Go.WideShapes
/-- bytes in an array that came in -/
theorem open_digest {H : Type} {enc : TypeId × Value → H} {P : Program} {w : World} {base : Nat} {spare : Nat → Bool} {held : Bool} {r : Reach} {b0 : Nat} {t e : TypeId} {v : Value} {d : DataW H} {ps : List MemPlace} {n : Nat} (ht : P.underlying t = some (.array n e)) (he : P.underlying e = some (.int .u8)) (hc : P.cellsOf e = 1) (hct : P.cellsOf t = n) (hval : Value.okWide P w r b0 t v) (hd : DataW.Trod enc P w base spare held t v d ps) :
    ∃ l : List UInt8, v = .agg (b8s l).toArray ∧ l.length = n := by
  simp only [Value.okWide, ht] at hval
  obtain ⟨cs, rfl, _, _⟩ := hval
  obtain ⟨fuel, hf⟩ := hd
  obtain ⟨xs, m, _, _, hlen, hxl, hel⟩ := DataW.trod_array ht hf
  simp only [Value.cells] at hlen hel
  rw [hct] at hlen
  have hcell : ∀ i, i < n → ∃ c : UInt8, cs.toList[i]? = some (B8 c) := by
    intro i hi
    have h1 := hel i hi
    rw [List.getElem?_eq_getElem (by omega), hc, Nat.mul_one] at h1
    obtain ⟨z, hz, _, hw⟩ := DataW.trod_int he h1
    have hb := bounds_u8 hw
    refine ⟨UInt8.ofNat z.toNat, ?_⟩
    have h2 : ((cs.toList.drop i).take 1)[0]? = some (.int .u8 z) := by rw [hz]; rfl
    rw [List.getElem?_take, if_pos (by omega), List.getElem?_drop, Nat.add_zero] at h2
    rw [h2, B8, UInt8.toNat_ofNat', Nat.mod_eq_of_lt (by omega)]
    congr 2
    omega
  refine ⟨cs.toList.map fun v => match v with | .int _ z => UInt8.ofNat z.toNat | _ => 0, ?_, by simpa using hlen⟩
  congr 1
  apply Array.toList_inj.1
  apply List.ext_getElem?
  intro i
  simp only [b8s, List.map_map, List.getElem?_map]
  by_cases hi : i < n
  · obtain ⟨c, hc⟩ := hcell i hi
    rw [hc]
    simp [B8]
  · rw [List.getElem?_eq_none (by omega)]
    rfl
end Go.Eng
end
section
/- Values that came in, with all that is read through them: cells. No statement is proved here. -/
set_option linter.unusedVariables false
set_option linter.unusedSimpArgs false
namespace Go.Eng
open Go.RowKit Go.ChangeShapes Go.WideShapes
inductive Cell
  | v (x : Value)
  | s (sz : Nat) (A : Option Addr) (n c : Nat) (xs : List Cell)
def Cell.val : Cell → Value
  | .v x => x
  | .s _ A n c _ => .slice A n c
mutual
def Cell.foot : Cell → Nat → Prop
  | .v _ => fun _ => False
  | .s _ A _ _ xs => fun k => (xs ≠ [] ∧ ∃ a, A = some a ∧ k = a.block) ∨ feetC xs k
def feetC : List Cell → Nat → Prop
  | [] => fun _ => False
  | x :: r => fun k => x.foot k ∨ feetC r k
end
mutual
def Cell.holds (w : World) : Cell → Prop
  | .v _ => True
  | .s sz A n c xs => Rd w sz A n (xs.map Cell.val) ∧ n ≤ c ∧ holdC w xs
def holdC (w : World) : List Cell → Prop
  | [] => True
  | x :: r => x.holds w ∧ holdC w r
end
theorem feetC_iff {k : Nat} : ∀ {xs : List Cell}, feetC xs k ↔ ∃ x ∈ xs, x.foot k
  | [] => by simp [feetC]
  | x :: r => by simp only [feetC, feetC_iff (xs := r), List.mem_cons, exists_eq_or_imp]
theorem holdC_iff {w : World} : ∀ {xs : List Cell}, holdC w xs ↔ ∀ x ∈ xs, x.holds w
  | [] => by simp [holdC]
  | x :: r => by simp only [holdC, holdC_iff (xs := r), List.mem_cons, forall_eq_or_imp]
mutual
theorem Cell.keep {S : Nat → Prop} {w w' : World} (f : Fr S w w') : ∀ (c : Cell), (∀ k, c.foot k → ¬ S k) → c.holds w → c.holds w'
  | .v _, _, _ => trivial
  | .s sz A n c xs, h, hh => by
    obtain ⟨h1, h2, h3⟩ := hh
    refine ⟨Rd.keep h1 f (fun k hk => h k ?_), h2, keepC f xs (fun k hk => h k (.inr hk)) h3⟩
    obtain ⟨hne, a, ha, hk⟩ := hk
    exact .inl ⟨fun e => hne (by rw [e]; rfl), a, ha, hk⟩
theorem keepC {S : Nat → Prop} {w w' : World} (f : Fr S w w') : ∀ (xs : List Cell), (∀ k, feetC xs k → ¬ S k) → holdC w xs → holdC w' xs
  | [], _, _ => trivial
  | x :: r, h, hh => ⟨Cell.keep f x (fun k hk => h k (.inl hk)) hh.1, keepC f r (fun k hk => h k (.inr hk)) hh.2⟩
end
mutual
theorem Cell.low {w : World} : ∀ (c : Cell) {k : Nat}, c.holds w → c.foot k → k < w.heap.size
  | .v _, _, _, h => h.elim
  | .s sz A n c xs, k, hh, hk => by
    obtain ⟨h1, h2, h3⟩ := hh
    rcases hk with ⟨hne, a, ha, hk⟩ | hk
    · exact (RRd sz A n (xs.map Cell.val)).low h1 ⟨fun e => hne (List.map_eq_nil_iff.1 e), a, ha, hk⟩
    · exact lowC xs h3 hk
theorem lowC {w : World} : ∀ (xs : List Cell) {k : Nat}, holdC w xs → feetC xs k → k < w.heap.size
  | [], _, _, h => h.elim
  | x :: r, k, hh, hk => by
    rcases hk with hk | hk
    · exact Cell.low x hh.1 hk
    · exact lowC r hh.2 hk
end
def RCell (c : Cell) : Res := ⟨c.foot, fun w => c.holds w, fun f h x => c.keep f h x, fun x hk => c.low x hk⟩
/-- what is read through one of its cells -/
theorem View.cell {sz n c j : Nat} {A : Option Addr} {xs : List Cell} {y : Cell} (h : xs[j]? = some y) : View (RCell (.s sz A n c xs)) (RCell y) :=
  .of (fun w hh => holdC_iff.1 hh.2.2 y (List.mem_of_getElem? h)) (fun k hk => .inr (feetC_iff.2 ⟨y, List.mem_of_getElem? h, hk⟩))
/-- fields one behind the other -/
def contig (P : Program) : List Field → Nat → Nat → Bool
  | [], o, e => o == e
  | f :: r, o, e => f.offset == o && contig P r (o + P.cellsOf f.type) e
/-- types of whole numbers, bools, texts, slices, arrays, structs, all the way down -/
def parts (P : Program) : Nat → TypeId → Bool
  | 0, _ => false
  | n + 1, t => match P.underlying t with
    | some (.int _) | some .bool | some .string => true
    | some (.slice e) => parts P n e && decide (0 < P.cellsOf e)
    | some (.array m e) => parts P n e && (P.cellsOf t == m * P.cellsOf e)
    | some (.struct fs) => fs.toList.all (fun f => parts P n f.type) && contig P fs.toList 0 (P.cellsOf t)
    | _ => false
section
variable {H : Type} {enc : TypeId × Value → H} {P : Program} {w : World} {base : Nat} {spare : Nat → Bool} {held : Bool}
end
/-! ### what a type says, read back -/
section
variable {P : Program} {t e : TypeId} {xs : List Cell}
end
section
variable {H : Type} {enc : TypeId × Value → H} {P : Program} {W : World} {spare : Nat → Bool} {held : Bool} {tss : List TypeId} {dss : List (DataW H)}
end
end Go.Eng
end
section
/- Contracts: the document's disk (layer 12): names, files, sums. -/
set_option linter.unusedVariables false
set_option linter.unusedSimpArgs false
set_option maxRecDepth 20000
namespace Go.Proofs.YtfikjheicjamhaaDoor
open Go.Eng Go.Hx
/-- a file: its name and its bytes -/
abbrev FP := List UInt8 × List UInt8
def fc (l : List FP) : List Value := l.flatMap fun x => [SV x.1, SV x.2]
/-- where a file stands -/
def findN (l : List FP) (p : List UInt8) : Nat := l.findIdx (fun x => decide (x.1 = p))
def totF (l : List FP) : Nat := (l.map fun x => x.2.length).sum
/-- a disk of the document, as a value -/
def dv (room : Int) (s l w : Value) (pw : Int) : List Value := [.int .i64 room, s, l, w, .int .i64 pw]
end Go.Proofs.YtfikjheicjamhaaDoor
end
section
/- Contracts: the document's disk (layer 12): files with one more, changes. -/
set_option linter.unusedVariables false
set_option linter.unusedSimpArgs false
set_option maxRecDepth 20000
namespace Go.Proofs.YtfikjheicjamhaaDoor
open Go.Eng Go.Hx
def sless (a b : List UInt8) : Bool := Op.bytesLess (strOf a).toList (strOf b).toList
def wstep (f : FP) (st : List FP × Bool) (x : FP) : List FP × Bool :=
  let s1 := if st.2 = false ∧ sless x.1 f.1 = false then (st.1 ++ [f], true) else st
  (if x.1 ≠ f.1 then s1.1 ++ [x] else s1.1, s1.2)
def wst (f : FP) (l : List FP) (i : Nat) : List FP × Bool := (l.take i).foldl (wstep f) ([], false)
def withF (l : List FP) (f : FP) : List FP := if (wst f l l.length).2 then (wst f l l.length).1 else (wst f l l.length).1 ++ [f]
end Go.Proofs.YtfikjheicjamhaaDoor
end
section
/- Contracts: the document's disk (layer 12): a change made, Read. -/
set_option linter.unusedVariables false
set_option linter.unusedSimpArgs false
set_option maxRecDepth 20000
namespace Go.Proofs.YtfikjheicjamhaaDoor
open Go.Eng Go.Hx
def withoutF (l : List FP) (p : List UInt8) : List FP := l.filter fun x => decide (x.1 ≠ p)
/-- a change of the document, as a value -/
def cv (k : Int) (p t b : List UInt8) : List Value := [.int .i64 k, SV p, SV t, SV b]
def makeF (l : List FP) (k : Int) (p t b : List UInt8) : List FP :=
  if k = 0 then withF l (p, b) else match l[findN l p]? with
    | none => l
    | some x => if k = 2 then withoutF l p else withF (withoutF l p) (t, x.2)
abbrev RC := Int × List UInt8 × List UInt8 × List UInt8
def wcs (l : List RC) : List Value := l.flatMap fun x => cv x.1 x.2.1 x.2.2.1 x.2.2.2
theorem dv_one {room pw : Int} {A A2 A3 : Option Addr} {n c n2 c2 n3 c3 : Nat} : ∀ u ∈ dv room (.slice A n c) (.slice A2 n2 c2) (.slice A3 n3 c3) pw, u.oneCell' = true := by
  intro u hu
  simp only [dv, List.mem_cons, List.not_mem_nil, or_false] at hu
  rcases hu with rfl | rfl | rfl | rfl | rfl <;> rfl
def lessP (pw : Int) : Int := if 0 < pw then pw - 1 else pw
end Go.Proofs.YtfikjheicjamhaaDoor
end
section
/- Contracts: the document's disk (layer 12): Write, Read. -/
set_option linter.unusedVariables false
set_option linter.unusedSimpArgs false
set_option maxRecDepth 20000
namespace Go.Proofs.YtfikjheicjamhaaDoor
open Go.Eng Go.Hx
/-- a disk of the document -/
structure RD where
  room : Int
  seen : List FP
  lasts : List FP
  waits : List RC
  pw : Int
def RD.sz (d : RD) (p : List UInt8) : Nat := ((d.seen[findN d.seen p]?).map (·.2.length)).getD 0
def RD.writeE (d : RD) (p bb : List UInt8) : Int := if ¬ Named p then 1 else if d.pw = 0 then 6 else if d.room < (totF d.seen : Int) + (bb.length : Nat) - (d.sz p : Nat) then 5 else 0
def RD.did (d : RD) (k : Int) (p t bb : List UInt8) : RD := { d with seen := makeF d.seen k p t bb, waits := d.waits ++ [(k, p, t, bb)], pw := lessP d.pw }
def RD.write (d : RD) (p bb : List UInt8) : RD := if d.writeE p bb = 0 then d.did 0 p [] bb else d
def rv (d : RD) (A : Option Addr) (n c : Nat) (Al : Option Addr) (nl cl : Nat) (A3 : Option Addr) (n3 c3 : Nat) : List Value := dv d.room (.slice A n c) (.slice Al nl cl) (.slice A3 n3 c3) d.pw
theorem rnewC {room : Int} : Con Tryd.prog 76 [.int .i64 room] [] [] (fun v_ X_ S_ => v_ = (.agg (dv room (.slice none 0 0) (.slice none 0 0) (.slice none 0 0) (-1)).toArray) ∧ X_ = [] ∧ S_ = []) := by
  refine henter (N := 5) Tryd.func76 rfl rfl (by simp) fun b => ?_
  refine hseq <| hreg <| ?_
  refine hx (xh_alloc ti62 (fun g2 => ?_))
  refine hend <| hmemQ (X' := [_]) (S' := []) (fun _ m => m) <| hthen <| hseq <| hreg <| hy (fun _ => y_move rfl) <| hy (fun _ => yV (y_build ti62 rfl rfl (by kernel_rfl) (.cons (o := 0) (sz := 1) (by kernel_rfl) rfl rfl (Nat.le_of_ble_eq_true rfl) (.cons (o := 4) (sz := 1) (by kernel_rfl) rfl rfl (Nat.le_of_ble_eq_true rfl) .nil))) ((rfl : _ = Value.agg (dv room (.slice none 0 0) (.slice none 0 0) (.slice none 0 0) (-1)).toArray))) <| ?_
  refine hx0 (xh_stA 0 rfl rfl rfl sz62 rfl dv_one rfl ?_)
  refine hend <| hsub (ρ' := [(2, _), (0, _)]) ⟨rfl, rfl, trivial⟩ <| hmemQ (X' := [_]) (S' := []) (fun _ m => m) <| hthen <| hret <| ?_
  exact hretN trivial rfl rfl ag62 sz62 rfl (fun m => (m.blk 0 rfl).cells0) [] rfl [] rfl ⟨rfl, rfl, rfl⟩
def RD.readE (d : RD) (p : List UInt8) : Int := if d.pw = 0 then 6 else if d.seen[findN d.seen p]? = none then 4 else 0
def RD.readB (d : RD) (p : List UInt8) : List UInt8 := if d.pw = 0 then [] else ((d.seen[findN d.seen p]?).map (·.2)).getD []
end Go.Proofs.YtfikjheicjamhaaDoor
end
section
/- The law DiskPower, computed. -/
set_option linter.unusedVariables false
set_option linter.unusedSimpArgs false
set_option maxRecDepth 20000
namespace Go.Proofs.YtfikjheicjamhaaDoor
open Go.Eng Go.Hx
def DSt.powered (st : DSt) (n : Int) : DSt := { st with power := max n (-1) }
theorem waitsC {g : Nat} {st : DSt} : Con Tryd.prog 40 [.pointer (some ⟨g, 0, none⟩)] [RDisk g st] [] (fun v_ X_ S_ => v_ = (.int .i64 (st.waits.length : Nat)) ∧ X_ = [RDisk g st] ∧ S_ = []) := by
  refine henter (N := 8) Tryd.func40 rfl rfl (by simp) fun b => ?_
  refine hmemC (fun w m => (m.perm (takeR_perm [0] _ [_] _ rfl)).unpack) ?_
  refine hseq <| hreg <| hy (fun _ => y_assign rfl) <| hend <| hthen <| hseq <| hreg <| hy (fun _ => y_move rfl) <| hy (fun _ => y_nilp rfl) <| hy (fun _ => y_fld rfl fa146_3 (by decide)) <| hy (fun m => y_ld1 rfl ag144 (ld_blk (m.blk 0 rfl) rfl)) <| hy (fun _ => y_lenS rfl Tryd.underlying144) <| hy (fun _ => y_assign rfl) <| hend <| hsub (ρ' := [(2, _), (0, _)]) ⟨rfl, rfl, trivial⟩ <| hthen <| hret <| ?_
  refine hmemQ (X' := RDisk g st :: _) (fun w m => (m.perm (takeR_perm [0, 0, 0, 0, 0] _ [_, _, _, _, _] _ rfl)).pack) ?_
  exact hret1 trivial rfl rfl [0] rfl [] rfl ⟨rfl, rfl, rfl⟩
theorem tot_aput' : ∀ (l : Files) (p : List UInt8) (r : BRow), tot (aput l p r) + ((aget l p).map (·.n)).getD 0 = tot l + r.n
  | [], p, r => by simp [aput, aget, tot]
  | (k, u) :: q, p, r => by
    have := tot_aput' q p r
    simp only [aput, aget]
    split
    · simp [tot]; omega
    · simp only [tot, List.map_cons, List.sum_cons] at this ⊢
      omega
def nn : List UInt8 := [110, 111, 110, 101]
def szA (st : DSt) : Nat := ((aget st.seen [97]).map (·.n)).getD 0
/-- what the loop keeps -/
structure PInv (st : DSt) (i k : Nat) : Prop where
  room : st.room = 100
  power : st.power = ((k - i : Nat) : Int)
  waits : st.waits.length = min i k
  wr : Wr st
  lasts : st.lasts = []
  nno : aget st.seen nn = none
  ttt : tot st.seen = szA st ∧ szA st ≤ 1
theorem PInv.init {k gs gl : Nat} : PInv ((dinit 100 gs gl).powered k) 0 k := ⟨rfl, by simp [DSt.powered]; omega, by simp [DSt.powered, dinit], fun c hc => (by cases hc), rfl, rfl, rfl, Nat.zero_le _⟩
theorem PInv.more {st : DSt} {i k : Nat} (h : PInv st i k) (hi : i < k) {r : BRow} (hr : r.n = 1) {A : Option Addr} {c : Nat} : PInv (st.wrote [97] r A c) (i + 1) k := by
  have h4 := tot_aput' st.seen [97] r
  have ht := h.ttt
  have hs : szA (st.wrote [97] r A c) = 1 := by
    show ((aget (aput st.seen [97] r) [97]).map (·.n)).getD 0 = 1
    rw [aget_aput, if_pos rfl]; exact hr
  refine ⟨h.room, ?_, ?_, ?_, h.lasts, ?_, ?_, by omega⟩
  · have := h.power
    show (if 0 < st.power then st.power - 1 else st.power) = _
    rw [if_pos (by omega)]; omega
  · have := h.waits
    show (st.waits ++ [Chg.written [97] r]).length = _
    rw [List.length_append]; simp; omega
  · intro c hc
    rcases List.mem_append.1 (show c ∈ st.waits ++ [Chg.written [97] r] from hc) with h' | h'
    · exact h.wr c h'
    · exact ⟨_, _, List.mem_singleton.1 h'⟩
  · show aget (aput st.seen [97] r) nn = _
    rw [aget_aput, if_neg (by decide)]; exact h.nno
  · rw [hs]
    show tot (aput st.seen [97] r) = 1
    have : ((aget st.seen [97]).map (·.n)).getD 0 = szA st := rfl
    omega
theorem PInv.write {st : DSt} {i k : Nat} (h : PInv st i k) : writeE st [97] 1 = if i < k then 0 else 6 := by
  have h1 := h.ttt
  have h2 := h.power
  have h3 := h.room
  have h4 : ((aget st.seen [97]).map (·.n)).getD 0 = szA st := rfl
  rw [writeE, if_neg (not_not_intro (named1 (by decide))), h4]
  by_cases hi : i < k
  · rw [if_neg (by omega), if_neg (by omega), if_pos hi]
  · rw [if_pos (by omega), if_neg hi]
theorem PInv.found {st : DSt} {i k : Nat} (h : PInv st i k) : foundE st nn = if i < k then 4 else 6 := by
  have h2 := h.power
  rw [foundE]
  by_cases hi : i < k
  · rw [if_neg (by omega), if_pos h.nno, if_pos hi]
  · rw [if_pos (by omega), if_neg hi]
theorem DOk.powered {st : DSt} {n k : Nat} (h : DOk st n) (hk : k ≤ 1000000) : DOk (st.powered k) n := ⟨by show max (k : Int) (-1) ≤ _; omega, h.room, h.seen, h.rest, h.small⟩
end Go.Proofs.YtfikjheicjamhaaDoor
end
section
/- Contracts: a disk's changes of every kind: Rename, Remove, Restart. -/
set_option linter.unusedVariables false
set_option linter.unusedSimpArgs false
set_option maxRecDepth 20000
namespace Go.Proofs.YtfikjheicjamhaaDoor
open Go.Eng Go.Hx
/-- files behind a change -/
def apl (l : Files) : Chg → Files
  | .written p r => aput l p r
  | .renamed a c => match aget l a with
    | none => l
    | some r => aput (adel l a) c r
  | .removed p => adel l p
theorem nmakeC {g : Nat} {l : Files} {a c : List UInt8} : Con Tryd.prog 215 [.agg [SV a, SV c].toArray, .map (some g)] [RMap SV g (vals l)] [] (fun v_ X_ S_ => v_ = (.tuple #[]) ∧ X_ = [RMap SV g (vals (apl l (.renamed a c)))] ∧ S_ = []) := by
  refine henter (N := 21) Tryd.func215 rfl rfl (by simp) fun b => ?_
  refine hseq <| hreg <| ?_
  refine hx (xh_box rfl (fun g2 => ?_))
  refine hmemL (fun w m => m.eqX 0 rfl (show _ = RBlk g2 206 [SV a, SV c] from congrArg (RBlk _ _) (cells_agg _))) ?_
  rcases aget_split (l := l) a with ⟨h1, h2⟩ | ⟨r, h1, h2⟩
  · refine hend <| hmemQ (X' := [_, _]) (S' := []) (fun _ m => m) <| hthen <| hseq <| hreg <| hy (fun _ => y_move rfl) <| hy (fun _ => y_fld rfl fa206_0 (by decide)) <| hy (fun m => y_ld1 rfl ag9 (ld_blk (m.blk 0 rfl) (i := 0) rfl)) <| hy (fun m => yV (y_lookM (enc := SV) rfl rfl Tryd.underlying143 ti32 (strKey Tryd.underlying9) (m.mapX 1 rfl)) ((show lookVal true (.slice none 0 0) (aget (vals l) a) = .tuple #[.slice none 0 0, .bool false] by rw [h2]; rfl))) <| hy (fun _ => y_move rfl) <| hy (fun _ => y_extract rfl rfl) <| hy (fun _ => y_extract rfl rfl) <| hy (fun _ => y_assign rfl) <| hy (fun _ => y_assign rfl) <| hend <| hsub (ρ' := [(5, _), (4, _), (2, _), (0, _), (1, _)]) ⟨rfl, rfl, rfl, rfl, rfl, trivial⟩ <| hthen <| hseq <| hreg <| hy (fun _ => y_move rfl) <| hend <| hthen <| ?_
    refine hiff rfl (rfl) ?_
    refine hcskip <| ?_
    have e : apl l (.renamed a c) = l := by rw [apl, h1]
    rw [e]
    exact hret0 trivial rfl [1] rfl [] rfl ⟨rfl, rfl, rfl⟩
  · refine hend <| hthen <| hseq <| hreg <| hy (fun _ => y_move rfl) <| hy (fun _ => y_fld rfl fa206_0 (by decide)) <| hy (fun m => y_ld1 rfl ag9 (ld_blk (m.blk 0 rfl) rfl)) <| hy (fun m => yV (y_lookM (enc := SV) rfl rfl Tryd.underlying143 ti32 (strKey Tryd.underlying9) (m.mapX 1 rfl)) ((show lookVal true (.slice none 0 0) (aget (vals l) a) = .tuple #[r.val, .bool true] by rw [h2]; rfl))) <| hy (fun _ => y_move rfl) <| hy (fun _ => y_extract rfl rfl) <| hy (fun _ => y_extract rfl rfl) <| hy (fun _ => y_assign rfl) <| hy (fun _ => y_assign rfl) <| hend <| hsub (ρ' := [(5, _), (4, _), (2, _), (0, _), (1, _)]) ⟨rfl, rfl, rfl, rfl, rfl, trivial⟩ <| hthen <| hseq <| hreg <| hy (fun _ => y_move rfl) <| hend <| hthen <| ?_
    refine hift rfl (rfl) ?_
    refine hseq <| hreg <| hy (fun _ => y_move rfl) <| hy (fun _ => y_fld rfl fa206_0 (by decide)) <| hy (fun m => y_ld1 rfl ag9 (ld_blk (m.blk 0 rfl) (i := 0) rfl)) <| ?_
    refine hx0 (xh_mapdel (enc := SV) 1 rfl rfl rfl Tryd.underlying143 (strKey Tryd.underlying9) ?_)
    refine hend <| hsub (ρ' := [(13, _), (5, _), (4, _), (2, _), (0, _), (1, _)]) ⟨rfl, rfl, rfl, rfl, rfl, rfl, trivial⟩ <| hmemQ (X' := [_, _]) (S' := []) (fun _ m => m) <| hthen <| hreg <| hy (fun _ => y_move rfl) <| hy (fun _ => y_fld rfl fa206_1 (by decide)) <| hy (fun m => y_ld1 rfl ag9 (ld_blk (m.blk 1 rfl) (i := 1) rfl)) <| hy (fun _ => y_move rfl) <| ?_
    refine hx0 (xh_mapup (enc := SV) 0 rfl rfl rfl rfl Tryd.underlying143 (strKey Tryd.underlying9) ?_)
    refine hend <| hsub (ρ' := [(13, _), (5, _), (4, _), (2, _), (0, _), (1, _)]) ⟨rfl, rfl, rfl, rfl, rfl, rfl, trivial⟩ <| hmemQ (X' := [_, _]) (S' := []) (fun _ m => m) <| ?_
    have e : aput (adel (vals l) a) c r.val = vals (apl l (.renamed a c)) := by rw [apl, h1, vals_del, vals_put]
    refine hmemQ (fun w m => m.eqX 0 rfl (show _ = RMap SV g (vals (apl l (.renamed a c))) from congrArg (RMap SV g) e)) ?_
    exact hret0 trivial rfl [0] rfl [] rfl ⟨rfl, rfl, rfl⟩
/-- behind a change -/
def DSt.did (st : DSt) (c : Chg) (A : Option Addr) (k : Nat) : DSt := { st.spent with seen := apl st.seen c, waits := st.waits ++ [c], wA := A, wc := k }
theorem adel_vals {l : Files} {p : List UInt8} {x : BRow} (h : x ∈ (adel l p).map (·.2)) : x ∈ l.map (·.2) := by
  induction l with
  | nil => exact h
  | cons a q ih =>
    obtain ⟨k, u⟩ := a
    simp only [adel] at h
    split at h
    · exact List.mem_cons_of_mem _ h
    · simp only [List.map_cons, List.mem_cons] at h ⊢
      rcases h with rfl | h
      · exact .inl rfl
      · exact .inr (ih h)
theorem apl_rows {l : Files} {c : Chg} (hc : c.row = none) {x : BRow} (h : x ∈ (apl l c).map (·.2)) : x ∈ l.map (·.2) := by
  cases c with
  | written p r => cases hc
  | renamed a b =>
    simp only [apl] at h
    split at h
    · exact h
    · rename_i r hr
      rcases aput_vals h with h | h
      · exact adel_vals h
      · exact h ▸ List.mem_map.2 ⟨_, aget_mem hr, rfl⟩
  | removed p => exact adel_vals h
theorem apl_len (l : Files) (c : Chg) : (apl l c).length ≤ l.length + 1 := by
  cases c with
  | written p r => exact aput_len l p r
  | renamed a b =>
    simp only [apl]
    split
    · omega
    · rename_i r hr
      have h1 := aput_len (adel l a) b r
      have h2 := adel_len l a
      omega
  | removed p => have h2 := adel_len l p; show (adel l p).length ≤ _; omega
theorem rows_did {st : DSt} {c : Chg} {A : Option Addr} {k : Nat} (hc : c.row = none) : ∀ x ∈ rowsOf (st.did c A k), x ∈ rowsOf st := by
  intro x hx
  unfold rowsOf DSt.did at hx
  simp only [DSt.spent, List.mem_append, List.filterMap_append] at hx
  unfold rowsOf
  simp only [List.mem_append]
  rcases hx with (h | h) | h | h
  · exact .inl (.inl (apl_rows hc h))
  · exact .inl (.inr h)
  · exact .inr h
  · simp [hc] at h
theorem DOk.did {st : DSt} {k : Nat} (h : DOk st k) {c : Chg} (hc : c.row = none) (A : Option Addr) (j : Nat) : DOk (st.did c A j) (k + 1) := by
  refine ⟨spent_power h.power, h.room, ?_, ?_, fun x hx => h.small x (rows_did hc x hx)⟩
  · have := apl_len st.seen c
    have := h.seen
    show (apl st.seen c).length ≤ k + 1
    omega
  · have := h.rest
    show st.lasts.length + (st.waits ++ [c]).length ≤ k + 1
    simp only [List.length_append, List.length_cons, List.length_nil]
    omega
theorem doNC {g : Nat} {st : DSt} {a c : List UInt8} (hp : st.power ≤ 1000000000000) (hw : st.waits.length ≤ 1000000) : Con Tryd.prog 126 [.pointer (some ⟨g, 0, none⟩), (Chg.renamed a c).val] [RDisk g st] [] (fun v_ X_ S_ => ∃ A k, v_ = (.tuple #[]) ∧ X_ = [RDisk g (st.did (.renamed a c) A k)] ∧ S_ = []) := by
  have hsw : st.spent.waits.length = st.waits.length := rfl
  refine henter (N := 25) Tryd.func126 rfl rfl (by simp) fun b => ?_
  refine hseq <| hreg <| hy (fun _ => y_move rfl) <| ?_
  refine hx (xh_call rfl Tryd.call127 (spendC (by omega)) [0] rfl [] rfl ?_)
  rintro _ _ _ ⟨rfl, rfl, rfl⟩
  refine hmemL (fun w m => (m.perm (takeR_perm [0] _ [_] _ rfl)).unpack) ?_
  refine hend <| hsub (ρ' := [(0, _), (1, _)]) ⟨rfl, rfl, trivial⟩ <| hmemQ (X' := [_, _, _, _, _]) (S' := []) (fun _ m => m) <| hthen <| hseq <| hdrw [8] [(0, some 0), (1, some 0), (2, some 0), (3, some 0), (4, some 0), (5, some 0), (6, some 0), (7, some 0), (8, none)] (by kernel_rfl) (by kernel_rfl) rfl 0 <| htyU (y_move rfl) <| htyU (y_move rfl) <| htyU (y_nilp rfl) <| htyU (y_fld rfl fa146_1 (by decide)) <| hty (fun m => y_ld1 rfl ag143 (ld_blk (m.blk 0 rfl) rfl)) <| htyU (y_mkf rfl rfl) <| htyU (y_nilm rfl (by kernel_rfl)) <| htyU (y_move rfl) <| ?_
  refine htx (xh_inv rfl rfl (fun w => by kernel_rfl) Tryd.call215 (nmakeC) [1] rfl [] rfl ?_)
  rintro _ _ _ ⟨rfl, rfl, rfl⟩
  refine ⟨(fun h => absurd h (by decide)), ?_⟩
  refine htend <| hsub (ρ' := [(0, _), (1, _)]) ⟨rfl, rfl, trivial⟩ <| hmemQ (X' := [_, _, _, _, _]) (S' := []) (fun _ m => m) <| hthen <| hreg <| hy (fun _ => y_move rfl) <| hy (fun _ => y_move rfl) <| hy (fun _ => y_nilp rfl) <| hy (fun _ => y_fld rfl fa146_3 (by decide)) <| hy (fun m => y_ld1 rfl ag144 (ld_blk (m.blk 1 rfl) rfl)) <| hy (fun _ => y_move rfl) <| ?_
  refine hx (xh_bsl Tryd.underlying144 ti148 rfl rfl rfl (by simp [Value.cells, Chg.val]) (by decide) (by decide) (fun g21 => ?_))
  have hA_b21 : 0 < 1 → (some (⟨g21, 0, none⟩ : Addr)) ≠ none := fun _ h => by cases h
  refine hmemL (fun w m => m.eqX 0 rfl (show _ = ROwn 148 1 (.slice (some ⟨g21, 0, none⟩) 1 1) 1 [((Chg.renamed a c)).val] from rfl)) ?_
  refine hx (xh_app 4 rfl rfl rfl Tryd.underlying144 Tryd.underlying144 (by exact .inl rfl) ti148 rfl (fun m => Src.of_rd (m.ord 0 rfl)) (by simp [Chg.val, Value.oneCell']) (by unfold maxLen; omega) (by omega) (fun u => ?_))
  refine hfactL (fun m => (m.own 0 rfl).slice) ?_
  rintro ⟨A_d3, c_d3, rfl, hc_d3⟩
  refine hfactL (fun m => (m.ord 0 rfl).2.1) fun hA_d3 => ?_
  refine hy (fun _ => y_nilp rfl) <| hy (fun _ => y_fld rfl fa146_3 (by decide)) <| ?_
  refine hx0 (xh_st1a 3 rfl rfl rfl sz144 rfl (by first | exact Nat.le_of_ble_eq_true rfl | simp) ?_)
  refine hend <| hsub (ρ' := [(0, _), (1, _)]) ⟨rfl, rfl, trivial⟩ <| hmemQ (X' := [_, _, _, _, _, _]) (S' := []) (fun _ m => m) <| ?_
  refine hmemQ (fun w m => m.eqX 0 rfl (show _ = RBlk g 146 (dcells (st.did ((Chg.renamed a c)) A_d3 c_d3)) from by simp [dcells, DSt.did, DSt.spent])) ?_
  refine hmemQ (fun w m => m.eqX 3 rfl (show _ = RMap SV st.gs (vals (st.did ((Chg.renamed a c)) A_d3 c_d3).seen) from rfl)) ?_
  refine hmemQ (fun w m => m.eqX 2 rfl (show _ = ROwn 148 1 (.slice A_d3 (st.did ((Chg.renamed a c)) A_d3 c_d3).waits.length c_d3) (st.did ((Chg.renamed a c)) A_d3 c_d3).waits.length ((st.did ((Chg.renamed a c)) A_d3 c_d3).waits.map Chg.val) from by simp [DSt.did, DSt.spent])) ?_
  refine hmemQ (X' := RRows (rowsOf (st.did ((Chg.renamed a c)) A_d3 c_d3)) :: _) (fun w m => (m.perm (takeR_perm [5] _ [_] _ rfl)).rowSub ((rows_did rfl))) ?_
  refine hmemQ (X' := RDisk g (st.did ((Chg.renamed a c)) A_d3 c_d3) :: _) (fun w m => (m.perm (takeR_perm [3, 2, 3, 1, 0] _ [_, _, _, _, _] _ rfl)).pack) ?_
  exact hret0 trivial rfl [0] rfl [] rfl ⟨_, _, rfl, rfl, rfl⟩
/-- what is told of a Rename -/
def renameE (st : DSt) (a c : List UInt8) : Int := if ¬ Named c then 1 else foundE st a
theorem renameC {g : Nat} {st : DSt} {a c : List UInt8} {k : Nat} (ok : DOk st k) (hk : k ≤ 100000) : Con Tryd.prog 97 [.pointer (some ⟨g, 0, none⟩), .string (strOf a), .string (strOf c)] [RDisk g st] [] (fun v_ X_ S_ => ∃ st1 A j, v_ = (.int .i64 (renameE st a c)) ∧ X_ = [RDisk g st1] ∧ S_ = [] ∧ ((renameE st a c ≠ 0 ∧ st1 = st) ∨ (renameE st a c = 0 ∧ st1 = st.did (.renamed a c) A j))) := by
  have hp := ok.power
  have hw : st.waits.length ≤ 1000000 := by have := ok.rest; omega
  refine henter (N := 23) Tryd.func97 rfl rfl (by simp) fun b => ?_
  refine hseq <| hreg <| hy (fun _ => y_assign rfl) <| hend <| hthen <| hseq <| hseq <| hreg <| hy (fun _ => y_move rfl) <| ?_
  refine hx (xh_call rfl Tryd.call123 (namedC) [] rfl [] rfl ?_)
  rintro _ _ _ ⟨rfl, rfl, rfl⟩
  refine hy (fun _ => y_notp rfl) <| hend <| hsub (ρ' := [(10, _), (6, _), (0, _), (1, _), (2, _)]) ⟨rfl, rfl, rfl, rfl, rfl, trivial⟩ <| hmemQ (X' := [_]) (S' := []) (fun _ m => m) <| hthen <| ?_
  refine hif rfl (fun h1 => ?_) (fun h1 => ?_)
  · have e : renameE st a c = 1 := by rw [renameE, if_pos h1]
    rw [e]
    refine hseq <| hreg <| hy (fun _ => y_assign rfl) <| hend <| hthen <| hret <| hthen_ret <| ?_
    exact hret1 trivial rfl rfl [0] rfl [] rfl ⟨_, none, 0, rfl, rfl, rfl, .inl ⟨by decide, rfl⟩⟩
  · have e : renameE st a c = foundE st a := by rw [renameE, if_neg h1]
    rw [e]
    refine hcskip <| hthen <| hseq <| hseq <| hreg <| hy (fun _ => y_move rfl) <| hy (fun _ => y_move rfl) <| ?_
    refine hx (xh_call rfl Tryd.call118 (foundC) [0] rfl [] rfl ?_)
    rintro _ _ _ ⟨rfl, rfl, rfl⟩
    refine hy (fun _ => y_assign rfl) <| hend <| hsub (ρ' := [(7, _), (10, _), (6, _), (0, _), (1, _), (2, _)]) ⟨rfl, rfl, rfl, rfl, rfl, rfl, trivial⟩ <| hmemQ (X' := [_]) (S' := []) (fun _ m => m) <| hthen <| hseq <| hreg <| hy (fun _ => y_move rfl) <| hy (fun _ => y_neq rfl rfl) <| hend <| hsub (ρ' := [(15, _), (7, _), (10, _), (6, _), (0, _), (1, _), (2, _)]) ⟨rfl, rfl, rfl, rfl, rfl, rfl, rfl, trivial⟩ <| hthen <| ?_
    refine hif rfl (fun h2 => ?_) (fun h2 => ?_)
    · refine hseq <| hreg <| hy (fun _ => y_move rfl) <| hy (fun _ => y_assign rfl) <| hend <| hsub (ρ' := [(6, _), (15, _), (7, _), (10, _), (0, _), (1, _), (2, _)]) ⟨rfl, rfl, rfl, rfl, rfl, rfl, rfl, trivial⟩ <| hthen <| hret <| hthen_ret <| ?_
      exact hret1 trivial rfl rfl [0] rfl [] rfl ⟨_, none, 0, rfl, rfl, rfl, .inl ⟨h2, rfl⟩⟩
    · have h0 := Decidable.not_not.1 h2
      rw [h0]
      refine hcskip <| hthen <| hseq <| hreg <| hy (fun _ => y_move rfl) <| hy (fun _ => y_move rfl) <| hy (fun _ => y_move rfl) <| hy (fun _ => yV (y_build ti206 rfl rfl (by kernel_rfl) (.cons (o := 0) (sz := 1) (by kernel_rfl) rfl rfl (Nat.le_of_ble_eq_true rfl) (.cons (o := 1) (sz := 1) (by kernel_rfl) rfl rfl (Nat.le_of_ble_eq_true rfl) .nil))) ((rfl : _ = Value.agg [SV a, SV c].toArray))) <| hy (fun _ => yV (y_mki rfl Tryd.underlying206 (fun _ h => by cases h)) ((rfl : _ = (Chg.renamed a c).val))) <| ?_
      refine hx (xh_call rfl Tryd.call126 (doNC (by omega) (by omega)) [0] rfl [] rfl ?_)
      rintro _ _ _ ⟨A, k2, rfl, rfl, rfl⟩
      refine hend <| hsub (ρ' := [(15, _), (7, _), (10, _), (6, _), (0, _), (1, _), (2, _)]) ⟨rfl, rfl, rfl, rfl, rfl, rfl, rfl, trivial⟩ <| hmemQ (X' := [_]) (S' := []) (fun _ m => m) <| hthen <| hseq <| hreg <| hy (fun _ => y_assign rfl) <| hend <| hthen <| hret <| ?_
      exact hret1 trivial rfl rfl [0] rfl [] rfl ⟨_, _, _, rfl, rfl, rfl, .inr ⟨rfl, rfl⟩⟩
end Go.Proofs.YtfikjheicjamhaaDoor
end
section
/- The document's files and a map's files, over plain lists. No program walked. -/
set_option linter.unusedVariables false
set_option linter.unusedSimpArgs false
namespace Go.Proofs.YtfikjheicjamhaaDoor
open Go.Eng Go.Hx
theorem bl_eq : ∀ (x y : List UInt8), Op.bytesLess x y = decide (x < y)
  | [], [] => by simp [Op.bytesLess]
  | _ :: _, [] => by simp [Op.bytesLess]
  | [], _ :: _ => by simp [Op.bytesLess]
  | a :: x, b :: y => by
    rw [Op.bytesLess, bl_eq x y]
    simp only [List.cons_lt_cons_iff]
    by_cases h1 : a < b <;> by_cases h2 : a = b <;> by_cases h3 : x < y <;> simp [h1, h2, h3]
theorem sless_iff {a b : List UInt8} : sless a b = decide (a < b) := by
  unfold sless
  rw [bl_eq, Lib.toList_data, Lib.toList_data]
  rfl
def insF : List FP → FP → List FP
  | [], f => [f]
  | x :: r, f => if x.1 < f.1 then x :: insF r f else f :: (x :: r).filter fun y => decide (y.1 ≠ f.1)
theorem fold_true (f : FP) : ∀ (l acc : List FP), l.foldl (wstep f) (acc, true) = (acc ++ l.filter (fun y => decide (y.1 ≠ f.1)), true)
  | [], acc => by simp
  | x :: r, acc => by
    rw [List.foldl_cons]
    by_cases h : x.1 = f.1
    · have : wstep f (acc, true) x = (acc, true) := by simp [wstep, h]
      rw [this, fold_true f r acc]; simp [h]
    · have : wstep f (acc, true) x = (acc ++ [x], true) := by simp [wstep, h]
      rw [this, fold_true f r (acc ++ [x])]; simp [h]
def wfin (f : FP) (st : List FP × Bool) : List FP := if st.2 then st.1 else st.1 ++ [f]
theorem fold_false (f : FP) : ∀ (l acc : List FP), wfin f (l.foldl (wstep f) (acc, false)) = acc ++ insF l f
  | [], acc => by simp [insF, wfin]
  | x :: r, acc => by
    rw [List.foldl_cons]
    by_cases h : x.1 < f.1
    · have hne : x.1 ≠ f.1 := fun e => by rw [e] at h; exact List.lt_irrefl _ h
      have : wstep f (acc, false) x = (acc ++ [x], false) := by simp [wstep, sless_iff, h, hne]
      rw [this, fold_false f r (acc ++ [x]), insF, if_pos h]; simp
    · have hs : sless x.1 f.1 = false := by rw [sless_iff]; simpa using h
      rw [insF, if_neg h]
      by_cases he : x.1 = f.1
      · have hs' : sless f.1 f.1 = false := he ▸ hs
        have : wstep f (acc, false) x = (acc ++ [f], true) := by simp [wstep, hs', he]
        rw [this, fold_true]; simp [he, wfin]
      · have : wstep f (acc, false) x = (acc ++ [f] ++ [x], true) := by simp [wstep, hs, he]
        rw [this, fold_true]; simp [he, wfin]
theorem withF_ins (l : List FP) (f : FP) : withF l f = insF l f := by
  have := fold_false f l []
  rw [List.nil_append] at this
  rw [← this]
  unfold withF wst wfin
  rw [List.take_of_length_le (Nat.le_refl _)]
/-- what stands under a name -/
def lk : List FP → List UInt8 → Option (List UInt8)
  | [], _ => none
  | x :: r, p => if x.1 = p then some x.2 else lk r p
theorem lk_find : ∀ (l : List FP) (p : List UInt8), (l[findN l p]?).map (·.2) = lk l p
  | [], p => rfl
  | x :: r, p => by
    have := lk_find r p
    unfold findN at this ⊢
    rw [List.findIdx_cons]
    by_cases h : x.1 = p
    · simp [h, lk]
    · simp [h, lk, this]
theorem lk_filter (q : List UInt8) : ∀ (l : List FP) (p : List UInt8), lk (l.filter fun y => decide (y.1 ≠ q)) p = if p = q then none else lk l p
  | [], p => by simp [lk]
  | x :: r, p => by
    have ih := lk_filter q r p
    by_cases h : x.1 = q
    · rw [List.filter_cons, if_neg (by simp [h]), ih]
      by_cases hp : p = q
      · simp [hp]
      · rw [if_neg hp, if_neg hp, lk, if_neg (fun e => hp (e.symm.trans h))]
    · rw [List.filter_cons, if_pos (by simp [h]), lk, ih]
      by_cases hp : p = q
      · rw [if_pos hp, if_pos hp, if_neg (fun e => h (e.trans hp))]
      · rw [if_neg hp, if_neg hp, lk]
theorem lk_ins : ∀ (l : List FP) (f : FP) (p : List UInt8), lk (insF l f) p = if p = f.1 then some f.2 else lk l p
  | [], f, p => by simp only [insF, lk, eq_comm]
  | x :: r, f, p => by
    unfold insF
    by_cases h : x.1 < f.1
    · rw [if_pos h, lk, lk_ins r f p, lk]
      have hne : x.1 ≠ f.1 := fun e => by rw [e] at h; exact List.lt_irrefl _ h
      by_cases hp : p = f.1
      · rw [if_pos hp, if_pos hp, if_neg (fun e => hne (e.trans hp))]
      · rw [if_neg hp, if_neg hp]
    · rw [if_neg h, lk, lk_filter]
      by_cases hp : p = f.1
      · rw [if_pos hp.symm, if_pos hp]
      · rw [if_neg (fun e => hp e.symm), if_neg hp, if_neg hp]
/-- in order, each name once -/
def Srtd (l : List FP) : Prop := (l.map (·.1)).Pairwise (· < ·)
theorem srtd_filter {l : List FP} (q : FP → Bool) (h : Srtd l) : Srtd (l.filter q) := List.Pairwise.sublist (List.Sublist.map _ List.filter_sublist) h
theorem mem_ins {l : List FP} {f y : FP} (h : y ∈ insF l f) : y = f ∨ y ∈ l := by
  induction l with
  | nil => exact .inl (by simpa [insF] using h)
  | cons x r ih =>
    unfold insF at h
    split at h
    · rcases List.mem_cons.1 h with h | h
      · exact .inr (by rw [h]; exact List.mem_cons_self ..)
      · rcases ih h with h | h
        · exact .inl h
        · exact .inr (List.mem_cons_of_mem _ h)
    · rcases List.mem_cons.1 h with h | h
      · exact .inl h
      · exact .inr ((List.mem_filter.1 h).1)
theorem srtd_ins {l : List FP} {f : FP} (h : Srtd l) : Srtd (insF l f) := by
  induction l with
  | nil => simp [Srtd, insF]
  | cons x r ih =>
    have hx : ∀ y ∈ r, x.1 < y.1 := by
      intro y hy
      exact (List.pairwise_cons.1 h).1 _ (List.mem_map.2 ⟨y, hy, rfl⟩)
    have hr : Srtd r := (List.pairwise_cons.1 h).2
    unfold insF
    by_cases hlt : x.1 < f.1
    · rw [if_pos hlt]
      refine List.pairwise_cons.2 ⟨?_, ih hr⟩
      intro a ha
      obtain ⟨y, hy, rfl⟩ := List.mem_map.1 ha
      rcases mem_ins hy with rfl | hy
      · exact hlt
      · exact hx y hy
    · rw [if_neg hlt]
      refine List.pairwise_cons.2 ⟨?_, srtd_filter _ h⟩
      intro a ha
      obtain ⟨y, hy, rfl⟩ := List.mem_map.1 ha
      have hy1 := (List.mem_filter.1 hy).1
      have hy2 : y.1 ≠ f.1 := by simpa using (List.mem_filter.1 hy).2
      have hge : ¬ y.1 < f.1 := by
        rcases List.mem_cons.1 hy1 with rfl | h1
        · exact hlt
        · exact fun e => hlt (List.lt_trans (hx y h1) e)
      exact Decidable.byContradiction fun hn => hy2 (List.le_antisymm (List.not_lt.1 hn) (List.not_lt.1 hge))
/-- a map's files are the document's -/
structure FSim (fs : Files) (l : List FP) : Prop where
  ord : Srtd l
  nd : (akeys fs).Nodup
  look : ∀ p, (aget fs p).map (·.l) = lk l p
  len : ∀ x ∈ fs, x.2.n = x.2.l.length
theorem FSim.nil : FSim [] [] := ⟨by simp [Srtd], by simp [akeys], fun p => rfl, fun x h => by cases h⟩
theorem lk_mem {l : List FP} {p : List UInt8} : lk l p ≠ none ↔ p ∈ l.map (·.1) := by
  induction l with
  | nil => simp [lk]
  | cons x r ih =>
    unfold lk
    by_cases h : x.1 = p
    · simp [h]
    · rw [if_neg h, ih]; simp [Ne.symm h]
theorem FSim.keys {fs : Files} {l : List FP} (h : FSim fs l) : (akeys fs).Perm (l.map (·.1)) := by
  have hn : (l.map (·.1)).Nodup := List.Pairwise.imp (fun hlt e => by rw [e] at hlt; exact List.lt_irrefl _ hlt) h.ord
  refine (List.perm_ext_iff_of_nodup h.nd hn).2 fun p => ?_
  rw [← lk_mem, ← h.look p]
  have := @aget_none (List UInt8) BRow _ fs p
  cases hq : aget fs p with
  | none => simp [this.1 hq]
  | some r => simp; exact Decidable.byContradiction fun hm => by rw [this.2 hm] at hq; cases hq
theorem FSim.put {fs : Files} {l : List FP} (h : FSim fs l) {p : List UInt8} {r : BRow} (hr : r.n = r.l.length) : FSim (aput fs p r) (withF l (p, r.l)) := by
  rw [withF_ins]
  refine ⟨srtd_ins h.ord, aput_nodup h.nd, fun q => ?_, fun x hx => ?_⟩
  · rw [aget_aput, lk_ins]
    by_cases hq : p = q
    · rw [if_pos hq, if_pos hq.symm]; rfl
    · rw [if_neg hq, if_neg (fun e => hq e.symm)]; exact h.look q
  · rcases aput_vals (List.mem_map.2 ⟨x, hx, rfl⟩) with h1 | h1
    · obtain ⟨y, hy, e⟩ := List.mem_map.1 h1
      rw [← e]; exact h.len y hy
    · rw [h1]; exact hr
theorem sum_perm {a b : List Nat} (h : a.Perm b) : a.sum = b.sum := by
  induction h with
  | nil => rfl
  | cons x _ ih => simp [ih]
  | swap x y l => simp; omega
  | trans _ _ h1 h2 => rw [h1, h2]
theorem lk_self {l : List FP} (h : Srtd l) {x : FP} (hx : x ∈ l) : lk l x.1 = some x.2 := by
  induction l with
  | nil => cases hx
  | cons y r ih =>
    unfold lk
    rcases List.mem_cons.1 hx with rfl | h1
    · rw [if_pos rfl]
    · have hlt : y.1 < x.1 := (List.pairwise_cons.1 h).1 _ (List.mem_map.2 ⟨x, h1, rfl⟩)
      rw [if_neg (fun e => by rw [e] at hlt; exact List.lt_irrefl _ hlt)]
      exact ih (List.pairwise_cons.1 h).2 h1
theorem FSim.tot {fs : Files} {l : List FP} (h : FSim fs l) : tot fs = totF l := by
  let g : List UInt8 → Nat := fun p => ((lk l p).getD []).length
  have h1 : fs.map (fun x => x.2.n) = (akeys fs).map g := by
    rw [akeys, List.map_map]
    refine List.map_congr_left fun x hx => ?_
    have := h.look x.1
    rw [aget_of_mem h.nd (show (x.1, x.2) ∈ fs from hx)] at this
    show x.2.n = ((lk l x.1).getD []).length
    rw [← this, h.len x hx]; rfl
  have h2 : l.map (fun x => x.2.length) = (l.map (·.1)).map g := by
    rw [List.map_map]
    refine List.map_congr_left fun x hx => ?_
    show x.2.length = ((lk l x.1).getD []).length
    rw [lk_self h.ord hx]; rfl
  show (fs.map fun x => x.2.n).sum = (l.map fun x => x.2.length).sum
  rw [h1, h2]
  exact sum_perm (h.keys.map g)
theorem FSim.sz {fs : Files} {l : List FP} (h : FSim fs l) (p : List UInt8) : ((aget fs p).map (·.n)).getD 0 = ((l[findN l p]?).map (·.2.length)).getD 0 := by
  have h1 := h.look p
  rw [← lk_find] at h1
  cases hq : aget fs p with
  | none =>
    rw [hq] at h1
    cases hl : l[findN l p]? with
    | none => rfl
    | some x => rw [hl] at h1; cases h1
  | some r =>
    rw [hq] at h1
    cases hl : l[findN l p]? with
    | none => rw [hl] at h1; cases h1
    | some x =>
      rw [hl] at h1
      have e : r.l = x.2 := Option.some.inj h1
      have := h.len _ (aget_mem hq)
      simp only [Option.map_some, Option.getD_some]
      rw [← e]; exact this
/-- a disk is the document's -/
structure DSim (st : DSt) (d : RD) : Prop where
  room : st.room = d.room
  power : st.power = d.pw
  files : FSim st.seen d.seen
  waits : st.waits.length = d.waits.length
theorem DSim.writeE {st : DSt} {d : RD} (h : DSim st d) (p bb : List UInt8) : writeE st p bb.length = d.writeE p bb := by
  have h1 := h.files.sz p
  have h2 := h.files.tot
  unfold Go.Proofs.YtfikjheicjamhaaDoor.writeE RD.writeE RD.sz
  rw [h.power, h.room, h1, h2]
  by_cases hn : ¬ Named p
  · rw [if_pos hn, if_pos hn]
  · rw [if_neg hn, if_neg hn]
    by_cases h0 : d.pw = 0
    · rw [if_pos h0, if_pos h0]
    · rw [if_neg h0, if_neg h0]
      by_cases hr : d.room < (totF d.seen : Int) + (bb.length : Nat) - (((d.seen[findN d.seen p]?).map (·.2.length)).getD 0 : Nat)
      · rw [if_pos hr, if_pos (by omega)]
      · rw [if_neg hr, if_neg (by omega)]
theorem DSim.wrote {st : DSt} {d : RD} (h : DSim st d) {p : List UInt8} {r : BRow} (hr : r.n = r.l.length) {A : Option Addr} {c : Nat} : DSim (st.wrote p r A c) (d.did 0 p [] r.l) := by
  refine ⟨h.room, ?_, ?_, ?_⟩
  · show (if 0 < st.power then st.power - 1 else st.power) = lessP d.pw
    rw [h.power]; rfl
  · show FSim (aput st.seen p r) (makeF d.seen 0 p [] r.l)
    rw [makeF, if_pos rfl]; exact h.files.put hr
  · show (st.waits ++ [Chg.written p r]).length = (d.waits ++ [(0, p, [], r.l)]).length
    rw [List.length_append, List.length_append, h.waits]; rfl
theorem DSim.readE {st : DSt} {d : RD} (h : DSim st d) (p : List UInt8) : foundE st p = d.readE p := by
  have h1 := h.files.look p
  rw [← lk_find] at h1
  unfold foundE RD.readE
  rw [h.power]
  by_cases h0 : d.pw = 0
  · rw [if_pos h0, if_pos h0]
  · rw [if_neg h0, if_neg h0]
    cases ha : aget st.seen p with
    | none =>
      rw [ha] at h1
      cases hb : d.seen[findN d.seen p]? with
      | none => simp
      | some y => rw [hb] at h1; cases h1
    | some r =>
      rw [ha] at h1
      cases hb : d.seen[findN d.seen p]? with
      | none => rw [hb] at h1; cases h1
      | some y => simp
theorem DSim.readB {st : DSt} {d : RD} (h : DSim st d) (p : List UInt8) : readB st p = d.readB p := by
  have h1 := h.files.look p
  rw [← lk_find] at h1
  have h2 := h.readE p
  unfold Go.Proofs.YtfikjheicjamhaaDoor.readB RD.readB
  rw [h2, ← h1]
  unfold RD.readE
  by_cases h0 : d.pw = 0
  · rw [if_pos h0, if_pos h0, if_neg (by decide)]
  · rw [if_neg h0, if_neg h0]
    cases hb : d.seen[findN d.seen p]? with
    | none =>
      rw [hb] at h1
      cases ha : aget st.seen p with
      | none => simp
      | some r => rw [ha] at h1; cases h1
    | some y => simp
end Go.Proofs.YtfikjheicjamhaaDoor
end
section
/- Contracts: the document's disk (layer 12), as one thing: Read, Write, Rename, Remove, Sync, Power, Restart. -/
set_option linter.unusedVariables false
set_option linter.unusedSimpArgs false
set_option maxRecDepth 20000
namespace Go.Proofs.YtfikjheicjamhaaDoor
open Go.Eng Go.Hx
/-- a disk of the document, and where its lists lie -/
structure RX where
  d : RD
  A : Option Addr
  c : Nat
  Al : Option Addr
  cl : Nat
  A3 : Option Addr
  c3 : Nat
def RX.cs (x : RX) : List Value := rv x.d x.A x.d.seen.length x.c x.Al x.d.lasts.length x.cl x.A3 x.d.waits.length x.c3
abbrev RX.parts (x : RX) : List Res := [RRd 2 x.A x.d.seen.length (fc x.d.seen), RRd 2 x.Al x.d.lasts.length (fc x.d.lasts), RRd 4 x.A3 x.d.waits.length (wcs x.d.waits)]
def RRef (x : RX) : Res := RAll x.parts
def RD.new (room : Int) : RD := ⟨room, [], [], [], -1⟩
def RX.new (room : Int) : RX := ⟨RD.new room, none, 0, none, 0, none, 0⟩
theorem ref_new {room : Int} : Der [] [RRef (RX.new room)] := by
  intro s hs
  obtain rfl := List.mem_singleton.1 hs
  refine ⟨fun w _ x hx => ?_, fun k hk => ?_⟩
  · simp only [List.mem_cons, List.not_mem_nil, or_false] at hx
    rcases hx with rfl | rfl | rfl <;> exact Rd.nil _ _ _
  · obtain ⟨x, hx, hk⟩ := hk
    simp only [List.mem_cons, List.not_mem_nil, or_false] at hx
    rcases hx with rfl | rfl | rfl <;> exact absurd rfl hk.1
theorem inr {r a : Res} {S : List Res} (h : ∃ t ∈ S, View t r) : ∃ t ∈ a :: S, View t r := by
  obtain ⟨t, ht, hv⟩ := h
  exact ⟨t, List.mem_cons_of_mem _ ht, hv⟩
theorem rnewX {room : Int} : Con Tryd.prog 76 [.int .i64 room] [] [] (fun v_ X_ S_ => ∃ y, v_ = (.agg y.cs.toArray) ∧ X_ = [] ∧ S_ = [RRef y] ∧ (y.d = RD.new room)) := by
  exact Con.viaS rnewC (fun s hs => by cases hs) (fun v X S h => by
    obtain ⟨rfl, rfl, rfl⟩ := h
    exact ⟨_, ⟨RX.new room, rfl, rfl, rfl, rfl⟩, ref_new⟩)
/-- what is told of a Rename -/
def RD.renameE (d : RD) (a c : List UInt8) : Int := if ¬ Named c then 1 else d.readE a
def RD.rename (d : RD) (a c : List UInt8) : RD := if d.renameE a c = 0 then d.did 1 a c [] else d
def RD.syncE (d : RD) : Int := if d.pw = 0 then 6 else 0
def RD.sync (d : RD) : RD := if d.pw = 0 then d else { d with lasts := d.seen, waits := [], pw := lessP d.pw }
def RD.power (d : RD) (n : Int) : RD := { d with pw := max n (-1) }
end Go.Proofs.YtfikjheicjamhaaDoor
end
section
/- A disk that is the document's, in all: what is seen, what lasts, what waits; kept by all that is done. No program walked. -/
set_option linter.unusedVariables false
set_option linter.unusedSimpArgs false
namespace Go.Proofs.YtfikjheicjamhaaDoor
open Go.Eng Go.Hx
theorem FSim.del {fs : Files} {l : List FP} (h : FSim fs l) (p : List UInt8) : FSim (adel fs p) (withoutF l p) := by
  refine ⟨srtd_filter _ h.ord, adel_nodup h.nd, fun q => ?_, fun x hx => ?_⟩
  · rw [aget_adel h.nd]
    have := lk_filter p l q
    unfold withoutF
    rw [this]
    by_cases hq : p = q
    · rw [if_pos hq, if_pos hq.symm]; rfl
    · rw [if_neg hq, if_neg (fun e => hq e.symm)]; exact h.look q
  · have h1 := adel_vals (List.mem_map.2 ⟨x, hx, rfl⟩)
    obtain ⟨y, hy, e⟩ := List.mem_map.1 h1
    rw [← e]; exact h.len y hy
theorem FSim.at {fs : Files} {l : List FP} (h : FSim fs l) (p : List UInt8) : (aget fs p = none ∧ l[findN l p]? = none) ∨ ∃ r x, aget fs p = some r ∧ l[findN l p]? = some x ∧ r.l = x.2 ∧ r.n = r.l.length := by
  have h1 := h.look p
  rw [← lk_find] at h1
  cases ha : aget fs p with
  | none =>
    rw [ha] at h1
    cases hb : l[findN l p]? with
    | none => exact .inl ⟨rfl, rfl⟩
    | some y => rw [hb] at h1; cases h1
  | some r =>
    rw [ha] at h1
    cases hb : l[findN l p]? with
    | none => rw [hb] at h1; cases h1
    | some y =>
      rw [hb] at h1
      exact .inr ⟨r, y, rfl, rfl, Option.some.inj h1, h.len _ (aget_mem ha)⟩
/-- a change, as the document has it -/
def Chg.rc : Chg → RC
  | .written p r => (0, p, [], r.l)
  | .renamed a c => (1, a, c, [])
  | .removed p => (2, p, [], [])
def Chg.wl (c : Chg) : Prop := ∀ r, c.row = some r → r.n = r.l.length
theorem FSim.apl {fs : Files} {l : List FP} (h : FSim fs l) {c : Chg} (hc : c.wl) : FSim (apl fs c) (makeF l c.rc.1 c.rc.2.1 c.rc.2.2.1 c.rc.2.2.2) := by
  cases c with
  | written p r =>
    rw [makeF]
    exact h.put (hc r rfl)
  | renamed a b =>
    rw [makeF]
    simp only [Chg.rc, Go.Proofs.YtfikjheicjamhaaDoor.apl]
    rcases h.at a with ⟨h1, h2⟩ | ⟨r, x, h1, h2, h3, h4⟩
    · simp only [h1, h2]; exact h
    · simp only [h1, h2]
      rw [← h3]
      exact (h.del a).put h4
  | removed p =>
    rw [makeF]
    simp only [Chg.rc, Go.Proofs.YtfikjheicjamhaaDoor.apl]
    rcases h.at p with ⟨h1, h2⟩ | ⟨r, x, h1, h2, h3, h4⟩
    · simp only [h2]
      have e : adel fs p = fs := by
        have hk : ¬ p ∈ akeys fs := aget_none.1 h1
        clear h h2 h1
        induction fs with
        | nil => rfl
        | cons a q ih =>
          obtain ⟨k, u⟩ := a
          simp only [akeys, List.map_cons, List.mem_cons, not_or] at hk
          simp only [adel]
          rw [if_neg (fun e => hk.1 e.symm), ih hk.2]
      rw [if_neg (by decide), e]; exact h
    · simp only [h2]
      rw [if_neg (by decide)]
      exact h.del p
/-- a disk is the document's -/
structure DS (st : DSt) (d : RD) (k : Nat) : Prop where
  sim : DSim st d
  ok : DOk st k
  low : -1 ≤ d.pw
  lasts : FSim st.lasts d.lasts
  waits : st.waits.map Chg.rc = d.waits
  wlen : ∀ c ∈ st.waits, c.wl
theorem DS.le {st : DSt} {d : RD} {k k' : Nat} (h : DS st d k) (hk : k ≤ k') : DS st d k' := ⟨h.sim, h.ok.le hk, h.low, h.lasts, h.waits, h.wlen⟩
theorem DS.init {n : Int} {gs gl : Nat} (h : n ≤ 1048576) : DS (dinit n gs gl) (RD.new n) 0 :=
  ⟨⟨rfl, rfl, FSim.nil, rfl⟩, DOk.init h, Int.le_refl _, FSim.nil, rfl, fun c hc => by cases hc⟩
theorem lessP_low {p : Int} (h : -1 ≤ p) : -1 ≤ lessP p := by
  unfold lessP
  split <;> omega
theorem DS.did {st : DSt} {d : RD} {k : Nat} (h : DS st d k) {c : Chg} (hc : c.wl) {st1 : DSt} (hs : st1.room = st.room ∧ st1.lasts = st.lasts ∧ st1.power = st.spent.power ∧ st1.seen = apl st.seen c ∧ st1.waits = st.waits ++ [c]) (ok : DOk st1 (k + 1)) :
    DS st1 (d.did c.rc.1 c.rc.2.1 c.rc.2.2.1 c.rc.2.2.2) (k + 1) := by
  obtain ⟨h1, h2, h3, h4, h5⟩ := hs
  refine ⟨⟨h1.trans h.sim.room, ?_, ?_, ?_⟩, ok, lessP_low h.low, ?_, ?_, fun x hx => ?_⟩
  · rw [h3]
    show (if 0 < st.power then st.power - 1 else st.power) = lessP d.pw
    rw [h.sim.power]; rfl
  · rw [h4]; exact h.sim.files.apl hc
  · rw [h5, List.length_append, h.sim.waits]
    show _ = (d.waits ++ [_]).length
    rw [List.length_append]; rfl
  · rw [h2]; exact h.lasts
  · rw [h5, List.map_append, h.waits]; rfl
  · rw [h5] at hx
    rcases List.mem_append.1 hx with hx | hx
    · exact h.wlen x hx
    · rw [List.mem_singleton.1 hx]; exact hc
/-- behind a Write, of both -/
theorem DS.write {st st1 : DSt} {d : RD} {k n : Nat} (h : DS st d k) {p l : List UInt8} {B A : Option Addr} {c1 c2 : Nat} (hl : l.length = n) (hn : n ≤ 1048576)
    (hw : (writeE st p n ≠ 0 ∧ st1 = st) ∨ (writeE st p n = 0 ∧ st1 = st.wrote p ⟨B, n, c1, l⟩ A c2)) : DS st1 (d.write p l) (k + 1) ∧ d.writeE p l = writeE st p n := by
  subst hl
  have e := h.sim.writeE p l
  refine ⟨?_, e.symm⟩
  unfold RD.write
  rw [← e]
  rcases hw with ⟨h1, rfl⟩ | ⟨h1, rfl⟩
  · rw [if_neg h1]; exact h.le (Nat.le_succ _)
  · rw [if_pos h1]
    exact h.did (c := .written p ⟨B, l.length, c1, l⟩) (fun r hr => by cases hr; rfl) ⟨rfl, rfl, rfl, rfl, rfl⟩ (h.ok.wrote hn A c2)
theorem DS.readE {st : DSt} {d : RD} {k : Nat} (h : DS st d k) (p : List UInt8) : d.readE p = foundE st p := (h.sim.readE p).symm
theorem DS.readB {st : DSt} {d : RD} {k : Nat} (h : DS st d k) (p : List UInt8) : d.readB p = readB st p := (h.sim.readB p).symm
theorem DS.rename {st st1 : DSt} {d : RD} {k : Nat} (h : DS st d k) {a c : List UInt8} {A : Option Addr} {j : Nat}
    (hw : (renameE st a c ≠ 0 ∧ st1 = st) ∨ (renameE st a c = 0 ∧ st1 = st.did (.renamed a c) A j)) : DS st1 (d.rename a c) (k + 1) ∧ d.renameE a c = renameE st a c := by
  have e : d.renameE a c = renameE st a c := by
    unfold RD.renameE Go.Proofs.YtfikjheicjamhaaDoor.renameE
    rw [h.readE]
  refine ⟨?_, e⟩
  unfold RD.rename
  rw [e]
  rcases hw with ⟨h1, rfl⟩ | ⟨h1, rfl⟩
  · rw [if_neg h1]; exact h.le (Nat.le_succ _)
  · rw [if_pos h1]
    exact h.did (c := .renamed a c) (fun r hr => by cases hr) ⟨rfl, rfl, rfl, rfl, rfl⟩ (h.ok.did rfl A j)
theorem DS.sync {st st1 : DSt} {d : RD} {k gl : Nat} (h : DS st d k) (hw : (st.power = 0 ∧ st1 = st) ∨ (st.power ≠ 0 ∧ st1 = st.synced gl)) : DS st1 d.sync k ∧ d.syncE = syncE st := by
  have e : d.syncE = syncE st := by unfold RD.syncE Go.Proofs.YtfikjheicjamhaaDoor.syncE; rw [h.sim.power]
  refine ⟨?_, e⟩
  unfold RD.sync
  rw [← h.sim.power]
  rcases hw with ⟨h1, rfl⟩ | ⟨h1, rfl⟩
  · rw [if_pos h1]; exact h
  · rw [if_neg h1]
    refine ⟨⟨h.sim.room, ?_, h.sim.files, rfl⟩, h.ok.synced gl, ?_, h.sim.files, rfl, fun c hc => by cases hc⟩
    · rfl
    · rw [h.sim.power]; exact lessP_low h.low
theorem DS.power {st : DSt} {d : RD} {k : Nat} (h : DS st d k) {n : Int} (hn : n ≤ 1000000000000) : DS (st.powered n) (d.power n) k := by
  refine ⟨⟨h.sim.room, rfl, h.sim.files, h.sim.waits⟩, ⟨?_, h.ok.room, h.ok.seen, h.ok.rest, h.ok.small⟩, ?_, h.lasts, h.waits, h.wlen⟩
  · show max n (-1) ≤ _; omega
  · show -1 ≤ max n (-1); omega
/-- a disk of the document that some disk of the program could be -/
def RD.ok (d : RD) (k : Nat) : Prop := ∃ st, DS st d k
theorem RD.ok.le {d : RD} {k k' : Nat} (h : d.ok k) (hk : k ≤ k') : d.ok k' := by obtain ⟨st, h⟩ := h; exact ⟨st, h.le hk⟩
theorem RD.ok.new {n : Int} (h : n ≤ 1048576) : (RD.new n).ok 0 := ⟨dinit n 0 0, DS.init h⟩
theorem RD.ok.write {d : RD} {k : Nat} (h : d.ok k) {p l : List UInt8} (hl : l.length ≤ 1048576) : (d.write p l).ok (k + 1) := by
  obtain ⟨st, h⟩ := h
  by_cases he : Go.Proofs.YtfikjheicjamhaaDoor.writeE st p l.length = 0
  · exact ⟨_, (h.write (st1 := st.wrote p ⟨none, l.length, 0, l⟩ none 0) rfl hl (.inr ⟨he, rfl⟩)).1⟩
  · exact ⟨_, (h.write (B := none) (A := none) (c1 := 0) (c2 := 0) (st1 := st) rfl hl (.inl ⟨he, rfl⟩)).1⟩
theorem RD.ok.rename {d : RD} {k : Nat} (h : d.ok k) {a c : List UInt8} : (d.rename a c).ok (k + 1) := by
  obtain ⟨st, h⟩ := h
  by_cases he : Go.Proofs.YtfikjheicjamhaaDoor.renameE st a c = 0
  · exact ⟨_, (h.rename (st1 := st.did (.renamed a c) none 0) (.inr ⟨he, rfl⟩)).1⟩
  · exact ⟨_, (h.rename (A := none) (j := 0) (st1 := st) (.inl ⟨he, rfl⟩)).1⟩
theorem RD.ok.sync {d : RD} {k : Nat} (h : d.ok k) : d.sync.ok k := by
  obtain ⟨st, h⟩ := h
  by_cases he : st.power = 0
  · exact ⟨_, (h.sync (gl := 0) (st1 := st) (.inl ⟨he, rfl⟩)).1⟩
  · exact ⟨_, (h.sync (st1 := st.synced 0) (.inr ⟨he, rfl⟩)).1⟩
theorem RD.ok.power {d : RD} {k : Nat} (h : d.ok k) {n : Int} (hn : n ≤ 1000000000000) : (d.power n).ok k := by
  obtain ⟨st, h⟩ := h
  exact ⟨_, h.power hn⟩
end Go.Proofs.YtfikjheicjamhaaDoor
end
section
/- A journal's bytes, read: plain lists. No program. -/
set_option linter.unusedVariables false
set_option linter.unusedSimpArgs false
namespace Go.Hx
open Go.Eng
def chunks (k : Nat) (l : List UInt8) : List (List UInt8) := (List.range k).map fun i => (l.drop (32 * i)).take 32
/-- the number of four bytes, the lowest one first -/
def num4 (l : List UInt8) : Nat := (l.getD 0 0).toNat + 256 * (l.getD 1 0).toNat + 65536 * (l.getD 2 0).toNat + 16777216 * (l.getD 3 0).toNat
theorem num4_lt (l : List UInt8) : num4 l < 4294967296 := by
  have h0 := (l.getD 0 0).toNat_lt
  have h1 := (l.getD 1 0).toNat_lt
  have h2 := (l.getD 2 0).toNat_lt
  have h3 := (l.getD 3 0).toNat_lt
  unfold num4
  omega
theorem num4_le4 {n : Nat} (h : n < 4294967296) : num4 (le4 n) = n := by
  simp only [le4, num4, List.getD_cons_zero, List.getD_cons_succ, UInt8.toNat_ofNat']
  omega
end Go.Hx
end
section
/- The number of four bytes, read from the highest one down. No program. -/
set_option linter.unusedVariables false
namespace Go.Hx
open Go.Eng
/-- what is read of j bytes, the highest one first -/
def acc (l : List UInt8) : Nat → Nat
  | 0 => 0
  | j + 1 => acc l j * 256 + (l.getD (3 - j) 0).toNat
theorem acc_lt (l : List UInt8) : ∀ j, acc l j < 256 ^ j
  | 0 => by simp [acc]
  | j + 1 => by
    have h1 := acc_lt l j
    have h2 := (l.getD (3 - j) 0).toNat_lt
    rw [acc, Nat.pow_succ]
    omega
theorem acc_le (l : List UInt8) {j : Nat} (h : j ≤ 4) : acc l j < 4294967296 := by
  have h1 := acc_lt l j
  have h2 : 256 ^ j ≤ 256 ^ 4 := Nat.pow_le_pow_right (by decide) h
  have h3 : 256 ^ 4 = 4294967296 := by decide
  omega
theorem acc4 (l : List UInt8) : acc l 4 = num4 l := by
  have e : (3 - 0 = 3) ∧ (3 - 1 = 2) ∧ (3 - 2 = 1) ∧ (3 - 3 = 0) := by decide
  simp only [acc, num4, e.1, e.2.1, e.2.2.1, e.2.2.2]
  omega
theorem or_byte (a b : Nat) (ha : a < 4294967296) (hb : b < 256) : bits .or .i64 (a * 256 : Int) (b : Int) = ((a * 256 + b : Nat) : Int) := by
  have h1 : (a * 256 : Int) = ((a * 256 : Nat) : Int) := by simp
  have h2 : a * 256 ||| b = a * 256 + b := by rw [Nat.mul_comm a 256, show 256 = 2 ^ 8 from rfl, Nat.two_pow_add_eq_or_of_lt (by simpa using hb)]
  have e0 : ∀ n : Nat, n < 18446744073709551616 → (BitVec.ofInt 64 (n : Int)).toNat = n := fun n hn => by
    rw [BitVec.toNat_ofInt]
    simp
    omega
  rw [h1]
  show IntKind.i64.wrap ((BitVec.ofInt 64 ((a * 256 : Nat) : Int) ||| BitVec.ofInt 64 (b : Int)).toNat : Int) = _
  rw [BitVec.toNat_or, e0 _ (by omega), e0 _ (by omega), h2]
  exact w64 (by omega) (by omega)
end Go.Hx
end
section
/- Bytes in fewer (layer 5), over plain lists: tokens, what they make. No program. -/
set_option linter.unusedVariables false
set_option linter.unusedSimpArgs false
namespace Go.Hx
open Go.Eng
/-- the first token: how many bytes it has, how many it makes, its distance (0: literal ones); false: it ends too soon -/
def tokL (l : List UInt8) : Nat × Nat × Nat × Bool :=
  if (l.getD 0 0).toNat < 128 then ((l.getD 0 0).toNat + 2, (l.getD 0 0).toNat + 1, 0, decide ((l.getD 0 0).toNat + 2 ≤ l.length))
  else if l.length < 3 then (0, 0, 0, false) else (3, (l.getD 0 0).toNat - 124, 1 + (l.getD 1 0).toNat + 256 * (l.getD 2 0).toNat, true)
/-- bytes once more -/
def again (d : Nat) : Nat → List UInt8 → List UInt8
  | 0, o => o
  | k + 1, o => again d k (o ++ [o.getD (o.length - d) 0])
theorem again_length (d : Nat) : ∀ (k : Nat) (o : List UInt8), (again d k o).length = o.length + k
  | 0, o => rfl
  | k + 1, o => by rw [again, again_length d k]; simp; omega
theorem tokL_size {l : List UInt8} (h : (tokL l).2.2.2 = true) : 2 ≤ (tokL l).1 ∧ (tokL l).1 ≤ l.length := by
  unfold tokL at h ⊢
  split at h
  · rename_i h1
    rw [if_pos h1]
    have := of_decide_eq_true h
    exact ⟨by show 2 ≤ _ + 2; omega, this⟩
  · rename_i h1
    rw [if_neg h1]
    split at h
    · cases h
    · rename_i h2
      rw [if_neg h2]
      exact ⟨by show 2 ≤ 3; decide, by show 3 ≤ _; omega⟩
theorem tokL_n (l : List UInt8) : (tokL l).2.1 ≤ 131 ∧ (tokL l).2.2.1 ≤ 65536 := by
  have h0 := (l.getD 0 0).toNat_lt
  have h1 := (l.getD 1 0).toNat_lt
  have h2 := (l.getD 2 0).toNat_lt
  unfold tokL
  split
  · exact ⟨by show _ + 1 ≤ _; omega, by show 0 ≤ _; omega⟩
  · split
    · exact ⟨by show 0 ≤ _; omega, by show 0 ≤ _; omega⟩
    · exact ⟨by show _ - 124 ≤ _; omega, by show 1 + _ + 256 * _ ≤ _; omega⟩
/-- what a token makes -/
def made (l o : List UInt8) : List UInt8 := if (tokL l).2.2.1 = 0 then o ++ (l.drop 1).take ((tokL l).1 - 1) else again (tokL l).2.2.1 (tokL l).2.1 o
/-- bytes as they were, or why not -/
def unp (most : Int) (l o : List UInt8) : List UInt8 × Int :=
  if h0 : l = [] then (o, 0)
  else if h1 : (tokL l).2.2.2 = true then
    if o.length < (tokL l).2.2.1 then ([], 2) else if most < (o.length : Int) + ((tokL l).2.1 : Nat) then ([], 3) else unp most (l.drop (tokL l).1) (made l o)
  else ([], 2)
termination_by l.length
decreasing_by
  obtain ⟨h2, h3⟩ := tokL_size h1
  rw [List.length_drop]
  omega
theorem unp_nil (most : Int) (o : List UInt8) : unp most [] o = (o, 0) := by
  rw [unp]
  rfl
theorem unp_bad {most : Int} {l o : List UInt8} (h0 : l ≠ []) (h : ¬ ((tokL l).2.2.2 = true ∧ (tokL l).2.2.1 ≤ o.length)) : unp most l o = ([], 2) := by
  rw [unp, dif_neg h0]
  split
  · rename_i h1
    rw [if_pos (Nat.lt_of_not_le fun h2 => h ⟨h1, h2⟩)]
  · rfl
theorem unp_far {most : Int} {l o : List UInt8} (h0 : l ≠ []) (h1 : (tokL l).2.2.2 = true) (h2 : (tokL l).2.2.1 ≤ o.length) (h3 : most < (o.length : Int) + ((tokL l).2.1 : Nat)) : unp most l o = ([], 3) := by
  rw [unp, dif_neg h0, dif_pos h1, if_neg (by omega), if_pos h3]
theorem unp_go {most : Int} {l o : List UInt8} (h0 : l ≠ []) (h1 : (tokL l).2.2.2 = true) (h2 : (tokL l).2.2.1 ≤ o.length) (h3 : ¬ most < (o.length : Int) + ((tokL l).2.1 : Nat)) : unp most l o = unp most (l.drop (tokL l).1) (made l o) := by
  rw [unp, dif_neg h0, dif_pos h1, if_neg (by omega), if_neg h3]
theorem made_length {l o : List UInt8} (h1 : (tokL l).2.2.2 = true) : (made l o).length = o.length + (tokL l).2.1 := by
  unfold made
  split
  · rename_i h0
    obtain ⟨h2, h3⟩ := tokL_size h1
    have e : (tokL l).1 - 1 = (tokL l).2.1 := by
      unfold tokL at h0 h1 ⊢
      split
      · show _ + 2 - 1 = _ + 1; omega
      · split
        · rename_i a1 a2; rw [if_neg a1, if_pos a2] at h1; cases h1
        · rename_i a1 a2; rw [if_neg a1, if_neg a2] at h0; simp at h0
    rw [List.length_append, List.length_take, List.length_drop, e]
    omega
  · exact again_length _ _ _
end Go.Hx
end
section
/- Bytes in fewer (layer 5), over plain lists: matches, packing, and back. No program. -/
set_option linter.unusedVariables false
set_option linter.unusedSimpArgs false
namespace Go.Hx
open Go.Eng
/-- how many bytes from i on are those from k on, 131 at most -/
def lngF (b : List UInt8) (i k : Nat) : Nat → Nat → Nat
  | 0, n => n
  | f + 1, n => if i + n < b.length ∧ b.getD (i + n) 0 = b.getD (k + n) 0 then lngF b i k f (n + 1) else n
def lng (b : List UInt8) (i k : Nat) : Nat := lngF b i k 131 0
theorem lngF_bounds (b : List UInt8) (i k : Nat) : ∀ f n, n ≤ lngF b i k f n ∧ lngF b i k f n ≤ n + f ∧ (i + n ≤ b.length → i + lngF b i k f n ≤ b.length) ∧ ∀ j, n ≤ j → j < lngF b i k f n → b.getD (i + j) 0 = b.getD (k + j) 0
  | 0, n => ⟨Nat.le_refl _, Nat.le_refl _, fun h => h, fun j h1 h2 => by simp only [lngF] at h2; omega⟩
  | f + 1, n => by
    unfold lngF
    split
    · rename_i h
      obtain ⟨h1, h2, h3, h4⟩ := lngF_bounds b i k f (n + 1)
      refine ⟨by omega, by omega, fun _ => h3 (by omega), fun j hj hj2 => ?_⟩
      rcases Nat.eq_or_lt_of_le hj with e | e
      · rw [← e]; exact h.2
      · exact h4 j e hj2
    · exact ⟨Nat.le_refl _, by omega, fun h => h, fun j h1 h2 => by omega⟩
theorem lng_le (b : List UInt8) (i k : Nat) : lng b i k ≤ 131 := by have := (lngF_bounds b i k 131 0).2.1; unfold lng; omega
theorem lng_in {b : List UInt8} {i : Nat} (k : Nat) (h : i ≤ b.length) : i + lng b i k ≤ b.length := (lngF_bounds b i k 131 0).2.2.1 (by omega)
theorem lng_eq {b : List UInt8} {i k j : Nat} (h : j < lng b i k) : b.getD (i + j) 0 = b.getD (k + j) 0 := (lngF_bounds b i k 131 0).2.2.2 j (Nat.zero_le _) h
theorem lngF_stop {b : List UInt8} {i k f n : Nat} (h : ¬ (i + n < b.length ∧ b.getD (i + n) 0 = b.getD (k + n) 0)) : lngF b i k f n = n := by
  cases f with
  | zero => rfl
  | succ f => rw [lngF, if_neg h]
theorem lngF_more {b : List UInt8} {i k f n : Nat} (hf : 0 < f) (h : i + n < b.length ∧ b.getD (i + n) 0 = b.getD (k + n) 0) : lngF b i k f n = lngF b i k (f - 1) (n + 1) := by
  cases f with
  | zero => omega
  | succ f => rw [lngF, if_pos h]; rfl
/-- four bytes -/
def key4 (b : List UInt8) (p : Nat) : List UInt8 := (b.drop p).take 4
theorem key4_length {b : List UInt8} {p : Nat} (h : p + 4 ≤ b.length) : (key4 b p).length = 4 := by unfold key4; rw [List.length_take, List.length_drop]; omega
theorem key4_eq {b : List UInt8} {i p : Nat} (hi : i + 4 ≤ b.length) (hp : p < i) : key4 b p = key4 b i ↔ 3 < lng b i p := by
  have e : ∀ q, q + 4 ≤ b.length → key4 b q = [b.getD (q + 0) 0, b.getD (q + 1) 0, b.getD (q + 2) 0, b.getD (q + 3) 0] := by
    intro q hq
    apply List.ext_getElem?
    intro j
    unfold key4
    rw [List.getElem?_take, List.getElem?_drop]
    rcases j with _ | _ | _ | _ | j
    all_goals simp
    all_goals (try (rw [List.getElem?_eq_getElem (by omega)]; rfl))
    all_goals (try (intro h; omega))
  rw [e p (by omega), e i hi]
  constructor
  · intro h
    simp only [List.cons.injEq, and_true] at h
    have e0 : lng b i p = lngF b i p 127 4 := by
      unfold lng
      rw [lngF_more (by decide) ⟨by omega, h.1.symm⟩, lngF_more (by decide) ⟨by omega, h.2.1.symm⟩, lngF_more (by decide) ⟨by omega, h.2.2.1.symm⟩, lngF_more (by decide) ⟨by omega, h.2.2.2.symm⟩]
    rw [e0]
    exact (lngF_bounds b i p 127 4).1
  · intro h
    simp only [List.cons.injEq, and_true]
    exact ⟨(lng_eq (by omega)).symm, (lng_eq (by omega)).symm, (lng_eq (by omega)).symm, (lng_eq (by omega)).symm⟩
/-- one distance more -/
def mstep (b : List UInt8) (i : Nat) (s : Nat × Nat) (d : Nat) : Nat × Nat := if 3 < lng b i (i - d) ∧ s.1 < lng b i (i - d) then (lng b i (i - d), d) else s
def matchK (b : List UInt8) (i k : Nat) : Nat × Nat := (List.range' 1 k).foldl (mstep b i) (0, 0)
theorem matchK_succ (b : List UInt8) (i k : Nat) : matchK b i (k + 1) = mstep b i (matchK b i k) (k + 1) := by
  unfold matchK
  rw [List.range'_concat, List.foldl_append]
  simp [Nat.add_comm]
/-- the match at a place: its length, its distance -/
def matchL (b : List UInt8) (i : Nat) : Nat × Nat := matchK b i (min i 1024)
/-- one place more, from behind -/
def pstep (b : List UInt8) (i : Nat) (s : Nat × Nat) (p : Nat) : Nat × Nat := if 1024 < i - p then s else if s.1 < lng b i p then (lng b i p, i - p) else s
/-- the places ahead that have these four bytes -/
def posL (b : List UInt8) (n : Nat) (k : List UInt8) : List Nat := (List.range n).filter fun p => decide (key4 b p = k)
theorem posL_succ (b : List UInt8) (n : Nat) (k : List UInt8) : posL b (n + 1) k = posL b n k ++ if key4 b n = k then [n] else [] := by
  unfold posL
  rw [List.range_succ, List.filter_append]
  congr 1
  by_cases h : key4 b n = k <;> simp [h]
theorem posL_lt {b : List UInt8} {n p : Nat} {k : List UInt8} (h : p ∈ posL b n k) : p < n ∧ key4 b p = k := by
  unfold posL at h
  simpa using h
theorem posL_length (b : List UInt8) (n : Nat) (k : List UInt8) : (posL b n k).length ≤ n := by
  unfold posL
  exact Nat.le_trans (List.length_filter_le _ _) (by simp)
theorem rev_range (i : Nat) : (List.range i).reverse = (List.range' 1 i).map fun d => i - d := by
  apply List.ext_getElem
  · simp
  · intro j h1 h2
    simp
    omega
theorem foldl_skip {α β : Type} (f : β → α → β) (s : β) : ∀ (l : List α), (∀ x ∈ l, ∀ t, f t x = t) → l.foldl f s = s
  | [], _ => rfl
  | x :: l, h => by
    rw [List.foldl_cons, h x (by simp) s]
    exact foldl_skip f s l (fun y hy => h y (List.mem_cons_of_mem _ hy))
theorem match_eq {b : List UInt8} {i : Nat} (hi : i + 4 ≤ b.length) : (posL b i (key4 b i)).reverse.foldl (pstep b i) (0, 0) = matchL b i := by
  unfold posL matchL
  rw [← List.filter_reverse, rev_range, List.filter_map, List.foldl_map, List.foldl_filter]
  have h1 : ∀ (l : List Nat) (s : Nat × Nat), (∀ d ∈ l, 1 ≤ d ∧ d ≤ i) → l.foldl (fun s d => if ((fun p => decide (key4 b p = key4 b i)) ∘ fun d => i - d) d = true then pstep b i s (i - d) else s) s = l.foldl (fun s d => if 1024 < d then s else mstep b i s d) s := by
    intro l
    induction l with
    | nil => intro s _; rfl
    | cons d l ih =>
      intro s hd
      simp only [List.foldl_cons]
      rw [ih _ (fun x hx => hd x (List.mem_cons_of_mem _ hx))]
      congr 1
      obtain ⟨hd1, hd2⟩ := hd d (by simp)
      have e := key4_eq (p := i - d) hi (by omega)
      simp only [Function.comp_apply, decide_eq_true_eq]
      unfold pstep mstep
      rw [show i - (i - d) = d by omega]
      by_cases hk : key4 b (i - d) = key4 b i
      · rw [if_pos hk]
        have := e.1 hk
        split
        · rfl
        · by_cases h : s.1 < lng b i (i - d)
          · rw [if_pos h, if_pos ⟨this, h⟩]
          · rw [if_neg h, if_neg (fun q => h q.2)]
      · rw [if_neg hk]
        split
        · rfl
        · rw [if_neg (fun q => hk (e.2 q.1))]
  rw [h1 _ _ (fun d hd => by simp at hd; omega)]
  have h2 : List.range' 1 i = List.range' 1 (min i 1024) ++ List.range' (1 + min i 1024) (i - min i 1024) := by
    rw [List.range'_append_1]
    congr 1
    omega
  rw [h2, List.foldl_append, foldl_skip _ _ (List.range' (1 + min i 1024) (i - min i 1024))]
  · unfold matchK
    have h3 : ∀ (l : List Nat) (s : Nat × Nat), (∀ d ∈ l, d ≤ 1024) → l.foldl (fun s d => if 1024 < d then s else mstep b i s d) s = l.foldl (mstep b i) s := by
      intro l
      induction l with
      | nil => intro s _; rfl
      | cons d l ih =>
        intro s hd
        simp only [List.foldl_cons]
        rw [if_neg (by have := hd d (by simp); omega)]
        exact ih _ (fun x hx => hd x (List.mem_cons_of_mem _ hx))
    exact h3 _ _ (fun d hd => by simp at hd; omega)
  · intro d hd t
    simp at hd
    rw [if_pos (by omega)]
theorem posL_sorted (b : List UInt8) (n : Nat) (k : List UInt8) : (posL b n k).Pairwise (· < ·) := (List.pairwise_lt_range).filter _
theorem match_brk {b : List UInt8} {i n x : Nat} {k : List UInt8} {pre rest : List Nat} {s : Nat × Nat} (h : (posL b n k).reverse = pre ++ x :: rest) (hx : 1024 < i - x) : (posL b n k).reverse.foldl (pstep b i) s = pre.foldl (pstep b i) s := by
  have hs : (pre ++ x :: rest).Pairwise (· > ·) := by
    rw [← h, List.pairwise_reverse]
    exact posL_sorted b n k
  rw [h, List.foldl_append]
  refine foldl_skip _ _ _ fun y hy t => ?_
  have h1 := (List.pairwise_cons.1 (List.pairwise_append.1 hs).2.1).1
  unfold pstep
  rw [if_pos]
  rcases List.mem_cons.1 hy with rfl | hy
  · exact hx
  · have := h1 y hy
    omega
theorem match_short {b : List UInt8} {i : Nat} (hi : i ≤ b.length) (h : b.length < i + 4) : matchL b i = (0, 0) := by
  unfold matchL matchK
  refine foldl_skip _ _ _ fun d hd t => ?_
  unfold mstep
  rw [if_neg]
  intro q
  have := lng_in (i - d) hi
  omega
/-- what a match tells -/
theorem matchK_ok (b : List UInt8) (i : Nat) (hi : i ≤ b.length) : ∀ k, k ≤ i → (matchK b i k = (0, 0)) ∨ (4 ≤ (matchK b i k).1 ∧ (matchK b i k).1 ≤ 131 ∧ 1 ≤ (matchK b i k).2 ∧ (matchK b i k).2 ≤ k ∧ i + (matchK b i k).1 ≤ b.length ∧ (matchK b i k).1 = lng b i (i - (matchK b i k).2))
  | 0, _ => .inl rfl
  | k + 1, hk => by
    rw [matchK_succ]
    unfold mstep
    split
    · rename_i h
      exact .inr ⟨by show 4 ≤ lng _ _ _; omega, lng_le _ _ _, by show 1 ≤ k + 1; omega, Nat.le_refl _, lng_in _ hi, rfl⟩
    · rcases matchK_ok b i hi k (by omega) with h | h
      · exact .inl h
      · exact .inr ⟨h.1, h.2.1, h.2.2.1, by omega, h.2.2.2.2.1, h.2.2.2.2.2⟩
theorem matchL_ok {b : List UInt8} {i : Nat} (hi : i ≤ b.length) : (matchL b i = (0, 0)) ∨ (4 ≤ (matchL b i).1 ∧ (matchL b i).1 ≤ 131 ∧ 1 ≤ (matchL b i).2 ∧ (matchL b i).2 ≤ min i 1024 ∧ i + (matchL b i).1 ≤ b.length ∧ (matchL b i).1 = lng b i (i - (matchL b i).2)) := matchK_ok b i hi _ (by omega)
/-- literal bytes as tokens -/
def litL (l : List UInt8) : List UInt8 := if h : l = [] then [] else UInt8.ofNat (min l.length 128 - 1) :: l.take 128 ++ litL (l.drop 128)
termination_by l.length
decreasing_by
  have := List.length_pos_iff.2 h
  rw [List.length_drop]
  omega
theorem litL_nil : litL [] = [] := by rw [litL]; rfl
theorem litL_cons {l : List UInt8} (h : l ≠ []) : litL l = UInt8.ofNat (min l.length 128 - 1) :: l.take 128 ++ litL (l.drop 128) := by rw [litL, dif_neg h]
theorem litL_length (l : List UInt8) : (litL l).length ≤ 2 * l.length := by
  by_cases h : l = []
  · subst h; rw [litL_nil]; simp
  · have hp := List.length_pos_iff.2 h
    have hd : (l.drop 128).length = l.length - 128 := List.length_drop
    have := litL_length (l.drop 128)
    rw [litL_cons h]
    simp only [List.length_append, List.length_cons, List.length_take]
    omega
termination_by l.length
decreasing_by
  rw [List.length_drop]
  have := List.length_pos_iff.2 h
  omega
/-- a match as a token -/
def tokM (m : Nat × Nat) : List UInt8 := [UInt8.ofNat (124 + m.1), UInt8.ofNat (m.2 - 1), UInt8.ofNat ((m.2 - 1) / 256)]
def packF (b : List UInt8) (i : Nat) (own out : List UInt8) : List UInt8 :=
  if h : i < b.length then
    if h0 : (matchL b i).1 = 0 then packF b (i + 1) (own ++ [b.getD i 0]) out
    else packF b (i + (matchL b i).1) [] (out ++ litL own ++ tokM (matchL b i))
  else out ++ litL own
termination_by b.length - i
def packL (b : List UInt8) : List UInt8 := packF b 0 [] []
theorem packF_end {b own out : List UInt8} {i : Nat} (h : ¬ i < b.length) : packF b i own out = out ++ litL own := by rw [packF, dif_neg h]
theorem packF_own {b own out : List UInt8} {i : Nat} (h : i < b.length) (h0 : (matchL b i).1 = 0) : packF b i own out = packF b (i + 1) (own ++ [b.getD i 0]) out := by rw [packF, dif_pos h, dif_pos h0]
theorem packF_match {b own out : List UInt8} {i : Nat} (h : i < b.length) (h0 : (matchL b i).1 ≠ 0) : packF b i own out = packF b (i + (matchL b i).1) [] (out ++ litL own ++ tokM (matchL b i)) := by rw [packF, dif_pos h, dif_neg h0]
theorem packF_length : ∀ (b : List UInt8) (i : Nat) (own out : List UInt8), i ≤ b.length → out.length + 2 * own.length ≤ 2 * i → (packF b i own out).length ≤ 2 * b.length
  | b, i, own, out, hi, h => by
    by_cases hlt : i < b.length
    · by_cases h0 : (matchL b i).1 = 0
      · rw [packF_own hlt h0]
        exact packF_length b (i + 1) _ _ (by omega) (by simp; omega)
      · rw [packF_match hlt h0]
        rcases matchL_ok hi with hm | hm
        · rw [hm] at h0; exact absurd rfl h0
        · have := litL_length own
          exact packF_length b _ _ _ (by omega) (by simp [tokM]; omega)
    · rw [packF_end hlt, List.length_append]
      have := litL_length own
      omega
termination_by b i => b.length - i
theorem packL_length (b : List UInt8) : (packL b).length ≤ 2 * b.length := packF_length b 0 [] [] (Nat.zero_le _) (by simp)
/-! ### back -/
theorem tok_lit {k : Nat} {l r : List UInt8} (hk : k < 128) (hl : l.length = k + 1) : tokL (UInt8.ofNat k :: (l ++ r)) = (k + 2, k + 1, 0, true) := by
  have e : (UInt8.ofNat k).toNat = k := by rw [UInt8.toNat_ofNat', Nat.mod_eq_of_lt (by omega)]
  unfold tokL
  rw [List.getD_cons_zero, e, if_pos hk]
  simp only [List.length_cons, List.length_append, hl]
  congr 3
  exact decide_eq_true (by omega)
theorem unp_lits {most : Int} (l r o : List UInt8) (hm : (o.length : Int) + l.length ≤ most) : unp most (litL l ++ r) o = unp most r (o ++ l) := by
  by_cases h : l = []
  · subst h; rw [litL_nil]; simp
  · have hp := List.length_pos_iff.2 h
    have hk : min l.length 128 - 1 < 128 := by omega
    have htl : (l.take 128).length = (min l.length 128 - 1) + 1 := by rw [List.length_take]; omega
    have hsp : l.take 128 ++ l.drop 128 = l := List.take_append_drop 128 l
    have hlen : l.length = (l.take 128).length + (l.drop 128).length := by rw [← List.length_append, hsp]
    rw [litL_cons h, List.append_assoc, List.cons_append]
    have ht := tok_lit (r := litL (l.drop 128) ++ r) hk htl
    rw [unp_go (by simp) (by rw [ht]) (by rw [ht]; exact Nat.zero_le _) (by rw [ht]; simp only; omega)]
    have hmd : made (UInt8.ofNat (min l.length 128 - 1) :: (l.take 128 ++ (litL (l.drop 128) ++ r))) o = o ++ l.take 128 := by
      unfold made
      rw [ht, if_pos rfl]
      simp only [List.drop_succ_cons, List.drop_zero]
      rw [List.take_append_of_le_length (by omega), List.take_of_length_le (by omega)]
    rw [hmd, ht]
    have hdr : (UInt8.ofNat (min l.length 128 - 1) :: (l.take 128 ++ (litL (l.drop 128) ++ r))).drop (min l.length 128 - 1 + 2) = litL (l.drop 128) ++ r := by
      rw [show min l.length 128 - 1 + 2 = (l.take 128).length + 1 by omega, List.drop_succ_cons, List.drop_left]
    simp only
    rw [hdr, unp_lits (l.drop 128) r (o ++ l.take 128) (by rw [List.length_append]; omega), List.append_assoc, hsp]
termination_by l.length
decreasing_by
  rw [List.length_drop]
  have := List.length_pos_iff.2 h
  omega
theorem again_match {b : List UInt8} {i d : Nat} (hd : 1 ≤ d) (hdi : d ≤ i) : ∀ (n k : Nat), i + k + n ≤ b.length → (∀ j, k ≤ j → j < k + n → b.getD (i + j) 0 = b.getD (i - d + j) 0) → again d n (b.take (i + k)) = b.take (i + k + n)
  | 0, k, _, _ => rfl
  | n + 1, k, hb, h => by
    have hl : (b.take (i + k)).length = i + k := by rw [List.length_take]; omega
    rw [again, hl]
    have e : (b.take (i + k)).getD (i + k - d) 0 = b.getD (i + k) 0 := by
      rw [h k (Nat.le_refl _) (by omega)]
      rw [List.getD_eq_getElem?_getD, List.getElem?_take, if_pos (by omega), ← List.getD_eq_getElem?_getD]
      congr 1
      omega
    rw [e]
    have e2 : b.take (i + k) ++ [b.getD (i + k) 0] = b.take (i + (k + 1)) := by
      rw [show i + (k + 1) = (i + k) + 1 by omega, take_snoc (by omega)]
    rw [e2, again_match hd hdi n (k + 1) (by omega) (fun j h1 h2 => h j (by omega) (by omega))]
    congr 1
    omega
theorem tok_match {m : Nat × Nat} {r : List UInt8} (h1 : 4 ≤ m.1) (h2 : m.1 ≤ 131) (h3 : 1 ≤ m.2) (h4 : m.2 ≤ 1024) : tokL (tokM m ++ r) = (3, m.1, m.2, true) := by
  have e0 : (UInt8.ofNat (124 + m.1)).toNat = 124 + m.1 := by rw [UInt8.toNat_ofNat', Nat.mod_eq_of_lt (by omega)]
  have e1 : (UInt8.ofNat (m.2 - 1)).toNat = (m.2 - 1) % 256 := UInt8.toNat_ofNat'
  have e2 : (UInt8.ofNat ((m.2 - 1) / 256)).toNat = (m.2 - 1) / 256 := by rw [UInt8.toNat_ofNat', Nat.mod_eq_of_lt (by omega)]
  unfold tokL tokM
  simp only [List.cons_append, List.nil_append, List.getD_cons_zero, List.getD_cons_succ, List.length_cons, e0, e1, e2]
  rw [if_neg (by omega), if_neg (by omega)]
  simp only [Prod.mk.injEq, true_and, and_true]
  omega
theorem unp_packF {most : Int} : ∀ (b : List UInt8) (i : Nat) (own out o : List UInt8), (b.length : Int) ≤ most → i ≤ b.length → o ++ own = b.take i → (∀ r, unp most (out ++ r) [] = unp most r o) → unp most (packF b i own out) [] = (b, 0)
  | b, i, own, out, o, hm, hi, hown, hout => by
    have hol : o.length + own.length = i := by
      have := congrArg List.length hown
      rw [List.length_append, List.length_take] at this
      omega
    by_cases hlt : i < b.length
    · by_cases h0 : (matchL b i).1 = 0
      · rw [packF_own hlt h0]
        refine unp_packF b (i + 1) _ _ o hm (by omega) ?_ hout
        rw [← List.append_assoc, hown, take_snoc hlt]
      · rw [packF_match hlt h0]
        rcases matchL_ok hi with hk | ⟨m1, m2, m3, m4, m5, m6⟩
        · rw [hk] at h0; exact absurd rfl h0
        · have hd1 : (matchL b i).2 ≤ i := by omega
          have hd2 : (matchL b i).2 ≤ 1024 := by omega
          refine unp_packF b _ _ _ (b.take (i + (matchL b i).1)) hm m5 (by simp) fun r => ?_
          rw [List.append_assoc, List.append_assoc, hout, unp_lits _ _ _ (by omega), hown]
          have ht := tok_match (r := r) m1 m2 m3 hd2
          have hl : (b.take i).length = i := by rw [List.length_take]; omega
          rw [unp_go (by simp [tokM]) (by rw [ht]) (by rw [ht, hl]; exact hd1) (by rw [ht, hl]; simp only; omega)]
          rw [ht]
          have hdr : (tokM (matchL b i) ++ r).drop 3 = r := rfl
          simp only
          rw [hdr]
          congr 1
          unfold made
          rw [ht, if_neg (by simp only; omega)]
          have := again_match (b := b) (i := i) m3 hd1 (matchL b i).1 0 (by omega) (fun j _ hj => lng_eq (by omega))
          exact this
    · rw [packF_end hlt, hout]
      have := unp_lits (most := most) own [] o (by omega)
      rw [List.append_nil] at this
      rw [this, unp_nil, hown, List.take_of_length_le (by omega)]
termination_by b i => b.length - i
theorem unp_packL {b : List UInt8} {most : Int} (h : (b.length : Int) ≤ most) : unp most (packL b) [] = (b, 0) := unp_packF b 0 [] [] [] h (Nat.zero_le _) rfl (fun r => rfl)
/-! ### as the document says -/
end Go.Hx
end
section
/- Frames (layer 6), over plain lists. No program. -/
set_option linter.unusedVariables false
set_option linter.unusedSimpArgs false
namespace Go.Hx
open Go.Eng
/-- is it packed? -/
def pkd (b : List UInt8) : Bool := decide ((packL b).length < b.length)
def fbody (b : List UInt8) : List UInt8 := if pkd b then packL b else b
/-- bytes' frame -/
def sealL (b : List UInt8) : List UInt8 := [76, if pkd b then 1 else 0] ++ le4 b.length ++ fbody b ++ le4 (crcSum b)
theorem fbody_length (b : List UInt8) : (fbody b).length ≤ b.length := by
  unfold fbody pkd
  split
  · rename_i h; have := of_decide_eq_true h; omega
  · exact Nat.le_refl _
theorem sealL_length (b : List UInt8) : (sealL b).length = (fbody b).length + 10 := by simp [sealL, le4_length]; omega
theorem sealL_le (b : List UInt8) : 10 ≤ (sealL b).length ∧ (sealL b).length ≤ b.length + 10 := by
  have := fbody_length b
  rw [sealL_length]
  omega
/-- how many bytes a frame tells -/
def lenF (f : List UInt8) : Option Nat := if f.length < 10 ∨ f.getD 0 0 ≠ 76 ∨ 1 < (f.getD 1 0).toNat then none else some (num4 (f.drop 2))
def bodyF (f : List UInt8) : List UInt8 := (f.drop 6).take (f.length - 10)
/-- what is unpacked -/
def unF (f : List UInt8) (n : Nat) : List UInt8 × Int := if f.getD 1 0 = 1 then unp n (bodyF f) [] else (bodyF f, 0)
def openN (f : List UInt8) (n : Nat) : List UInt8 × Int :=
  if (unF f n).2 ≠ 0 then ([], 2) else if (unF f n).1.length ≠ n then ([], 2) else if le4 (crcSum (unF f n).1) ≠ f.drop (f.length - 4) then ([], 7) else ((unF f n).1, 0)
/-- a frame's bytes, or why not -/
def openL (f : List UInt8) (most : Int) : List UInt8 × Int :=
  match lenF f with
  | none => ([], 2)
  | some n => if most < n then ([], 3) else openN f n
theorem unp_length {most : Int} : ∀ (l o : List UInt8), (o.length : Int) ≤ most → (((unp most l o).1.length : Int) ≤ most ∨ (unp most l o).1 = []) ∧ ((unp most l o).2 = 0 ∨ (unp most l o).2 = 2 ∨ (unp most l o).2 = 3) ∧ ((unp most l o).2 ≠ 0 → (unp most l o).1 = [])
  | l, o, hm => by
    by_cases h0 : l = []
    · subst h0; rw [unp_nil]; exact ⟨.inl hm, .inl rfl, fun h => absurd rfl h⟩
    · by_cases h1 : (tokL l).2.2.2 = true ∧ (tokL l).2.2.1 ≤ o.length
      · by_cases h2 : most < (o.length : Int) + ((tokL l).2.1 : Nat)
        · rw [unp_far h0 h1.1 h1.2 h2]; exact ⟨.inr rfl, .inr (.inr rfl), fun _ => rfl⟩
        · rw [unp_go h0 h1.1 h1.2 h2]
          exact unp_length _ _ (by rw [made_length h1.1]; omega)
      · rw [unp_bad h0 h1]; exact ⟨.inr rfl, .inr (.inl rfl), fun _ => rfl⟩
termination_by l => l.length
decreasing_by
  obtain ⟨h2, h3⟩ := tokL_size h1.1
  rw [List.length_drop]
  omega
theorem openN_ok {f : List UInt8} {n : Nat} (h : (openN f n).2 = 0) : (openN f n).1.length = n := by
  unfold openN at h ⊢
  split at h
  · cases h
  · rename_i h1
    rw [if_neg h1]
    split at h
    · cases h
    · rename_i h2
      rw [if_neg h2]
      split at h
      · cases h
      · rename_i h3
        rw [if_neg h3]
        exact Decidable.not_not.1 h2
theorem openN_bad {f : List UInt8} {n : Nat} (h : (openN f n).2 ≠ 0) : (openN f n).1 = [] := by
  unfold openN at h ⊢
  split at h
  · rename_i h1; rw [if_pos h1]
  · rename_i h1
    rw [if_neg h1]
    split at h
    · rename_i h2; rw [if_pos h2]
    · rename_i h2
      rw [if_neg h2]
      split at h
      · rename_i h3; rw [if_pos h3]
      · exact absurd rfl h
theorem openL_bad {f : List UInt8} {most : Int} (h : (openL f most).2 ≠ 0) : (openL f most).1 = [] := by
  unfold openL at h ⊢
  split at h
  · rfl
  · rename_i n hn
    split at h
    · rename_i h1; rw [if_pos h1]
    · rename_i h1; rw [if_neg h1]; exact openN_bad h
theorem openL_ok {f : List UInt8} {most : Int} (h : (openL f most).2 = 0) : ((openL f most).1.length : Int) ≤ most := by
  unfold openL at h ⊢
  split at h
  · cases h
  · rename_i n hn
    split at h
    · cases h
    · rename_i h1; rw [if_neg h1, openN_ok h]; omega
theorem openL_len {f : List UInt8} {most : Int} (hm : 0 ≤ most) : ((openL f most).1.length : Int) ≤ most := by
  by_cases h : (openL f most).2 = 0
  · exact openL_ok h
  · rw [openL_bad h]; simpa using hm
theorem seal_parts (b : List UInt8) : (sealL b).getD 0 0 = 76 ∧ (sealL b).getD 1 0 = (if pkd b then 1 else 0) ∧ (sealL b).drop 2 = le4 b.length ++ (fbody b ++ le4 (crcSum b)) ∧ bodyF (sealL b) = fbody b ∧ (sealL b).drop ((sealL b).length - 4) = le4 (crcSum b) := by
  refine ⟨by simp [sealL], by simp [sealL], by simp [sealL], ?_, ?_⟩
  · unfold bodyF
    have h6 : (sealL b).drop 6 = fbody b ++ le4 (crcSum b) := by simp [sealL, le4]
    rw [h6, sealL_length, Nat.add_sub_cancel]
    exact List.take_left
  · rw [sealL_length]
    have : sealL b = ([76, if pkd b then 1 else 0] ++ le4 b.length ++ fbody b) ++ le4 (crcSum b) := rfl
    rw [this, List.drop_append_of_le_length (by simp [le4_length]; omega), List.drop_of_length_le (by simp [le4_length]; omega)]
    rfl
theorem lenF_seal {b : List UInt8} (h : b.length < 4294967296) : lenF (sealL b) = some b.length := by
  obtain ⟨h0, h1, h2, _, _⟩ := seal_parts b
  have hl := sealL_le b
  unfold lenF
  rw [if_neg, h2]
  · congr 1
    have : num4 (le4 b.length ++ (fbody b ++ le4 (crcSum b))) = num4 (le4 b.length) := by simp [num4, le4]
    rw [this, num4_le4 h]
  · rw [h0, h1]
    rintro (q | q | q)
    · omega
    · exact q rfl
    · cases hp : pkd b <;> rw [hp] at q <;> exact absurd q (by decide)
theorem unF_seal (b : List UInt8) : unF (sealL b) b.length = (b, 0) := by
  obtain ⟨_, h1, _, h3, _⟩ := seal_parts b
  unfold unF
  rw [h1, h3]
  cases hp : pkd b with
  | true =>
    rw [if_pos rfl]
    unfold fbody
    rw [hp, if_pos rfl]
    exact unp_packL (Int.le_refl _)
  | false =>
    rw [if_neg (by decide)]
    unfold fbody
    rw [hp]
    rfl
theorem open_seal {b : List UInt8} {most : Int} (h : b.length < 4294967296) (hm : (b.length : Int) ≤ most) : openL (sealL b) most = (b, 0) := by
  unfold openL
  rw [lenF_seal h]
  simp only
  rw [if_neg (by omega)]
  unfold openN
  rw [unF_seal, (seal_parts b).2.2.2.2, if_neg (by simp), if_neg (by simp), if_neg (by simp)]
end Go.Hx
end
section
/- Chunks by their names (layer 13), over plain disks. No program. -/
set_option linter.unusedVariables false
set_option linter.unusedSimpArgs false
namespace Go.Proofs.YtfikjheicjamhaaDoor
open Go.Eng Go.Hx
/-- where a chunk is -/
def placeL (nm : List UInt8) : List UInt8 := [99, 47] ++ (hexs nm).take 2 ++ [47] ++ hexs nm
/-- the place ahead -/
def aheadL (nm : List UInt8) : List UInt8 := [116, 47] ++ hexs nm
theorem placeL_length {nm : List UInt8} (h : nm.length = 32) : (placeL nm).length = 69 := by simp [placeL, hexs_length, h]
theorem aheadL_length {nm : List UInt8} (h : nm.length = 32) : (aheadL nm).length = 66 := by simp [aheadL, hexs_length, h]
theorem placeL_drop {nm : List UInt8} (h : nm.length = 32) : (placeL nm).drop 5 = hexs nm := by
  have h2 : ((hexs nm).take 2).length = 2 := by rw [List.length_take, hexs_length, h]; rfl
  unfold placeL
  rw [List.drop_append_of_le_length (by simp [h2]), List.drop_of_length_le (by simp [h2])]
  rfl
theorem placeL_inj {a b : List UInt8} (ha : a.length = 32) (hb : b.length = 32) (h : placeL a = placeL b) : a = b := by
  have := congrArg (List.drop 5) h
  rw [placeL_drop ha, placeL_drop hb] at this
  exact hexs_inj this
/-- a chunk: why it is not there -/
def RD.opn (d : RD) (nm : List UInt8) : List UInt8 × Int := openL (d.readB (placeL nm)) 4096
def RD.getE (d : RD) (nm : List UInt8) : Int := if d.readE (placeL nm) ≠ 0 then d.readE (placeL nm) else if (d.opn nm).2 ≠ 0 ∨ shaL (d.opn nm).1 ≠ nm then 7 else 0
def RD.getB (d : RD) (nm : List UInt8) : List UInt8 := if d.getE nm = 0 then (d.opn nm).1 else []
theorem getE_read {d : RD} {nm : List UInt8} (h : d.readE (placeL nm) ≠ 0) : d.getE nm = d.readE (placeL nm) := by unfold RD.getE; rw [if_pos h]
theorem getE_bad {d : RD} {nm : List UInt8} (h : d.readE (placeL nm) = 0) (h2 : (d.opn nm).2 ≠ 0 ∨ shaL (d.opn nm).1 ≠ nm) : d.getE nm = 7 := by unfold RD.getE; rw [if_neg (fun q => q h), if_pos h2]
theorem getE_ok {d : RD} {nm : List UInt8} (h : d.readE (placeL nm) = 0) (h2 : ¬ ((d.opn nm).2 ≠ 0 ∨ shaL (d.opn nm).1 ≠ nm)) : d.getE nm = 0 := by unfold RD.getE; rw [if_neg (fun q => q h), if_neg h2]
theorem getB_no {d : RD} {nm : List UInt8} (h : d.getE nm ≠ 0) : d.getB nm = [] := by unfold RD.getB; rw [if_neg h]
theorem getB_ok {d : RD} {nm : List UInt8} (h : d.getE nm = 0) : d.getB nm = (d.opn nm).1 := by unfold RD.getB; rw [if_pos h]
/-- steps, one behind the other, until there is an error -/
def runF : List (RD → RD × Int) → RD → RD × Int
  | [], d => (d, 0)
  | f :: r, d => if (f d).2 ≠ 0 then f d else runF r (f d).1
def wstepF (p b : List UInt8) (d : RD) : RD × Int := (d.write p b, d.writeE p b)
def sstepF (d : RD) : RD × Int := (d.sync, d.syncE)
def nstepF (a c : List UInt8) (d : RD) : RD × Int := (d.rename a c, d.renameE a c)
/-- a chunk is put -/
def zerosL : List UInt8 := List.replicate 32 0
def RD.putR (d : RD) (b : List UInt8) : RD × Int := runF [wstepF (aheadL (shaL b)) (sealL b), sstepF, nstepF (aheadL (shaL b)) (placeL (shaL b)), sstepF] d
def RD.put (d : RD) (b : List UInt8) : RD × List UInt8 × Int :=
  if 4096 < b.length then (d, zerosL, 3)
  else if d.getE (shaL b) = 6 then (d, zerosL, 6)
  else if d.getE (shaL b) = 0 then (d, shaL b, 0)
  else ((d.putR b).1, if (d.putR b).2 = 0 then shaL b else zerosL, (d.putR b).2)
end Go.Proofs.YtfikjheicjamhaaDoor
end
section
/- Contracts: chunks by their names (layer 13): places. -/
set_option linter.unusedVariables false
set_option linter.unusedSimpArgs false
set_option maxRecDepth 20000
set_option maxHeartbeats 2000000
namespace Go.Proofs.YtfikjheicjamhaaDoor
open Go.Eng Go.Hx
theorem str_sum {a b : List UInt8} (h : a.length + b.length ≤ 1000000) : (strOf a).size + (strOf b).size ≤ 9223372036854775807 := by rw [strOf_size, strOf_size]; omega
theorem placeC {nm : List UInt8} (hm : nm.length = 32) : Con Tryd.prog 34 [.agg (b8s nm).toArray] [] [] (fun v_ X_ S_ => v_ = (.string (strOf (placeL nm))) ∧ X_ = [] ∧ S_ = []) := by
  have hhl : (hexs nm).length = 64 := by rw [hexs_length, hm]
  have h2 : ((hexs nm).take 2).length = 2 := by rw [List.length_take, hhl]; rfl
  refine henter (N := 12) Tryd.func34 rfl rfl (by simp) fun b => ?_
  refine hseq <| hreg <| ?_
  refine hx (xh_box rfl (fun g1 => ?_))
  refine hmemL (fun w m => m.eqX 0 rfl (show _ = RBlk g1 23 (b8s nm) from congrArg (RBlk _ _) (cells_agg _))) ?_
  refine hy (fun _ => y_assign rfl) <| hend <| hmemQ (X' := [_]) (S' := []) (fun _ m => m) <| hthen <| hseq <| hreg <| hy (fun m => y_ldN rfl ag23 sz23 (by rw [b8s_length]; exact hm) ((m.blk 0 rfl).cells0)) <| ?_
  refine hx (xh_call rfl Tryd.call90 (hnameC hm) [] rfl [] rfl ?_)
  rintro _ _ _ ⟨rfl, rfl, rfl⟩
  refine hy (fun _ => y_assign rfl) <| hend <| hsub (ρ' := [(3, _), (2, _), (1, _), (0, _)]) ⟨rfl, rfl, rfl, rfl, trivial⟩ <| hmemQ (X' := [_]) (S' := []) (fun _ m => m) <| hthen <| hseq <| hreg <| hy (fun _ => y_move rfl) <| hy (fun _ => yV (y_strTo rfl rfl Tryd.underlying9 (show ((2 : Nat) : Int) = 2 from rfl) (show 2 ≤ (hexs nm).length by omega)) ((rfl : _ = Value.string (strOf ((hexs nm).take 2))))) <| hy (fun _ => yV (y_sadd rfl rfl (str_sum (a := [99, 47]) (b := (hexs nm).take 2) (by simp [h2]))) ((show Value.string (strOf [99, 47] ++ strOf ((hexs nm).take 2)) = .string (strOf ([99, 47] ++ (hexs nm).take 2)) from congrArg Value.string (strOf_append _ _)))) <| hy (fun _ => yV (y_sadd rfl rfl (str_sum (a := [99, 47] ++ (hexs nm).take 2) (b := [47]) (by simp [h2]))) ((show Value.string (strOf ([99, 47] ++ (hexs nm).take 2) ++ strOf [47]) = .string (strOf ([99, 47] ++ (hexs nm).take 2 ++ [47])) from congrArg Value.string (strOf_append _ _)))) <| hy (fun _ => y_move rfl) <| hy (fun _ => yV (y_sadd rfl rfl (str_sum (a := [99, 47] ++ (hexs nm).take 2 ++ [47]) (b := hexs nm) (by simp [h2, hhl]))) ((show Value.string (strOf ([99, 47] ++ (hexs nm).take 2 ++ [47]) ++ strOf (hexs nm)) = .string (strOf (placeL nm)) from congrArg Value.string (strOf_append _ _)))) <| hy (fun _ => y_assign rfl) <| hend <| hsub (ρ' := [(2, _), (3, _), (1, _), (0, _)]) ⟨rfl, rfl, rfl, rfl, trivial⟩ <| hthen <| hret <| ?_
  exact hret1 trivial rfl rfl [] rfl [] rfl ⟨rfl, rfl, rfl⟩
theorem rplaceC {nm : List UInt8} (hm : nm.length = 32) : Con Tryd.prog 35 [.agg (b8s nm).toArray] [] [] (fun v_ X_ S_ => v_ = (.string (strOf (placeL nm))) ∧ X_ = [] ∧ S_ = []) := by
  have hhl : (hexs nm).length = 64 := by rw [hexs_length, hm]
  have h2 : ((hexs nm).take 2).length = 2 := by rw [List.length_take, hhl]; rfl
  refine henter (N := 12) Tryd.func35 rfl rfl (by simp) fun b => ?_
  refine hseq <| hreg <| ?_
  refine hx (xh_box rfl (fun g1 => ?_))
  refine hmemL (fun w m => m.eqX 0 rfl (show _ = RBlk g1 23 (b8s nm) from congrArg (RBlk _ _) (cells_agg _))) ?_
  refine hy (fun _ => y_assign rfl) <| hend <| hmemQ (X' := [_]) (S' := []) (fun _ m => m) <| hthen <| hseq <| hreg <| hy (fun m => y_ldN rfl ag23 sz23 (by rw [b8s_length]; exact hm) ((m.blk 0 rfl).cells0)) <| ?_
  refine hx (xh_call rfl Tryd.call91 (rhnameC hm) [] rfl [] rfl ?_)
  rintro _ _ _ ⟨rfl, rfl, rfl⟩
  refine hy (fun _ => y_assign rfl) <| hend <| hsub (ρ' := [(3, _), (2, _), (1, _), (0, _)]) ⟨rfl, rfl, rfl, rfl, trivial⟩ <| hmemQ (X' := [_]) (S' := []) (fun _ m => m) <| hthen <| hseq <| hreg <| hy (fun _ => y_move rfl) <| hy (fun _ => yV (y_strTo rfl rfl Tryd.underlying9 (show ((2 : Nat) : Int) = 2 from rfl) (show 2 ≤ (hexs nm).length by omega)) ((rfl : _ = Value.string (strOf ((hexs nm).take 2))))) <| hy (fun _ => yV (y_sadd rfl rfl (str_sum (a := [99, 47]) (b := (hexs nm).take 2) (by simp [h2]))) ((show Value.string (strOf [99, 47] ++ strOf ((hexs nm).take 2)) = .string (strOf ([99, 47] ++ (hexs nm).take 2)) from congrArg Value.string (strOf_append _ _)))) <| hy (fun _ => yV (y_sadd rfl rfl (str_sum (a := [99, 47] ++ (hexs nm).take 2) (b := [47]) (by simp [h2]))) ((show Value.string (strOf ([99, 47] ++ (hexs nm).take 2) ++ strOf [47]) = .string (strOf ([99, 47] ++ (hexs nm).take 2 ++ [47])) from congrArg Value.string (strOf_append _ _)))) <| hy (fun _ => y_move rfl) <| hy (fun _ => yV (y_sadd rfl rfl (str_sum (a := [99, 47] ++ (hexs nm).take 2 ++ [47]) (b := hexs nm) (by simp [h2, hhl]))) ((show Value.string (strOf ([99, 47] ++ (hexs nm).take 2 ++ [47]) ++ strOf (hexs nm)) = .string (strOf (placeL nm)) from congrArg Value.string (strOf_append _ _)))) <| hy (fun _ => y_assign rfl) <| hend <| hsub (ρ' := [(2, _), (3, _), (1, _), (0, _)]) ⟨rfl, rfl, rfl, rfl, trivial⟩ <| hthen <| hret <| ?_
  exact hret1 trivial rfl rfl [] rfl [] rfl ⟨rfl, rfl, rfl⟩
end Go.Proofs.YtfikjheicjamhaaDoor
end
section
/- Contracts: disks of the program as the document's (for seats without slots: Slots7 has them too). -/
set_option linter.unusedVariables false
set_option linter.unusedSimpArgs false
set_option maxRecDepth 20000
namespace Go.Proofs.YtfikjheicjamhaaDoor
open Go.Eng Go.Hx
theorem dreadC {g : Nat} {st : DSt} {d : RD} {kk : Nat} {p : List UInt8} (hD : DS st d kk) : Con Tryd.prog 65 [.pointer (some ⟨g, 0, none⟩), .string (strOf p)] [RDisk g st] [] (fun v_ X_ S_ => ∃ v, v_ = (.tuple #[v, .int .i64 (d.readE p)]) ∧ X_ = [RDisk g st, ROwn 5 1 v (d.readB p).length (b8s (d.readB p))] ∧ S_ = []) := by
  rw [hD.readE, hD.readB]
  exact readC hD.ok.sm
theorem dwriteC {g : Nat} {st : DSt} {d : RD} {kk : Nat} {p : List UInt8} {A : Option Addr} {n c : Nat} {l : List UInt8} (hD : DS st d kk) (hkk : kk ≤ 99000) (hl : l.length = n) (hn : n ≤ 1048576) : Con Tryd.prog 79 [.pointer (some ⟨g, 0, none⟩), .string (strOf p), .slice A n c] [RDisk g st] [RRd 1 A n (b8s l)] (fun v_ X_ S_ => ∃ st1, v_ = (.int .i64 (d.writeE p l)) ∧ X_ = [RDisk g st1] ∧ S_ = [] ∧ (DS st1 (d.write p l) (kk + 1))) := by
  exact Con.mono (writeC hD.ok (by omega) hn) (fun v X S h => by
    obtain ⟨st1, B, c1, A1, c2, h1, h2, h3, hw⟩ := h
    have hW := hD.write hl hn hw
    exact ⟨st1, by rw [hW.2]; exact h1, h2, h3, hW.1⟩)
theorem dsyncC {g : Nat} {st : DSt} {d : RD} {kk : Nat} (hD : DS st d kk) : Con Tryd.prog 81 [.pointer (some ⟨g, 0, none⟩)] [RDisk g st] [] (fun v_ X_ S_ => ∃ st1, v_ = (.int .i64 d.syncE) ∧ X_ = [RDisk g st1] ∧ S_ = [] ∧ (DS st1 d.sync kk)) := by
  exact Con.mono (syncC hD.ok) (fun v X S h => by
    obtain ⟨st1, gl, h1, h2, h3, hw⟩ := h
    have hW := hD.sync hw
    exact ⟨st1, by rw [hW.2]; exact h1, h2, h3, hW.1⟩)
theorem drenameC {g : Nat} {st : DSt} {d : RD} {kk : Nat} {a c : List UInt8} (hD : DS st d kk) (hkk : kk ≤ 99000) : Con Tryd.prog 97 [.pointer (some ⟨g, 0, none⟩), .string (strOf a), .string (strOf c)] [RDisk g st] [] (fun v_ X_ S_ => ∃ st1, v_ = (.int .i64 (d.renameE a c)) ∧ X_ = [RDisk g st1] ∧ S_ = [] ∧ (DS st1 (d.rename a c) (kk + 1))) := by
  exact Con.mono (renameC hD.ok (by omega)) (fun v X S h => by
    obtain ⟨st1, A, j, h1, h2, h3, hw⟩ := h
    have hW := hD.rename hw
    exact ⟨st1, by rw [hW.2]; exact h1, h2, h3, hW.1⟩)
theorem DS.rd_len {st : DSt} {d : RD} {kk : Nat} (h : DS st d kk) (p : List UInt8) : (d.readB p).length ≤ 1048576 := by
  rw [h.readB]
  by_cases he : foundE st p = 0
  · obtain ⟨r, hr⟩ := found_ok he
    rw [readB_ok he hr]
    have h1 := h.ok.small r (List.mem_append_left _ (List.mem_append_left _ (List.mem_map.2 ⟨_, aget_mem hr, rfl⟩)))
    have h2 : r.n = r.l.length := h.sim.files.len _ (aget_mem hr)
    omega
  · rw [readB_no he]; exact Nat.zero_le _
end Go.Proofs.YtfikjheicjamhaaDoor
end
section
/- Contracts: what is said (wire, and the document's). -/
set_option linter.unusedVariables false
set_option linter.unusedSimpArgs false
set_option maxRecDepth 20000
namespace Go.Proofs.YtfikjheicjamhaaDoor
open Go.Eng Go.Hx
@[reducible] def mc (k s : Int) (nm : List UInt8) (v : Value) : List Value := .int .i64 k :: .int .i64 s :: (b8s nm ++ [v])
/-- which messages may be -/
def WMay (k s : Int) (n : Nat) : Prop := (1 ≤ k ∧ k ≤ 3 ∧ 0 ≤ s ∧ s ≤ 4294967295) ∧ (n = 0 ∨ (k = 2 ∧ n ≤ 4106))
instance (k s : Int) (n : Nat) : Decidable (WMay k s n) := by unfold WMay; infer_instance
theorem Rd.part {w : World} {a : Addr} {n k m : Nat} {B : List UInt8} (h : Rd w 1 (some a) n (b8s B)) : ∀ (j : Nat) (u : Value), (b8s ((B.drop k).take m))[j]? = some u → w.cell? ((a.add k).add j) = some u := by
  intro j u hu
  rw [add_add]
  refine h.cell ?_
  unfold b8s at hu ⊢
  rw [List.getElem?_map, List.getElem?_take] at hu
  rw [List.getElem?_map]
  split at hu
  · rw [List.getElem?_drop] at hu; exact hu
  · simp at hu
end Go.Proofs.YtfikjheicjamhaaDoor
end
section
/- The engine over things in memory, eighth part: panics that go through a function's end, and what recovers them. No statement is proved here. -/
set_option linter.unusedVariables false
set_option linter.unusedSimpArgs false
set_option linter.unusedSectionVars false
namespace Go.Eng
open Go.RowKit
/-- a panic with one value that nobody has recovered -/
abbrev pan (v : Value) : List PanicEntry := [{ v, recovered := false }]
/-- how a call ends: with a value, or in a panic -/
def RE (b : Base) (R Rp : Value → List Res → List Res → Prop) : Ending → World → Prop := fun e w' =>
  (∃ v X' S', e = .returned v ∧ R v X' S' ∧ Mem b X' S' w') ∨ (∃ v X' S', e = .panicked (pan v) ∧ Rp v X' S' ∧ Mem b X' S' w')
/-- a contract of what may end in a panic -/
def ConE (P : Program) (f : Nat) (args : List Value) (X0 S0 : List Res) (R Rp : Value → List Res → List Res → Prop) : Prop :=
  ∀ w, Mem ⟨w, feet X0, feet S0⟩ X0 S0 w → Calls P f args.toArray w (RE ⟨w, feet X0, feet S0⟩ R Rp)
theorem ConE.mono {P : Program} {f : Nat} {vs : List Value} {X0 S0 : List Res} {R Rp R' Rp' : Value → List Res → List Res → Prop} (h : ConE P f vs X0 S0 R Rp) (h1 : ∀ v X S, R v X S → R' v X S) (h2 : ∀ v X S, Rp v X S → Rp' v X S) : ConE P f vs X0 S0 R' Rp' := fun w m =>
  Calls.mono (h w m) (fun e w' hr => by
    rcases hr with ⟨v, X', S', a1, a2, a3⟩ | ⟨v, X', S', a1, a2, a3⟩
    · exact .inl ⟨v, X', S', a1, h1 _ _ _ a2, a3⟩
    · exact .inr ⟨v, X', S', a1, h2 _ _ _ a2, a3⟩)
section
variable {P : Program} {Q : Exit → Act → World → Prop} {N : Nat} {D : List Deferred} {ρ : Env} {b : Base} {X X' X0 Xr S S' S0 : List Res} {ty : TypeId} {x : Operand} {K : Value → List Res → List Res → Prop}
theorem x_callE {w : World} {K : Value → World → Prop} {f : Nat} {l : List Operand} {vs : List Value} {tys : Array TypeId} {R : Ending → World → Prop} (hv : evs ρ l = some vs) (hf : ∀ args w, (callFunc f args).run P w = .ok (.enter f args) w)
    (hc : Calls P f vs.toArray w R) (hR : ∀ e w', R e w' → (∃ v, e = .returned v ∧ K v w') ∨ ∃ c, e = .panicked c ∧ WQ Q N D (.panic c) ρ w') : XW P Q N D ρ w (.call ⟨.value (.func f), l.toArray, tys⟩) ty K := by
  intro a dst pos af g ha
  unfold Oper.wp
  have : (execOp a.eval ⟨dst, .call ⟨.value (.func f), l.toArray, tys⟩, ty, pos, af, g⟩).run P w = .ok (.enter f vs.toArray) w := by
    simp [execOp, resolve, Deferred.ofValue, Act.eval, invoke, ha.evals hv, hf]
  rw [this]
  refine Calls.mono hc ?_
  intro e w' he
  rcases hR e w' he with ⟨v, rfl, hk⟩ | ⟨c, rfl, hk⟩
  · exact ⟨v, rfl, hk⟩
  · exact hk a ha
theorem xh_callE {f : Nat} {l : List Operand} {vs : List Value} {tys : Array TypeId} {R Rp : Value → List Res → List Res → Prop} (hv : evs ρ l = some vs) (hf : ∀ args w, (callFunc f args).run P w = .ok (.enter f args) w)
    (hc : ConE P f vs X0 S0 R Rp) (is : List Nat) (hX : takeR is X = some (X0, Xr)) (js : List Nat) (hS : getR js S = some S0)
    (kp : ∀ v X' S', Rp v X' S' → HQ Q N D (.panic (pan v)) ρ b (X' ++ Xr) (S' ++ S)) (k : ∀ v X' S', R v X' S' → K v (X' ++ Xr) (S' ++ S)) : XH P Q N D ρ b X S (.call ⟨.value (.func f), l.toArray, tys⟩) ty K := fun w m => by
  have m1 := m.perm (takeR_perm _ _ _ _ hX)
  refine x_callE hv hf (hc w (m1.part (getR_sub _ _ _ hS))) ?_
  rintro e w' (⟨v, X', S', rfl, hR, m'⟩ | ⟨v, X', S', rfl, hR, m'⟩)
  · exact .inl ⟨v, rfl, _, _, m1.frame (getR_sub _ _ _ hS) m', k v X' S' hR⟩
  · exact .inr ⟨_, rfl, kp v X' S' hR w' (m1.frame (getR_sub _ _ _ hS) m')⟩
theorem hthen_panic {K : Act → World → Prop} {c : List PanicEntry} (h : HQ Q N D (.panic c) ρ b X S) : HQ (Exit.then K Q) N D (.panic c) ρ b X S := h
end
theorem henterE {P : Program} {f : Nat} {fn : Func} {c : Code} {vs : List Value} {R Rp : Value → List Res → List Res → Prop} {N : Nat} {X0 S0 : List Res} (hf : P.funcs[f]? = some fn) (hb : fn.body = some c) (hN : fn.ntmps = N) (hl : vs.length ≤ N)
    (h : ∀ b, HC P (bodyPost P fn (RE b R Rp)) N [] c (argsEnv vs 0) b X0 S0) : ConE P f vs X0 S0 R Rp := fun w m => enter hf hb hN hl (h _ w m)
section
variable {P : Program} {fn : Func} {R Rp : Value → List Res → List Res → Prop} {N : Nat} {D : List Deferred} {ρ : Env} {b : Base} {X X' Xz Xr X0 S S' S0 : List Res} {e : Exit} {u : FrameMode}
theorem bodyPost_mono {R1 R2 : Ending → World → Prop} (h : ∀ e w, R1 e w → R2 e w) : ∀ e a w, bodyPost P fn R1 e a w → bodyPost P fn R2 e a w
  | .normal, a, w, ⟨h1, v, h2, h3⟩ => ⟨h1, v, h2, h _ _ h3⟩
  | .ret, a, w, ⟨h1, v, h2, h3⟩ => ⟨h1, v, h2, h _ _ h3⟩
  | .panic c, a, w, ⟨h1, h2⟩ => ⟨h1, h _ _ h2⟩
  | .outgrown, a, w, h1 => h _ _ h1
  | .exit _, a, w, h1 => h1.elim
  | .goto _, a, w, h1 => h1.elim
/-- the normal end of what may end in a panic -/
theorem hretE (h : HQ (bodyPost P fn (RB b R)) N D e ρ b X S) : HQ (bodyPost P fn (RE b R Rp)) N D e ρ b X S := fun w m a ha =>
  bodyPost_mono (fun e w h => by obtain ⟨v, X', S', h1, h2, h3⟩ := h; exact .inl ⟨v, X', S', h1, h2, h3⟩) _ _ _ (h w m a ha)
theorem hpanE {v : Value} (is : List Nat) (hX : takeR is X = some (X', Xz)) (js : List Nat) (hS : getR js S = some S') (hR : Rp v X' S') : HQ (bodyPost P fn (RE b R Rp)) N [] (.panic (pan v)) ρ b X S := fun w m a ha =>
  ⟨ha.df, .inr ⟨v, X', S', rfl, hR, m.out is hX js hS⟩⟩
/-- where a function with calls at its end leaves, in any mode -/
def HEu (P : Program) (fn : Func) (b : Base) (R : Value → List Res → List Res → Prop) (N : Nat) (D : List Deferred) (ρ : Env) (X S : List Res) (u : FrameMode) : Prop := ∀ w, Mem b X S w → ∀ tmps : Array Value, (∀ t v, get ρ t = some v → tmps[t]? = some v) → Go.Leaves P fn tmps (RB b R) D u w
theorem hleaveN (he : Leaves e) (h : HEu P fn b R N D ρ X S .returning) : HQ (bodyPostD P fn (RB b R)) N D e ρ b X S := hleave he h
theorem hleaveP {c : List PanicEntry} (h : HEu P fn b R N D ρ X S (.panicking c)) : HQ (bodyPostD P fn (RB b R)) N D (.panic c) ρ b X S := fun w m a ha => by
  have := h w m a.tmps ha.gt
  show Go.Leaves P fn a.tmps (RB b R) a.defers (.panicking c) w
  rw [ha.df]
  exact this
/-- a contract of what is called at a function's end: how it then goes on -/
def ConD (P : Program) (f : Nat) (args : List Value) (u : FrameMode) (X0 S0 : List Res) (R : FrameMode → List Res → List Res → Prop) : Prop :=
  ∀ w, Mem ⟨w, feet X0, feet S0⟩ X0 S0 w → CallsD P f args.toArray u w fun e u' w' => e = .returned (.tuple #[]) ∧ ∃ X' S', R (settle u') X' S' ∧ Mem ⟨w, feet X0, feet S0⟩ X' S' w'
theorem hdone {f : Nat} {vs cap : List Value} {Rd : FrameMode → List Res → List Res → Prop} (hu : u ≠ .run) (hcall : ∀ args w, (callFunc f args).run P w = .ok (.enter f args) w) (hc : ConD P f (vs ++ cap) u X0 S0 Rd) (is : List Nat) (hX : takeR is X = some (X0, Xr)) (js : List Nat) (hS : getR js S = some S0)
    (k : ∀ u' X' S', Rd u' X' S' → HEu P fn b R N D ρ (X' ++ Xr) (S' ++ S) u') : HEu P fn b R N (⟨.fn (.func f) cap.toArray, vs.toArray⟩ :: D) ρ X S u := fun w m tmps ht => by
  have m1 := m.perm (takeR_perm _ _ _ _ hX)
  refine leaves_cons (f := f) (args := (vs ++ cap).toArray) hu ?_ ?_
  · simp [invoke, hcall]
  · refine CallsD.mono (hc w (m1.part (getR_sub _ _ _ hS))) ?_
    rintro e u' w' ⟨rfl, X', S', hR, m'⟩
    exact k _ _ _ hR w' (m1.frame (getR_sub _ _ _ hS) m') tmps ht
end
/-! ### what recovers -/
section
variable {P : Program} {ops : Array Oper} {fn : Func} {N : Nat} {D : List Deferred} {ρ ρ' : Env} {w : World} {c₀ : Frame} {cs : List Frame} {R : Ending → FrameMode → World → Prop} {Q : Exit → Act → List Frame → World → Prop} {op : Op} {ty : TypeId} {pos : String} {af : Array Edge} {d : Nat} {v : Value} {rest : List Nat} {u : FrameMode}
/-- operations that look at who called -/
def SL (P : Program) (ops : Array Oper) (Q : Exit → Act → List Frame → World → Prop) (N : Nat) (D : List Deferred) (l : List Nat) (ρ : Env) (cs : List Frame) (w : World) : Prop := ∀ a, Ag N D ρ a → wpOpsS P ops Q l a cs w
theorem sl_y {i : Nat} (ho : ops[i]? = some ⟨some d, op, ty, pos, af, none⟩) (h : Yl P N D ρ w op ty v) (k : SL P ops Q N D rest ((d, v) :: ρ) cs w) (hd : d < N := by decide) : SL P ops Q N D (i :: rest) ρ cs w := fun a ha => by
  simp only [wpOpsS, ho]
  rw [if_pos (by simp [Region.wanted]), h a (some d) pos af none ha]
  exact k _ (ha.put hd)
theorem sl_rec {i : Nat} {tys : Array TypeId} {pv : Value} {older : List PanicEntry} (ho : ops[i]? = some ⟨some d, .call ⟨.builtin .recover, #[], tys⟩, ty, pos, af, none⟩) (hu : c₀.mode = .panicking ({ v := pv, recovered := false } :: older))
    (k : SL P ops Q N D rest ((d, pv) :: ρ) ({ c₀ with mode := .panicking ({ v := pv, recovered := true } :: older) } :: cs) w) (hd : d < N := by decide) : SL P ops Q N D (i :: rest) ρ (c₀ :: cs) w := fun a ha => by
  have hr : (execOp a.eval ⟨some d, .call ⟨.builtin .recover, #[], tys⟩, ty, pos, af, none⟩).run P w = .ok .recover w := by
    simp [execOp, resolve, invoke, builtin]
  have h2 : recoverD (c₀ :: cs) = some (pv, { c₀ with mode := .panicking ({ v := pv, recovered := true } :: older) } :: cs) := by simp [recoverD, hu]
  simp only [wpOpsS, ho]
  rw [if_pos (by simp [Region.wanted]), hr]
  simp only [h2]
  exact k _ (ha.put hd)
theorem sl_rec0 {i : Nat} {tys : Array TypeId} (ho : ops[i]? = some ⟨some d, .call ⟨.builtin .recover, #[], tys⟩, ty, pos, af, none⟩) (hu : c₀.mode = .returning)
    (k : SL P ops Q N D rest ((d, .nilIface) :: ρ) (c₀ :: cs) w) (hd : d < N := by decide) : SL P ops Q N D (i :: rest) ρ (c₀ :: cs) w := fun a ha => by
  have hr : (execOp a.eval ⟨some d, .call ⟨.builtin .recover, #[], tys⟩, ty, pos, af, none⟩).run P w = .ok .recover w := by
    simp [execOp, resolve, invoke, builtin]
  have h2 : recoverD (c₀ :: cs) = none := by simp [recoverD, hu]
  simp only [wpOpsS, ho]
  rw [if_pos (by simp [Region.wanted]), hr]
  simp only [h2]
  exact k _ (ha.put hd)
/-- the rest of the code does not look at who called -/
theorem s_rest {c : Code} {a : Act} {b : Base} {X S : List Res} {R0 : Ending → World → Prop} (m : Mem b X S w) (h : HC P (bodyPost P fn R0) N [] c ρ b X S) (ha : Ag N [] ρ a) (hR : ∀ e w', R0 e w' → ∃ v, e = .returned v ∧ R (.returned v) u w') : c.wpS P (bodyPostS P fn c₀ cs R) a ({ c₀ with mode := u } :: cs) w := by
  refine wpS_of_wp (wp_mono (h w m a ha) ?_)
  intro e a' w' hb
  cases e with
  | normal =>
    obtain ⟨h1, v, h2, h3⟩ := hb
    obtain ⟨v', hv, h4⟩ := hR _ _ h3
    cases hv
    exact ⟨h1, u, rfl, v, h2, h4⟩
  | ret =>
    obtain ⟨h1, v, h2, h3⟩ := hb
    obtain ⟨v', hv, h4⟩ := hR _ _ h3
    cases hv
    exact ⟨h1, u, rfl, v, h2, h4⟩
  | panic c =>
    obtain ⟨h1, h2⟩ := hb
    obtain ⟨v', hv, h4⟩ := hR _ _ h2
    cases hv
  | outgrown =>
    obtain ⟨v', hv, h4⟩ := hR _ _ hb
    cases hv
  | exit id => exact hb.elim
  | goto l => exact hb.elim
end
end Go.Eng
end
section
/- The engine over things in memory, ninth part: a panic out of a region whose order is open. No statement is proved here. -/
set_option linter.unusedVariables false
set_option linter.unusedSimpArgs false
set_option linter.unusedSectionVars false
namespace Go.Eng
open Go.RowKit
/-- but for these temporaries the same -/
def Agree (ds : List Nat) (a a' : Act) : Prop := a'.defers = a.defers ∧ a'.tmps.size = a.tmps.size ∧ ∀ t : Nat, t ∉ ds → a'.tmps[t]? = a.tmps[t]?
theorem Agree.refl (ds : List Nat) (a : Act) : Agree ds a a := ⟨rfl, rfl, fun _ _ => rfl⟩
theorem Agree.put {ds : List Nat} {a a' : Act} {d : Nat} {v : Value} (hd : d ∈ ds) (h : Agree ds a a') : Agree ds (a.put (some d) v) a' := by
  obtain ⟨h1, h2, h3⟩ := h
  refine ⟨h1, by rw [h2]; simp [Act.put], fun t ht => ?_⟩
  rw [h3 t ht]
  have hne : d ≠ t := fun e => ht (e ▸ hd)
  simp only [Act.put]
  rw [Array.getElem?_setIfInBounds_ne hne]
/-- Q; a panic: whatever the region's own temporaries are -/
def PanQ (ds : List Nat) (Q : Exit → Act → World → Prop) : Exit → Act → World → Prop
  | .panic c, a, w => ∀ a', Agree ds a a' → Q (.panic c) a' w
  | .outgrown, _, _ => False
  | e, a, w => Q e a w
section
variable {P : Program} {ops : Array Oper} {Q : Exit → Act → World → Prop}
theorem wpG_of_seqE {T : Nat → World → Prop} {X : List Nat} (hs : Region.noSelect ops = true) (hQ : ∀ (i : Nat) (o : Oper), ops[i]? = some o → ∀ c a v w, Q (.panic c) (a.put o.dst v) w → Q (.panic c) a w) : ∀ (L : List (Nat × Option Nat)) (sq : List (Option Nat × Oper)) (l : Array Bool) (a : Act) (w : World) (n k : Nat),
    pickG ops L = some sq → seqOkG ops X L l = true → L.length ≤ n → Kept ops l → cnt X l = k → T k w → wpSeqG P ops Q T k sq a w → wpG P ops Q (fun l w => T (cnt X l) w) n l a w
  | [], sq, l, a, w, n, k, hp, hk, _, _, _, _, h => by
    simp only [pickG, Option.some.injEq] at hp
    subst hp
    have hr : Region.ready .any ops l = [] := by simpa [seqOkG] using hk
    cases n with
    | zero => exact ⟨hr, h⟩
    | succ n => exact ⟨fun _ => h, by rw [hr]; simp⟩
  | (i, x) :: r, sq, l, a, w, 0, k, hp, hk, hf, _, _, _, h => by simp at hf
  | (i, x) :: r, sq, l, a, w, n + 1, k, hp, hk, hf, hK, hc, hT, h => by
    unfold pickG at hp
    split at hp
    · rename_i o l' ho hl'
      cases hp
      have hf' : r.length ≤ n := by simp at hf; omega
      cases x with
      | none =>
        simp only [seqOkG, Bool.and_eq_true, beq_iff_eq] at hk
        obtain ⟨⟨hrd, hct⟩, hk⟩ := hk
        have hmem : i ∈ Region.ready .any ops l := by rw [hrd]; simp
        have hcs : cnt X (l.setIfInBounds i true) = k + 1 := by rw [cnt_set (mem_ready.1 hmem).1, hct, hc]
        have hK' := hK.set hmem
        refine ⟨fun h0 => (by rw [h0] at hmem; cases hmem), fun j hj => ?_⟩
        have hji : j = i := by rw [hrd] at hj; simpa using hj
        subst hji
        unfold wpOp
        simp only [ho]
        simp only [wpSeqG] at h
        split at h
        · rename_i hw
          rw [if_pos hw]
          refine .inl (Oper.wp_mono ?_ h)
          rintro a' w' ⟨hS', h'⟩
          exact ⟨by rw [hcs]; exact hS', wpG_of_seqE hs hQ r l' _ a' w' n (k + 1) hl' hk hf' hK' hcs hS' h'⟩
        · rename_i hw
          rw [if_neg hw]
          exact ⟨by rw [hcs]; exact h.1, wpG_of_seqE hs hQ r l' _ _ w n (k + 1) hl' hk hf' hK' hcs h.1 h.2⟩
      | some m =>
        simp only [seqOkG, Bool.and_eq_true, Bool.not_eq_true'] at hk
        obtain ⟨⟨⟨⟨hfree, hcon⟩, hX⟩, hcap⟩, hk⟩ := hk
        obtain ⟨v, hy, h'⟩ := h
        have hmem : i ∈ Region.ready .any ops l := by simpa using hcon
        have hcs : cnt X (l.setIfInBounds i true) = k := by rw [cnt_ne hX, hc]
        refine wpG_first ho (Region.noSelect_spec hs) (fun c a w => hQ i o ho c a _ w) (fun l' => Kept ops l' ∧ ∀ q, l.getD q false = true → l'.getD q false = true) (fun l' j hR hj => ⟨hR.1.set hj, fun q hq => getD_set_true (hR.2 q hq)⟩)
          (fun l' w' => by rw [cnt_ne hX]) n l a w (Region.free_spec ho hfree) hmem ?_ ⟨hK, fun q hq => hq⟩ (by rw [hc]; exact hT) (wpG_of_seqE hs hQ r l' _ _ w n k hl' hk hf' (hK.set hmem) hcs hT h')
        rcases hy with ⟨hw, hv⟩ | hy
        · refine .inl ⟨hw, fun w' hw' => hv w' ?_⟩
          obtain ⟨l2, ⟨hK2, hsub⟩, hun, hT2⟩ := hw'
          exact ⟨cnt X l2, by rw [← hc]; exact cnt_mono hsub, cnt_cap hK2 hun hcap, hT2⟩
        · exact .inr hy
    · cases hp
theorem wp_region_seqE {T : Nat → World → Prop} {X ds : List Nat} {id : Nat} {a : Act} {w : World} {sq : List (Option Nat × Oper)} (L : List (Nat × Option Nat)) (hds : ops.all (fun o => match o.dst with | some d => ds.contains d | none => true) = true) (hm : P.follows .mixedOrders = true) (hs : Region.noSelect ops = true) (hk : seqOkG ops X L (Array.replicate ops.size false) = true) (hn : L.length ≤ ops.size)
    (hp : pickG ops L = some sq) (hT : T 0 w.drew) (h : wpSeqG P ops (PanQ ds Q) T 0 sq a w.drew) : (Code.region id ops true).wp P Q a w := by
  refine Code.wp_mono (Q := PanQ ds Q) (fun e a w q => by cases e <;> first | exact q | exact q.elim | exact q a (.refl _ _)) ?_
  refine wp_region_any hm (wpAny_of_wpG _ _ _ _ (wpG_of_seqE (X := X) hs (fun i o ho c a v w q a' ha' => ?_) L sq _ a _ _ 0 hp hk hn ?_ ?_ hT h))
  · have hmem : o ∈ ops := by
      obtain ⟨hi, he⟩ := Array.getElem?_eq_some_iff.1 ho
      exact he ▸ Array.getElem_mem hi
    have := Array.all_eq_true_iff_forall_mem.1 hds o hmem
    cases hd : o.dst with
    | none => rw [hd] at q; exact q a' ha'
    | some d =>
      rw [hd] at this q
      exact q a' (ha'.put (by simpa using this))
  · intro j hj
    simp [Array.getElem?_replicate] at hj
    split at hj <;> cases hj
  · unfold cnt
    rw [List.countP_eq_zero]
    intro x _
    simp [Array.getElem?_replicate]
    split <;> rfl
end
/-- what is known of the other temporaries -/
def offE (ds : List Nat) (ρ : Env) : Env := ρ.filter fun p => !ds.contains p.1
theorem offE_get {ds : List Nat} : ∀ {ρ : Env} {t : Nat} {v : Value}, get (offE ds ρ) t = some v → t ∉ ds ∧ get ρ t = some v
  | [], t, v, h => by simp [offE, get] at h
  | (t0, v0) :: ρ, t, v, h => by
    unfold offE at h
    rw [List.filter_cons] at h
    by_cases hc : ds.contains t0 = true
    · rw [if_neg (by simpa using hc)] at h
      obtain ⟨h1, h2⟩ := offE_get (ρ := ρ) h
      refine ⟨h1, ?_⟩
      have hne : t0 ≠ t := fun e => h1 (by rw [← e]; simpa using hc)
      simp only [get]
      have hbf : Nat.beq t0 t = false := by
        cases hb : Nat.beq t0 t with
        | true => exact absurd (Nat.eq_of_beq_eq_true hb) hne
        | false => rfl
      rw [hbf]
      exact h2
    · rw [if_pos (by simpa using hc)] at h
      simp only [get] at h ⊢
      cases hb : Nat.beq t0 t with
      | true =>
        rw [hb] at h
        have : t0 = t := Nat.eq_of_beq_eq_true hb
        subst this
        exact ⟨by simpa using hc, h⟩
      | false =>
        rw [hb] at h
        exact offE_get (ρ := ρ) h
section
variable {P : Program} {ops : Array Oper} {Q : Exit → Act → World → Prop} {N : Nat} {D : List Deferred} {ρ ρ' : Env} {b : Base} {X X' X0 Xr S S' S0 X1 S1 : List Res} {k c : Nat} {ds : List Nat}
theorem hdrwBE {id : Nat} {l : List (Option Nat × Oper)} (ds : List Nat) (is js : List Nat) (hX : takeR is X = some (X1, Xr)) (hS : getR js S = some S1) (Xs : List Nat) (L : List (Nat × Option Nat)) (hm : P.follows .mixedOrders = true)
    (hk : (Region.noSelect ops && seqOkG ops Xs L (Array.replicate ops.size false) && decide (L.length ≤ ops.size)) = true) (hds : ops.all (fun o => match o.dst with | some d => ds.contains d | none => true) = true)
    (hp : pickG ops L = some l) (c : Nat) (h : HT P ops (PanQ ds Q) (TT b X1 S1 c) N D 0 l ρ b X S) : HC P Q N D (.region id ops true) ρ b X S := fun w m a ha => by
  simp only [Bool.and_eq_true, decide_eq_true_eq] at hk
  exact wp_region_seqE (X := Xs) L hds hm hk.1.1 hk.1.2 hk.2 hp (fun _ => (wk is js hX hS).mem (m.lift (Fr.drew w))) (h _ (m.lift (Fr.drew w)) a ha)
theorem htendE {T : Nat → World → Prop} (h : HQ Q N D .normal ρ b X S) : HT P ops (PanQ ds Q) T N D k [] ρ b X S := fun w m a ha => h w m a ha
theorem hpanq {e : List PanicEntry} (h : HQ Q N D (.panic e) (offE ds ρ) b X S) : HQ (PanQ ds Q) N D (.panic e) ρ b X S := fun w m a ha a' hag => by
  obtain ⟨h1, h2, h3⟩ := hag
  refine h w m a' ⟨by rw [h2]; exact ha.sz, by rw [h1]; exact ha.df, fun t v ht => ?_⟩
  obtain ⟨h4, h5⟩ := offE_get ht
  rw [h3 t h4]
  exact ha.gt t v h5
end
/-! ### a closure that recovers: its first region -/
section
variable {P : Program} {ops : Array Oper} {fn : Func} {Q : Exit → Act → List Frame → World → Prop} {N : Nat} {D : List Deferred} {ρ : Env} {b : Base} {X X' S S' : List Res} {cs : List Frame} {c₀ : Frame} {rest : List Nat} {op : Op} {ty : TypeId} {pos : String} {af : Array Edge} {d i : Nat} {v : Value}
def HSL (P : Program) (ops : Array Oper) (Q : Exit → Act → List Frame → World → Prop) (N : Nat) (D : List Deferred) (l : List Nat) (ρ : Env) (cs : List Frame) (b : Base) (X S : List Res) : Prop := ∀ w, Mem b X S w → SL P ops Q N D l ρ cs w
theorem wpOpsS_step {o : Oper} {a : Act} {w : World} (ho : ops[i]? = some o) (hw : Region.wanted o (yielded ops a.tmps) = true) (h : o.wp P a w (fun a' w' => wpOpsS P ops Q rest a' cs w') (fun e a' w' => Q e a' cs w')) : wpOpsS P ops Q (i :: rest) a cs w := by
  simp only [wpOpsS, ho]
  rw [if_pos hw]
  unfold Oper.wp at h
  split
  · rename_i w' hr
    rw [hr] at h
    exact h.elim
  · exact h
theorem hsl_y (ho : ops[i]? = some ⟨some d, op, ty, pos, af, none⟩) (h : ∀ {w}, Mem b X S w → Yl P N D ρ w op ty v) (k : HSL P ops Q N D rest ((d, v) :: ρ) cs b X S) (hd : d < N := by decide) : HSL P ops Q N D (i :: rest) ρ cs b X S := fun w m => sl_y ho (h m) (k w m) hd
theorem hsl_x (ho : ops[i]? = some ⟨some d, op, ty, pos, af, none⟩) (h : XH P (fun e a w => Q e a cs w) N D ρ b X S op ty fun v X' S' => HSL P ops Q N D rest ((d, v) :: ρ) cs b X' S') (hd : d < N := by decide) : HSL P ops Q N D (i :: rest) ρ cs b X S := fun w m a ha => by
  refine wpOpsS_step ho (by simp [Region.wanted]) (Oper.wp_mono ?_ (h w m a (some d) pos af none ha))
  rintro a' w' ⟨v, rfl, X', S', m', hk⟩
  exact hk w' m' _ (ha.put hd)
theorem hsl_x0 (ho : ops[i]? = some ⟨none, op, ty, pos, af, none⟩) (h : XH P (fun e a w => Q e a cs w) N D ρ b X S op ty fun _ X' S' => HSL P ops Q N D rest ρ cs b X' S') : HSL P ops Q N D (i :: rest) ρ cs b X S := fun w m a ha => by
  refine wpOpsS_step ho (by simp [Region.wanted]) (Oper.wp_mono ?_ (h w m a none pos af none ha))
  rintro a' w' ⟨v, rfl, X', S', m', hk⟩
  exact hk w' m' _ ha
theorem hsl_rec {tys : Array TypeId} {pv : Value} {older : List PanicEntry} (ho : ops[i]? = some ⟨some d, .call ⟨.builtin .recover, #[], tys⟩, ty, pos, af, none⟩) (hu : c₀.mode = .panicking ({ v := pv, recovered := false } :: older))
    (k : HSL P ops Q N D rest ((d, pv) :: ρ) ({ c₀ with mode := .panicking ({ v := pv, recovered := true } :: older) } :: cs) b X S) (hd : d < N := by decide) : HSL P ops Q N D (i :: rest) ρ (c₀ :: cs) b X S := fun w m => sl_rec ho hu (k w m) hd
theorem hsl_rec0 {tys : Array TypeId} (ho : ops[i]? = some ⟨some d, .call ⟨.builtin .recover, #[], tys⟩, ty, pos, af, none⟩) (hu : c₀.mode = .returning) (k : HSL P ops Q N D rest ((d, .nilIface) :: ρ) ({ c₀ with mode := .returning } :: cs) b X S) (hd : d < N := by decide) : HSL P ops Q N D (i :: rest) ρ (c₀ :: cs) b X S := fun w m =>
  sl_rec0 ho hu (by have := k w m; rwa [show ({ c₀ with mode := FrameMode.returning } : Frame) = c₀ by cases c₀; simp_all] at this) hd
theorem hslmem {l : List Nat} (h : ∀ w, Mem b X S w → Mem b X' S' w) (k : HSL P ops Q N D l ρ cs b X' S') : HSL P ops Q N D l ρ cs b X S := fun w m => k w (h w m)
/-- what is said behind the region: the rest is ordinary code -/
def RD' (b : Base) (R : FrameMode → List Res → List Res → Prop) : Ending → FrameMode → World → Prop := fun e u' w' => e = .returned (.tuple #[]) ∧ ∃ X' S', R (settle u') X' S' ∧ Mem b X' S' w'
def QD (P : Program) (fn : Func) (c₀ : Frame) (cs : List Frame) (b : Base) (R : FrameMode → List Res → List Res → Prop) (c2 : Code) : Exit → Act → List Frame → World → Prop := Exit.thenS (fun a cs' w => c2.wpS P (bodyPostS P fn c₀ cs (RD' b R)) a cs' w) (bodyPostS P fn c₀ cs (RD' b R))
theorem hsl_done {R : FrameMode → List Res → List Res → Prop} {c2 : Code} {u2 : FrameMode} (h : HC P (bodyPost P fn (RB b fun v X S => v = .tuple #[] ∧ R (settle u2) X S)) N [] c2 ρ b X S) : HSL P ops (QD P fn c₀ cs b R c2) N [] [] ρ ({ c₀ with mode := u2 } :: cs) b X S := fun w m a ha => by
  refine s_rest m h ha ?_
  rintro e w' ⟨v, X', S', rfl, ⟨rfl, hR⟩, m'⟩
  exact ⟨_, rfl, rfl, X', S', hR, m'⟩
end
theorem henterS {P : Program} {f : Nat} {fn : Func} {id : Nat} {ops : Array Oper} {c2 : Code} {vs : List Value} {u : FrameMode} {N : Nat} {X0 S0 : List Res} {R : FrameMode → List Res → List Res → Prop} (hf : P.funcs[f]? = some fn) (hb : fn.body = some (.seq (.region id ops false) c2)) (hN : fn.ntmps = N) (hl : vs.length ≤ N)
    (h : ∀ (b : Base) (c₀ : Frame) (cs : List Frame), c₀.mode = u → HSL P ops (QD P fn c₀ cs b R c2) N [] (List.range ops.size) (argsEnv vs 0) (c₀ :: cs) b X0 S0) : ConD P f vs u X0 S0 R := fun w m => by
  refine callsD_of_wpS hf hb fun c₀ cs hu => ?_
  refine wpS_seq (wpS_region ?_)
  refine h _ c₀ cs hu w m _ ⟨?_, rfl, fun t v ht => ?_⟩
  · simp [hN]; omega
  · obtain ⟨_, h2⟩ := get_argsEnv vs 0 t v ht
    have hlt := (List.getElem?_eq_some_iff.1 h2).1
    rw [Array.getElem?_append_left (by simpa using hlt)]
    simpa using h2
/-! ### panic, and assertions -/
section
variable {P : Program} {Q : Exit → Act → World → Prop} {N : Nat} {D : List Deferred} {ρ : Env} {b : Base} {X S : List Res} {ty t : TypeId} {x : Operand} {v : Value} {K : Value → List Res → List Res → Prop}
theorem xh_panic (hx : ev ρ x = some (.iface t v)) (h : HQ Q N D (.panic (pan (.iface t v))) ρ b X S) : XH P Q N D ρ b X S (.panic x) ty K := fun w m a dst pos af g ha => by
  unfold Oper.wp
  have : (execOp a.eval ⟨dst, .panic x, ty, pos, af, g⟩).run P w = .halt (.panic (.iface t v)) w := by
    simp [execOp, ha.eval hx, Instr.panic, goPanic]
  rw [this]
  exact h w m a ha
theorem run_tasS {fs : Array Field} {xT : TypeId} {w : World} (ht : P.underlying t = some (.struct fs)) : (Instr.typeAssert (.iface t v) xT t true).run P w = .ok (.tuple #[v, .bool true]) w := by
  simp [Instr.typeAssert, run_underlying ht]
theorem run_tas0 {fs : Array Field} {xT : TypeId} {w : World} {z : Value} {sz bytes : Nat} (ht : P.underlying t = some (.struct fs)) (hT : TI P t z sz bytes) : (Instr.typeAssert .nilIface xT t true).run P w = .ok (.tuple #[z, .bool false]) w := by
  simp [Instr.typeAssert, run_underlying ht, run_zero hT]
end
section
variable {P : Program} {fn : Func} {R : Value → List Res → List Res → Prop} {N : Nat} {ρ : Env} {b : Base} {X X' Xz S S' : List Res} {w : World}
theorem run_load1 {t : TypeId} {p : Addr} {v : Value} (ha : aggB P t = some false) (hc : w.cell? p = some v) : (loadVar t p).run P w = .ok v w := by
  simp [loadVar, run_isAgg ha, hc]
theorem hlastCC {t t' : Nat} {ty ty' : TypeId} {p p' : Addr} {v v' : Value} (hr : fn.results = #[.cell t ty, .cell t' ty']) (hv : get ρ t = some (.pointer (some p))) (hv' : get ρ t' = some (.pointer (some p'))) (ha : aggB P ty = some false) (ha' : aggB P ty' = some false)
    (hc : ∀ {w}, Mem b X S w → w.cell? p = some v) (hc' : ∀ {w}, Mem b X S w → w.cell? p' = some v') (is : List Nat) (hX : takeR is X = some (X', Xz)) (js : List Nat) (hS : getR js S = some S') (hR : R (.tuple #[v, v']) X' S') : HEu P fn b R N [] ρ X S .returning := fun w m tmps h =>
  ⟨.tuple #[v, v'], by have h1 := tmps_getD h hv; have h2 := tmps_getD h hv'; simp at h1 h2; simp [results, hr, h1, h2, asAddr, run_load1 ha (hc m), run_load1 ha' (hc' m)], _, _, _, rfl, hR, m.out is hX js hS⟩
theorem hret4 {e : Exit} {t1 t2 t3 t4 : Nat} {v1 v2 v3 v4 : Value} (he : Leaves e) (hr : fn.results = #[.tmp t1, .tmp t2, .tmp t3, .tmp t4]) (h1 : get ρ t1 = some v1) (h2 : get ρ t2 = some v2) (h3 : get ρ t3 = some v3) (h4 : get ρ t4 = some v4) (is : List Nat) (hX : takeR is X = some (X', Xz)) (js : List Nat) (hS : getR js S = some S') (hR : R (.tuple #[v1, v2, v3, v4]) X' S') : HQ (bodyPost P fn (RB b R)) N [] e ρ b X S :=
  fun w m => wq_leave he (fun a hA => by have g1 := hA.getD h1; have g2 := hA.getD h2; have g3 := hA.getD h3; have g4 := hA.getD h4; simp at g1 g2 g3 g4; simp [results, hr, g1, g2, g3, g4]) ⟨_, _, _, rfl, hR, m.out is hX js hS⟩
theorem humem {u : FrameMode} {D : List Deferred} (h : ∀ w, Mem b X S w → Mem b X' S' w) (k : HEu P fn b R N D ρ X' S' u) : HEu P fn b R N D ρ X S u := fun w m => k w (h w m)
end
end Go.Eng
end
section
/- The engine over things in memory, tenth part: one thing out of a pack, and back; a slice of one's own from a place on; keys of n bytes. No statement is proved here. -/
set_option linter.unusedVariables false
set_option linter.unusedSimpArgs false
set_option linter.unusedSectionVars false
namespace Go.Eng
open Go.RowKit
open Go.ChangeMaps (setBlock)
section
variable {b : Base} {X S Xp Xq : List Res} {w : World} {r : Res}
theorem Mem.packPerm (m : Mem b (RPack Xp :: X) S w) (h : Xp.Perm Xq) : Mem b (RPack Xq :: X) S w := ((m.unpack).perm (h.append_right X)).pack
theorem Mem.packTake (m : Mem b (RPack Xp :: X) S w) (i : Nat) (h : Xp[i]? = some r) : Mem b (r :: RPack (Xp.eraseIdx i) :: X) S w := by
  obtain ⟨hlt, rfl⟩ := List.getElem?_eq_some_iff.1 h
  have m1 := (m.packPerm (eraseIdx_perm Xp i hlt).symm).unpack
  rw [List.cons_append] at m1
  have m2 : Mem b (Xp.eraseIdx i ++ (Xp[i] :: X)) S w := m1.perm (List.perm_middle.symm)
  exact (m2.pack).perm (List.Perm.swap ..)
theorem Mem.packPut (m : Mem b (r :: RPack Xp :: X) S w) : Mem b (RPack (r :: Xp) :: X) S w := by
  have m1 : Mem b (RPack Xp :: r :: X) S w := m.perm (List.Perm.swap ..)
  have m2 := m1.unpack
  have m3 : Mem b ((r :: Xp) ++ X) S w := m2.perm (List.perm_middle)
  exact m3.pack
theorem Mem.packNil (m : Mem b X S w) : Mem b (RPack [] :: X) S w := Mem.pack (Xp := []) m
end
/-! ### n bytes as keys -/
abbrev Bn (n : Nat) := {l : List UInt8 // l.length = n}
def KN {n : Nat} (d : Bn n) : Value := DV d.1
theorem bnKey {P : Program} {kt e : TypeId} {n : Nat} (ht : P.underlying kt = some (.array n e)) (he : P.underlying e = some (.int .u8)) (hs : P.cellsOf kt = n) (hse : P.cellsOf e = 1) (hk : P.keyTypeAt 2 kt = true) : KeyK P kt (KN (n := n)) where
  inj a b h := Subtype.ext (DV_inj h)
  check w em d := by
    have h1 : (KN d).formed P kt = true := by simp [Value.formed, KN, DV, ht, b8s_length, d.2, hs]
    have h2 := keyLits_b8 (P := P) (D := 0) (l := d.1) ht he hs hse d.2
    exact run_checkKey_deep em 9998 2 kt hk w 2 (KN d) _ h1 (by simpa [KN, DV, Value.cells] using h2)
  find w k es h := by
    have hag : aggB P kt = some true := by simp [aggB, ht]
    have heq : ∀ q : Bn n, (Op.equal kt (KN k) (KN q)).run P w = .ok (decide (k = q)) w := fun q => by
      have h2 := keyLits_b8 (P := P) (D := 0) (l := k.1) ht he hs hse k.2
      have h3 := keyLits_b8 (P := P) (D := 0) (l := q.1) ht he hs hse q.2
      exact run_eqlK (m := 2) (p := k = q) (by decide) hk hag (by rw [b8s_length, hs]; exact k.2) (by rw [b8s_length, hs]; exact q.2) h2 h3 (by rw [lits_b8_inj]; exact ⟨fun e => Subtype.ext e, fun e => by rw [e]⟩)
    have hnow : ∀ (es : List MapEntry) (i : Nat), es ≠ [] → Instr.findNow (.array n e) (KN k) es i = none := fun es i hne => by
      cases es with
      | nil => exact absurd rfl hne
      | cons x r => rfl
    have hask : ∀ (es : List MapEntry) (i : Nat), (∀ x ∈ es, ∃ q : Bn n, x.key = KN q) → (∃ j x, es[j]? = some x ∧ x.key = KN k ∧ (Instr.findAsking kt (KN k) es i).run P w = .ok (some (i + j, x.val)) w) ∨ ((∀ x ∈ es, x.key ≠ KN k) ∧ (Instr.findAsking kt (KN k) es i).run P w = .ok none w) := by
      intro es
      induction es with
      | nil => intro i _; exact .inr ⟨by simp, rfl⟩
      | cons x r ih =>
        intro i h
        obtain ⟨q, hq⟩ := h x (by simp)
        have hx := heq q
        rw [← hq] at hx
        by_cases hkq : k = q
        · rw [decide_eq_true hkq] at hx
          exact .inl ⟨0, x, rfl, by rw [hq, hkq], by simp [Instr.findAsking, hx]⟩
        · rw [decide_eq_false hkq] at hx
          rcases ih (i + 1) (fun y hy => h y (by simp [hy])) with ⟨j, y, hj, hy, hf⟩ | ⟨hall, hf⟩
          · refine .inl ⟨j + 1, y, by simpa using hj, hy, ?_⟩
            simp [Instr.findAsking, hx, hf]
            omega
          · refine .inr ⟨fun y hy => ?_, by simp [Instr.findAsking, hx, hf]⟩
            rcases List.mem_cons.1 hy with rfl | hy
            · rw [hq]; exact fun e => hkq (Subtype.ext (DV_inj e)).symm
            · exact hall y hy
    cases es with
    | nil => exact .inr ⟨by simp, by simp [Instr.findKey, run_underlying ht, Instr.findNow]⟩
    | cons x r =>
      have h0 := hnow (x :: r) 0 (by simp)
      rcases hask (x :: r) 0 h with ⟨j, y, hj, hy, hf⟩ | ⟨hall, hf⟩
      · refine .inl ⟨j, y, hj, hy, ?_⟩
        simp [Instr.findKey, run_underlying ht, h0, hf]
      · exact .inr ⟨hall, by simp [Instr.findKey, run_underlying ht, h0, hf]⟩
  stays w k := by
    have : Instr.sameBits 10000 (KN k) (KN k) = true := by
      show ((b8s k.1).toArray.size == (b8s k.1).toArray.size && ((b8s k.1).toArray.toList.zip (b8s k.1).toArray.toList).all fun (x, y) => Instr.sameBits 9999 x y) = true
      simp only [beq_self_eq_true, Bool.true_and]
      exact same_u8s 9999 k.1
    simp [Instr.keyThatStays, this]
/-! ### m[k] = f(m[k]): the entry first, then what is stored in it -/
section
variable {κ : Type} [DecidableEq κ] {enc : κ → Value}
def EntAt (enc : κ → Value) (w : World) (b : Nat) (l : List (κ × Value)) (k : κ) (st : Nat) : Prop :=
  ∃ es clock, w.heap[b]? = some (.map es clock) ∧ es.toList.map (fun e => (e.key, e.val)) = l.map (fun p => (enc p.1, p.2)) ∧ (akeys l).Nodup ∧ (∀ e ∈ es.toList, e.born < clock) ∧ (es.toList.map (·.born)).Nodup ∧ ∃ (i : Nat) (x : MapEntry) (u : Value), es.toList[i]? = some x ∧ x.born = st ∧ l[i]? = some (k, u)
def REnt (enc : κ → Value) (b : Nat) (l : List (κ × Value)) (k : κ) (st : Nat) : Res where
  foot i := i = b
  holds w := EntAt enc w b l k st
  keep f h m := by
    obtain ⟨es, clock, hb, rest⟩ := m
    exact ⟨es, clock, (f.block b (lt_of_heap hb) (h b rfl)).trans hb, rest⟩
  low m hk := by
    obtain ⟨es, clock, hb, rest⟩ := m
    exact hk ▸ lt_of_heap hb
theorem aput_aput {l : List (κ × Value)} {k : κ} {u v : Value} : aput (aput l k u) k v = aput l k v := by
  induction l with
  | nil => simp [aput]
  | cons p r ih =>
    obtain ⟨q, x⟩ := p
    by_cases h : q = k
    · simp [aput, h]
    · simp [aput, h, ih]
theorem run_entryM {P : Program} {w : World} {t kt et : TypeId} {b : Nat} {l : List (κ × Value)} {z : Value} {sz bytes : Nat} (ht : P.underlying t = some (.map kt et)) (hT : TI P et z sz bytes) (K : KeyK P kt enc) (h : MapAt enc w b l) (k : κ) :
    ∃ (st : Nat) (w' : World), (Instr.mapEntry t (.map (some b)) (enc k)).run P w = .ok (.tuple #[(aget l k).getD z, .int .i64 (st : Nat)]) w' ∧ EntAt enc w' b (aput l k ((aget l k).getD z)) k st ∧ Fr (fun i => i = b) w w' := by
  have hn := h.keys
  obtain ⟨es, clock, hb, hl, hborn, hnb, hf⟩ := h.found K k
  have hg : (getObj b).run P w = .ok (.map es clock) w := by simp [getObj, Sem.run, hb]
  have hc := K.check w false k
  rcases hf with ⟨i, x, hi, hp, ha, hx, hf⟩ | ⟨ha, hf⟩
  · have hst := K.stays w k
    have hxi : es[i]? = some x := by simpa using hi
    have hsame : es.modify i (fun e => { e with key := enc k }) = es := by
      apply Array.ext'
      apply List.ext_getElem?
      intro j
      rw [Array.toList_modify, List.getElem?_modify]
      by_cases hij : i = j
      · subst hij
        rw [hi]
        show some (if i = i then ({ x with key := enc k } : MapEntry) else x) = some x
        rw [if_pos rfl, ← hx]
      · simp [hij]
    refine ⟨x.born, setBlock w b (.map es clock), ?_, ⟨es, clock, setBlock_at hb, ?_, aput_nodup hn, hborn, hnb, i, x, x.val, hi, rfl, ?_⟩, setBlock_fr⟩
    · rw [ha]
      simp [Instr.mapEntry, run_underlying ht, hg, hc, hf, hxi, hx, hst, hsame, run_setObjM hb, goInt]
    · rw [ha, aput_at hn hp, hl]
      congr 1
      apply List.ext_getElem?
      intro j
      rw [List.getElem?_set]
      by_cases hij : i = j
      · subst hij
        rw [if_pos rfl, if_pos (List.getElem?_eq_some_iff.1 hp).1, hp]
        rfl
      · rw [if_neg hij]
    · rw [ha, aput_at hn hp, List.getElem?_set, if_pos rfl, if_pos (List.getElem?_eq_some_iff.1 hp).1]
      rfl
  · have hlen : es.toList.length = l.length := by have := congrArg List.length hl; simpa using this
    refine ⟨clock, setBlock w b (.map (es.push { key := enc k, val := z, born := clock }) (clock + 1)), ?_, ⟨_, _, setBlock_at hb, ?_, aput_nodup hn, ?_, ?_, es.toList.length, { key := enc k, val := z, born := clock }, z, by simp, rfl, ?_⟩, setBlock_fr⟩
    · rw [ha]
      simp [Instr.mapEntry, run_underlying ht, hg, hc, hf, run_zero hT, run_setObjM hb, goInt]
    · rw [ha, aput_new ha, Array.toList_push, List.map_append, hl]
      simp
    · intro e he
      rw [Array.toList_push] at he
      rcases List.mem_append.1 he with he | he
      · have := hborn e he; omega
      · rcases List.mem_singleton.1 he with rfl
        exact Nat.lt_succ_self _
    · rw [Array.toList_push, List.map_append]
      refine nodup_snoc hnb (fun hm => ?_)
      obtain ⟨e, he, hk⟩ := List.mem_map.1 hm
      have := hborn e he
      simp only at hk
      omega
    · rw [ha, aput_new ha, hlen]
      simp
theorem run_estoreM {P : Program} {w : World} {t : TypeId} {b : Nat} {l : List (κ × Value)} {k : κ} {st : Nat} (h : EntAt enc w b l k st) (v : Value) :
    ∃ w', (Instr.entryStore t (.map (some b)) (.int .i64 (st : Nat)) v).run P w = .ok () w' ∧ MapAt enc w' b (aput l k v) ∧ Fr (fun i => i = b) w w' := by
  obtain ⟨es, clock, hb, hl, hn, hborn, hnb, i, x, u, hi, rfl, hp⟩ := h
  have hg : (getObj b).run P w = .ok (.map es clock) w := by simp [getObj, Sem.run, hb]
  have hidx : es.findIdx? (fun e => ((e.born : Nat) : Int) == ((x.born : Nat) : Int)) = some i := by
    rw [WideElems.findIdx_arr]
    exact WideElems.findIdx_born hnb hi
  refine ⟨setBlock w b (.map (es.modify i fun e => { e with val := v }) clock), ?_, ⟨_, clock, setBlock_at hb, ?_, aput_nodup hn, ?_, ?_⟩, setBlock_fr⟩
  · simp [Instr.entryStore, hg, asInt, asIntOf, hidx, run_setObjM hb]
  · rw [aput_at hn hp, Array.toList_modify]
    apply List.ext_getElem?
    intro j
    have hj := congrArg (fun q : List (Value × Value) => q[j]?) hl
    simp only [List.getElem?_map] at hj
    simp only [List.getElem?_map, List.getElem?_modify, List.getElem?_set]
    by_cases hij : i = j
    · subst hij
      have hlt := (List.getElem?_eq_some_iff.1 hp).1
      rw [hi, hp] at hj
      simp only [Option.map_some, Option.some.injEq, Prod.mk.injEq] at hj
      simp [hi, hlt, hj.1]
    · simp only [hij, if_false]
      simpa using hj
  · intro e he
    rw [Array.toList_modify] at he
    obtain ⟨j, hj⟩ := List.mem_iff_getElem?.1 he
    rw [List.getElem?_modify] at hj
    cases hej : es.toList[j]? with
    | none => rw [hej] at hj; simp at hj
    | some e0 =>
      have := hborn e0 (List.mem_of_getElem? hej)
      rw [hej] at hj
      simp only [Option.map_eq_map, Option.map_some, Option.some.injEq] at hj
      subst hj
      split <;> exact this
  · have : (es.modify i fun e => { e with val := v }).toList.map (·.born) = es.toList.map (·.born) := by
      apply List.ext_getElem?
      intro j
      rw [Array.toList_modify]
      simp only [List.getElem?_map, List.getElem?_modify]
      cases es.toList[j]? with
      | none => rfl
      | some e0 => simp only [Option.map_eq_map, Option.map_some]; split <;> rfl
    rw [this]
    exact hnb
section
variable {P : Program} {Q : Exit → Act → World → Prop} {N : Nat} {D : List Deferred} {ρ : Env} {b : Base} {X S : List Res} {ty t kt et : TypeId} {x y q : Operand} {K : Value → List Res → List Res → Prop} {g : Nat} {l : List (κ × Value)}
theorem xh_entry {k : κ} {z : Value} {sz bytes : Nat} (i : Nat) (hi : X[i]? = some (RMap enc g l)) (hx : ev ρ x = some (.map (some g))) (hy : ev ρ y = some (enc k)) (ht : P.underlying t = some (.map kt et)) (hT : TI P et z sz bytes) (hK : KeyK P kt enc)
    (kk : ∀ st : Nat, K (.tuple #[(aget l k).getD z, .int .i64 (st : Nat)]) (REnt enc g (aput l k ((aget l k).getD z)) k st :: X.eraseIdx i) S) : XH P Q N D ρ b X S (.mapEntry t x y) ty K := fun w m => by
  obtain ⟨st, w', hrun, hE, hf⟩ := run_entryM ht hT hK (m.mapX i hi) k
  refine xw_of_run (v' := .tuple #[(aget l k).getD z, .int .i64 (st : Nat)]) (w' := w') (fun a _ _ _ _ ha => by simp [execOp, ha.eval hx, ha.eval hy, hrun]) ⟨_, _, ?_, kk st⟩
  have m' := m.perm (takeR_perm [i] X [RMap enc g l] (X.eraseIdx i) (by simp [takeR, hi]))
  exact m'.change (r' := REnt enc g (aput l k ((aget l k).getD z)) k st) hf hE (fun k hk => .inl hk)
theorem xh_estore {k : κ} {st : Nat} {v : Value} (i : Nat) (hi : X[i]? = some (REnt enc g l k st)) (hx : ev ρ x = some (.map (some g))) (hy : ev ρ y = some (.int .i64 (st : Nat))) (hq : ev ρ q = some v)
    (kk : K undef (RMap enc g (aput l k v) :: X.eraseIdx i) S) : XH P Q N D ρ b X S (.entryStore t x y q) ty K := fun w m => by
  have hE : EntAt enc w g l k st := m.hx _ (List.mem_of_getElem? hi)
  obtain ⟨w', hrun, hM, hf⟩ := run_estoreM (P := P) (t := t) hE v
  refine xw_of_run0 (w' := w') (fun a _ _ _ _ ha => by simp [execOp, ha.eval hx, ha.eval hy, ha.eval hq, hrun]) ⟨_, _, ?_, kk⟩
  have m' := m.perm (takeR_perm [i] X [REnt enc g l k st] (X.eraseIdx i) (by simp [takeR, hi]))
  exact m'.change (r' := RMap enc g (aput l k v)) hf hM (fun k hk => .inl hk)
end
end
end Go.Eng
end
