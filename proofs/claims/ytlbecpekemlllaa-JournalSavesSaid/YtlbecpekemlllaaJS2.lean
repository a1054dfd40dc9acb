/- What the claim leans on, part 2. -/
import Derived.Test.YtlbecpekemlllaaJS1
import Derived.Lib.BytesEntry
import Derived.Lib.IndexAny
import Derived.ProofKit
import Derived.OpenShut
import Derived.ShutString
import Derived.ChangeOld
import Derived.SizedLaws
import Derived.ChangeSame
section
/- Contracts: the check sum, of the program and of the reference. -/
set_option linter.unusedVariables false
set_option linter.unusedSimpArgs false
set_option maxRecDepth 20000
namespace Go.Proofs.Ytlbecpekemlllaa
open Go.Eng Go.Hx
theorem crcStep (g : Nat) (bt : TypeId) (x : Nat) (hx : x < 4294967296) (w : World) (hb : Blk w g bt [.int .u32 (x : Int)]) :
    Calls Try.prog 68 #[.pointer (some ⟨g, 0, none⟩)] w fun e w' => e = .returned (.tuple #[]) ∧ Fr (fun i => i = g) w w' ∧ Blk w' g bt [.int .u32 (cstep x : Nat)] := by
  have hc : w.cell? ⟨g, 0, none⟩ = some (.int .u32 (x : Int)) := hb.cell rfl
  have h3 : (0 : Int) ≤ 2197175160 * ((x % 2 : Nat) : Int) ∧ 2197175160 * ((x % 2 : Nat) : Int) < 4294967296 := by omega
  refine enter (N := 9) Try.func68 rfl rfl (by simp) ?_
  refine cseq <| creg <| nq (y_ld1 rfl ag100 hc) <| nq (y_bits (by simp) rfl rfl (and1 x hx)) <| nq (y_assign rfl) <| nend <| qsub (sub_cons (t := 1) rfl <| sub_cons (t := 0) rfl <| sub_nil) <| qthen <| creg <| nq (y_ld1 rfl ag100 hc) <| nq (y_shr (p := 2) rfl rfl (by decide) (by decide) (by decide)) <| nq (y_move rfl) <| nq (y_mul rfl rfl (w32 h3.1 h3.2)) <| nq (y_bits (by simp) rfl rfl (xor_step x hx)) <| ?_
  refine nx0 (x_st1 rfl rfl sz100 rfl hb (by simp) fun w1 hf1 hb1 hs1 => ?_)
  refine nend <| qsub (sub_cons (t := 1) rfl <| sub_cons (t := 0) rfl <| sub_nil) <| ?_
  exact ret0 trivial rfl ⟨rfl, hf1, hb1⟩
theorem crcSteps (x n : Nat) (hx : x < 4294967296) (hn : n ≤ 1000000) (w : World) :
    Calls Try.prog 65 #[.int .u32 (x : Int), .int .i64 (n : Int)] w fun e w' => e = .returned (.int .u32 (csteps n x : Nat)) ∧ Fr No w w' := by
  refine enter (N := 14) Try.func65 rfl rfl (by simp) ?_
  refine cseq <| creg <| ?_
  refine nx (x_box rfl fun g w1 hg hf1 hb1 => ?_)
  refine nq (y_assign rfl) <| nend <| qthen <| cseq <| creg <| nq (y_mkf rfl rfl) <| nq (y_assign rfl) <| nend <| qsub (sub_cons (t := 5) rfl <| sub_cons (t := 4) rfl <| sub_cons (t := 2) rfl <| sub_cons (t := 0) rfl <| sub_cons (t := 1) rfl <| sub_nil) <| qthen <| cseq <| cseq <| creg <| nq (y_move rfl) <| nq (y_move rfl) <| nend <| qthen <| cblock <| ?_
  refine cloop1 (fun k => n - k) (fun k => [(2, .pointer (some ⟨g, 0, none⟩)), (5, .func (.func 68) #[] #[.pointer (some ⟨g, 0, none⟩)]), (7, .int .i64 (n : Int)), (8, .int .i64 (k : Nat))]) (fun k w' => k ≤ n ∧ Fr No w w' ∧ Blk w' g 100 [.int .u32 (csteps k x : Nat)]) 0 (⟨Nat.zero_le _, hf1, hb1⟩) (sub_cons (t := 2) rfl <| sub_cons (t := 5) rfl <| sub_cons (t := 7) rfl <| sub_cons (t := 8) rfl <| sub_nil) (fun k w2 ⟨hk, hf2, hb2⟩ => ?_)
  refine cseq <| creg <| nq (y_lss rfl rfl) <| nend <| qthen <| cseq <| ?_
  refine cif rfl (fun h => ?_) (fun h => ?_)
  · refine cskip <| qthen <| cseq <| cblock <| creg <| nq (y_move rfl) <| ?_
    refine nx (x_callv rfl rfl Try.call68 (first := []) (cap := [_]) (crcStep g _ _ (csteps_lt hx k) _ hb2) ?_)
    rintro e_ w3 ⟨rfl, hf3, hb3⟩
    refine ⟨_, rfl, ?_⟩
    refine nend <| qsub (sub_cons (t := 9) rfl <| sub_cons (t := 2) rfl <| sub_cons (t := 5) rfl <| sub_cons (t := 7) rfl <| sub_cons (t := 8) rfl <| sub_nil) <| qblock <| qthen <| creg <| nq (y_add rfl rfl (w64 (by omega) (by omega))) <| nq (y_move rfl) <| nend <| qsub (sub_cons (t := 8) rfl <| sub_cons (t := 9) rfl <| sub_cons (t := 2) rfl <| sub_cons (t := 5) rfl <| sub_cons (t := 7) rfl <| sub_nil) <| ?_
    refine qloop1 (k + 1) (sub_cons (t := 2) rfl <| sub_cons (t := 5) rfl <| sub_cons (t := 7) rfl <| sub_cons (t := 8) rfl <| sub_nil) (⟨by omega, hf2.new hf3 (fun i hi => by omega), hb3⟩) (by omega)
  · obtain rfl : k = n := by omega
    refine cexit <| qthen_exit <| qthen_exit <| qblock_exit <| qthen <| cseq <| creg <| nq (y_ld1 rfl ag100 ((hb2.cell rfl))) <| nq (y_assign rfl) <| nend <| qsub (sub_cons (t := 4) rfl <| sub_cons (t := 9) rfl <| sub_cons (t := 2) rfl <| sub_cons (t := 5) rfl <| sub_cons (t := 7) rfl <| sub_cons (t := 8) rfl <| sub_nil) <| qthen <| cret <| ?_
    exact ret1 trivial rfl rfl ⟨rfl, hf2⟩
theorem crcMore (A : Option Addr) (n c : Nat) (l : List UInt8) (s : Nat) (hs : s < 4294967296) (w : World) (hr : Rd w 1 A n (b8s l)) (hn : n ≤ 140737488351232) :
    Calls Try.prog 61 #[.int .u32 (s : Int), .slice A n c] w fun e w' => e = .returned (.int .u32 (4294967295 - cmore (4294967295 - s) l : Nat)) ∧ Fr No w w' := by
  have hl : l.length = n := by have := hr.1; rw [b8s_length] at this; omega
  refine enter (N := 25) Try.func61 rfl rfl (by simp) ?_
  refine cseq <| creg <| nq (y_assign rfl) <| nend <| qthen <| cseq <| creg <| nq (y_move rfl) <| nq (yV (y_inv32 rfl hs) (congrArg (fun n : Nat => Value.int .u32 (n : Int)) (xor_ones hs))) <| nq (y_assign rfl) <| nend <| qsub (sub_cons (t := 5) rfl <| sub_cons (t := 4) rfl <| sub_cons (t := 0) rfl <| sub_cons (t := 1) rfl <| sub_nil) <| qthen <| cseq <| cseq <| creg <| nq (y_move rfl) <| nq (y_lenS rfl Try.underlying47) <| nq (y_move rfl) <| nend <| qsub (sub_cons (t := 11) rfl <| sub_cons (t := 10) rfl <| sub_cons (t := 5) rfl <| sub_cons (t := 4) rfl <| sub_cons (t := 0) rfl <| sub_cons (t := 1) rfl <| sub_nil) <| qthen <| cblock <| ?_
  refine cloop1 (fun k => n - k) (fun k => [(1, .slice A n c), (5, .int .u32 (cmore (4294967295 - s) (l.take k) : Nat)), (10, .int .i64 (n : Int)), (11, .int .i64 (k : Nat))]) (fun k w' => k ≤ n ∧ Fr No w w') 0 (⟨Nat.zero_le _, Fr.refl _ _⟩) (sub_cons (t := 1) rfl <| sub_cons (t := 5) rfl <| sub_cons (t := 10) rfl <| sub_cons (t := 11) rfl <| sub_nil) (fun k w2 ⟨hk, hf2⟩ => ?_)
  refine cseq <| creg <| nq (y_lss rfl rfl) <| nend <| qthen <| cseq <| ?_
  refine cif rfl (fun h => ?_) (fun h => ?_)
  · have hkn : k < l.length := by omega
    have hm := cmore_lt (n := 4294967295 - s) (by omega) (l.take k)
    have hbt := (l.getD k 0).toNat_lt
    have r2 := hr.fr0 hf2
    refine cskip <| qthen <| cseq <| cblock <| cseq <| creg <| nq (y_move rfl) <| nq (y_assign rfl) <| nend <| qsub (sub_cons (t := 6) rfl <| sub_cons (t := 12) rfl <| sub_cons (t := 1) rfl <| sub_cons (t := 5) rfl <| sub_cons (t := 10) rfl <| sub_cons (t := 11) rfl <| sub_nil) <| qthen <| creg <| nq (y_move rfl) <| nq (y_move rfl) <| nq (y_move rfl) <| nq (y_idxS1 rfl rfl Try.underlying47 sz5 r2.2.1 rfl (by omega)) <| nq (y_ld1 rfl ag5 (r2.cell (b8s_get hkn))) <| nq (y_conv rfl Try.underlying5 Try.underlying100 ((w32 (by omega) (by omega)))) <| nq (y_bits (by simp) rfl rfl (xor_byte _ hm _)) <| ?_
    refine nx (x_call rfl Try.call65 (crcSteps _ 8 (xor_byte_lt hm _) (by decide) _) ?_)
    rintro e_ w3 ⟨rfl, hf3⟩
    refine ⟨_, rfl, ?_⟩
    rw [← cmore_snoc, ← Go.Hx.take_snoc hkn]
    refine nq (y_assign rfl) <| nend <| qsub (sub_cons (t := 5) rfl <| sub_cons (t := 6) rfl <| sub_cons (t := 12) rfl <| sub_cons (t := 1) rfl <| sub_cons (t := 10) rfl <| sub_cons (t := 11) rfl <| sub_nil) <| qblock <| qthen <| creg <| nq (y_add rfl rfl (w64 (by omega) (by omega))) <| nq (y_move rfl) <| nend <| qsub (sub_cons (t := 11) rfl <| sub_cons (t := 5) rfl <| sub_cons (t := 6) rfl <| sub_cons (t := 12) rfl <| sub_cons (t := 1) rfl <| sub_cons (t := 10) rfl <| sub_nil) <| ?_
    refine qloop1 (k + 1) (sub_cons (t := 1) rfl <| sub_cons (t := 5) rfl <| sub_cons (t := 10) rfl <| sub_cons (t := 11) rfl <| sub_nil) (⟨by omega, hf2.trans0 hf3⟩) (by omega)
  · obtain rfl : k = n := by omega
    have hm := cmore_lt (n := 4294967295 - s) (by omega) (l.take k)
    refine cexit <| qthen_exit <| qthen_exit <| qblock_exit <| qthen <| cseq <| creg <| nq (y_move rfl) <| nq (y_inv32 rfl hm) <| nq (y_assign rfl) <| nend <| qsub (sub_cons (t := 4) rfl <| sub_cons (t := 12) rfl <| sub_cons (t := 1) rfl <| sub_cons (t := 5) rfl <| sub_cons (t := 10) rfl <| sub_cons (t := 11) rfl <| sub_nil) <| qthen <| cret <| ?_
    rw [List.take_of_length_le (by omega)] at hm ⊢
    rw [xor_ones hm]
    exact ret1 trivial rfl rfl ⟨rfl, hf2⟩
theorem crcSum_c (A : Option Addr) (n c : Nat) (l : List UInt8) (w : World) (hr : Rd w 1 A n (b8s l)) (hn : n ≤ 140737488351232) :
    Calls Try.prog 55 #[.slice A n c] w fun e w' => e = .returned (.int .u32 (crcSum l : Nat)) ∧ Fr No w w' := by
  refine enter (N := 5) Try.func55 rfl rfl (by simp) ?_
  refine cseq <| creg <| nq (y_assign rfl) <| nend <| qthen <| cseq <| creg <| nq (y_move rfl) <| ?_
  refine nx (x_call rfl Try.call61 (crcMore A n c l 0 (by decide) w hr hn) ?_)
  rintro e_ w1 ⟨rfl, hf1⟩
  refine ⟨_, rfl, ?_⟩
  refine nq (y_assign rfl) <| nend <| qsub (sub_cons (t := 2) rfl <| sub_cons (t := 0) rfl <| sub_nil) <| qthen <| cret <| ?_
  exact ret1 trivial rfl rfl ⟨rfl, hf1⟩
theorem clone (A : Option Addr) (n c : Nat) (l : List UInt8) (w : World) (hr : Rd w 1 A n (b8s l)) (hn : n ≤ 140737488351232) :
    Calls Try.prog 36 #[.slice A n c] w fun e w' => ∃ v, e = .returned v ∧ Own w' w.heap.size 5 1 v n (b8s l) ∧ Fr No w w' := by
  have hl : l.length = n := by have := hr.1; rw [b8s_length] at this; omega
  refine enter (N := 8) Try.func36 rfl rfl (by simp) ?_
  refine cseq <| creg <| nq (y_assign rfl) <| nend <| qthen <| cseq <| cseq <| creg <| nq (y_move rfl) <| nq (y_eqSn rfl rfl Try.underlying47) <| nend <| qsub (sub_cons (t := 4) rfl <| sub_cons (t := 2) rfl <| sub_cons (t := 0) rfl <| sub_nil) <| qthen <| ?_
  cases A with
  | none =>
    have h0 : n = 0 := by
      rcases Nat.eq_zero_or_pos n with h | h
      · exact h
      · exact absurd rfl (hr.2.1 h)
    subst h0
    obtain rfl : l = [] := List.eq_nil_of_length_eq_zero hl
    refine cift rfl (rfl) ?_
    refine cseq <| creg <| nq (y_assign rfl) <| nend <| qthen <| cret <| qthen_ret <| ?_
    exact ret1 trivial rfl rfl ⟨_, rfl, Own.nil _ _ _ _, Fr.refl _ _⟩
  | some a =>
    refine ciff rfl (rfl) ?_
    refine cskip <| qthen <| cseq <| creg <| ?_
    refine nx (x_bsl0 Try.underlying47 ti5 fun g w1 hg hf1 hb1 => ?_)
    refine nq (y_move rfl) <| ?_
    refine nx (x_app rfl rfl Try.underlying47 Try.underlying47 (by exact .inl rfl) ti5 rfl (Own.made0 hb1 hg) (Src.of_rd (hr.fr0 hf1)) b8s_oneCell (by unfold maxLen; omega) (by omega) hf1.size fun v w2 ho hf2 hv => ?_)
    refine nq (y_assign rfl) <| nend <| qsub (sub_cons (t := 2) rfl <| sub_cons (t := 4) rfl <| sub_cons (t := 0) rfl <| sub_nil) <| qthen <| cret <| ?_
    refine ret1 trivial rfl rfl ⟨v, rfl, ?_, hf1.new hf2 (fun i hi => by have : i = g := hi; omega)⟩
    simpa using ho
theorem crcPut (A : Option Addr) (n c : Nat) (l : List UInt8) (w : World) (hr : Rd w 1 A n (b8s l)) (hn : n ≤ 70368744177664) :
    Calls Try.prog 40 #[.slice A n c] w fun e w' => ∃ v, e = .returned v ∧ Own w' w.heap.size 5 1 v (n + 4) (b8s (putL l)) ∧ Fr No w w' := by
  have hl : l.length = n := by have := hr.1; rw [b8s_length] at this; omega
  refine enter (N := 20) Try.func40 rfl rfl (by simp) ?_
  refine cseq <| creg <| nq (y_assign rfl) <| nend <| qthen <| cseq <| creg <| nq (y_move rfl) <| ?_
  refine nx (x_call rfl Try.call55 (crcSum_c A n c l w hr (by omega)) ?_)
  rintro e_ w1 ⟨rfl, hf1⟩
  refine ⟨_, rfl, ?_⟩
  refine nq (y_assign rfl) <| nend <| qsub (sub_cons (t := 3) rfl <| sub_cons (t := 2) rfl <| sub_cons (t := 0) rfl <| sub_nil) <| qthen <| cseq <| creg <| nq (y_move rfl) <| ?_
  refine nx (x_call rfl Try.call36 (clone A n c l w1 (hr.fr0 hf1) (by omega)) ?_)
  rintro e_ w2 ⟨v, rfl, hv, hf2⟩
  refine ⟨_, rfl, ?_⟩
  have hlt := crcSum_lt l
  have hv := hv.wide (b := w.heap.size) hf1.size
  refine nq (y_assign rfl) <| nend <| qsub (sub_cons (t := 4) rfl <| sub_cons (t := 3) rfl <| sub_cons (t := 2) rfl <| sub_cons (t := 0) rfl <| sub_nil) <| qthen <| cseq <| cseq <| creg <| nq (y_move rfl) <| nend <| qthen <| cblock <| ?_
  refine cloop2 (fun k _ => 4 - k) (fun k v => [(3, .int .u32 (shr8 k (crcSum l) : Nat)), (4, v), (9, .int .i64 (k : Nat))]) (fun k v w' => k ≤ 4 ∧ Own w' w.heap.size 5 1 v (n + k) (b8s (l ++ lek k (crcSum l))) ∧ Fr No w w') 0 v (⟨Nat.zero_le _, by simpa [lek] using hv, hf1.trans0 hf2⟩) (sub_cons (t := 3) rfl <| sub_cons (t := 4) rfl <| sub_cons (t := 9) rfl <| sub_nil) (fun k v w3 ⟨hk, ho, hf⟩ => ?_)
  refine cseq <| creg <| nq (y_lss rfl rfl) <| nend <| qthen <| cseq <| ?_
  refine cif rfl (fun h => ?_) (fun h => ?_)
  · have hs8 := shr8_lt hlt k
    refine cskip <| qthen <| cseq <| cblock <| cseq <| creg <| nq (y_move rfl) <| nq (y_move rfl) <| nq (y_conv rfl Try.underlying100 Try.underlying5 ((u8mod _))) <| ?_
    refine nx (x_bsl Try.underlying47 ti5 rfl rfl rfl (by simp [Value.cells, B8]) (by decide) (by decide) fun g w4 hg hf4 hb4 => ?_)
    refine nx (x_app rfl rfl Try.underlying47 Try.underlying47 (by exact .inl rfl) ti5 rfl (ho.fr0 hf4) (Src.of_blk hb4 rfl) (b8s_one (l := [_])) (by unfold maxLen; omega) (by omega) (hf.trans0 hf4).size fun v5 w5 ho5 hf5 hv5 => ?_)
    refine nq (y_assign rfl) <| nend <| qsub (sub_cons (t := 4) rfl <| sub_cons (t := 10) rfl <| sub_cons (t := 3) rfl <| sub_cons (t := 9) rfl <| sub_nil) <| qthen <| creg <| nq (y_move rfl) <| nq (y_shr (p := 256) rfl rfl (by decide) (by decide) (by decide)) <| nq (y_assign rfl) <| nend <| qsub (sub_cons (t := 3) rfl <| sub_cons (t := 4) rfl <| sub_cons (t := 10) rfl <| sub_cons (t := 9) rfl <| sub_nil) <| qblock <| qthen <| creg <| nq (y_add rfl rfl (w64 (by omega) (by omega))) <| nq (y_move rfl) <| nend <| qsub (sub_cons (t := 9) rfl <| sub_cons (t := 3) rfl <| sub_cons (t := 4) rfl <| sub_cons (t := 10) rfl <| sub_nil) <| ?_
    refine qloop2 (k + 1) v5 (sub_cons (t := 3) rfl <| sub_cons (t := 4) rfl <| sub_cons (t := 9) rfl <| sub_nil) (⟨by omega, by rw [lek_succ, ← List.append_assoc, b8s_append]; exact ho5, (hf.trans0 hf4).new hf5 (fun i hi => (ho.from hi).1)⟩) (by omega)
  · obtain rfl : k = 4 := by omega
    refine cexit <| qthen_exit <| qthen_exit <| qblock_exit <| qthen <| cseq <| creg <| nq (y_move rfl) <| nq (y_assign rfl) <| nend <| qsub (sub_cons (t := 2) rfl <| sub_cons (t := 10) rfl <| sub_cons (t := 3) rfl <| sub_cons (t := 4) rfl <| sub_cons (t := 9) rfl <| sub_nil) <| qthen <| cret <| ?_
    rw [lek_four] at ho
    exact ret1 trivial rfl rfl ⟨v, rfl, ho, hf⟩
end Go.Proofs.Ytlbecpekemlllaa
end
section
/- Contracts: bytes.Equal, crc.Take, the reference's Take, strings.CutPrefix. -/
set_option linter.unusedVariables false
set_option linter.unusedSimpArgs false
set_option maxRecDepth 20000
namespace Go.Proofs.Ytlbecpekemlllaa
open Go.Eng Go.Hx
theorem bytesEqual (A : Option Addr) (n c : Nat) (l : List UInt8) (A' : Option Addr) (n' c' : Nat) (l' : List UInt8) (w : World) (hr : Rd w 1 A n (b8s l)) (hr' : Rd w 1 A' n' (b8s l')) :
    Calls Try.prog 52 #[.slice A n c, .slice A' n' c'] w fun e w' => e = .returned (.bool (decide (l = l'))) ∧ w = w' := by
  refine enter (N := 10) Try.func52 rfl rfl (by simp) ?_
  refine cseq <| creg <| nq (y_assign rfl) <| nend <| qthen <| cseq <| creg <| nq (y_move rfl) <| nq (y_b2s rfl Try.underlying47 Try.underlying5 Try.underlying9 hr) <| nq (y_move rfl) <| nq (y_b2s rfl Try.underlying47 Try.underlying5 Try.underlying9 hr') <| nq (y_seq rfl rfl) <| nq (y_assign rfl) <| nend <| qsub (sub_cons (t := 4) rfl <| sub_cons (t := 0) rfl <| sub_cons (t := 1) rfl <| sub_nil) <| qthen <| cret <| ?_
  refine ret1 trivial rfl rfl ⟨?_, rfl⟩
  simp only [strOf_inj]
def takeE (l : List UInt8) : Int := if l.length < 4 then 2 else if putL (l.take (l.length - 4)) = l then 0 else 7
theorem Rd.takeB {w : World} {A : Option Addr} {n : Nat} {l : List UInt8} (h : Rd w 1 A n (b8s l)) {k : Nat} (hk : k ≤ n) : Rd w 1 A k (b8s (l.take k)) := by
  have := Rd.take h hk
  rwa [Nat.mul_one, ← b8s_take] at this
theorem hasPrefix (s p : List UInt8) (w : World) (hs : s.length ≤ 70368744177664) (hp : p.length ≤ 70368744177664) :
    Calls Try.prog 60 #[.string (strOf s), .string (strOf p)] w fun e w' => e = .returned (.bool (decide (s.take p.length = p))) ∧ w = w' := by
  have h1 := strOf_size s
  have h2 := strOf_size p
  refine enter (N := 18) Try.func60 rfl rfl (by simp) ?_
  refine cseq <| creg <| nq (y_assign rfl) <| nend <| qthen <| cseq <| creg <| nq (y_move rfl) <| nq (y_lenStr rfl Try.underlying9) <| nq (y_move rfl) <| nq (y_lenStr rfl Try.underlying9) <| nq (y_geq rfl rfl) <| nq (y_move rfl) <| ?_
  refine nsplit 10 rfl (fun h => ?_) (fun h => ?_)
  · refine ng rfl rfl rfl (y_move rfl) <| ng rfl rfl rfl (y_move rfl) <| ng rfl rfl rfl (y_lenStr rfl Try.underlying9) <| ng rfl rfl rfl (y_strTo rfl rfl Try.underlying9 (show ((p.length : Nat) : Int) = _ by omega) ((by rw [bytesOf_strOf]; omega))) <| ng rfl rfl rfl (y_move rfl) <| ng rfl rfl rfl (y_seq rfl rfl) <| nq (y_pickT rfl rfl) <| nq (y_assign rfl) <| nend <| qsub (sub_cons (t := 4) rfl <| sub_cons (t := 0) rfl <| sub_cons (t := 1) rfl <| sub_nil) <| qthen <| cret <| ?_
    refine ret1 trivial rfl rfl ⟨?_, rfl⟩
    rw [bytesOf_strOf]
    simp only [strOf_inj]
  · have hne : ¬ s.take p.length = p := fun e => by
      have := congrArg List.length e
      rw [List.length_take] at this
      omega
    refine nskip rfl rfl rfl (by decide) <| nskip rfl rfl rfl (by decide) <| nskip rfl rfl rfl (by decide) <| nskip rfl rfl rfl (by decide) <| nskip rfl rfl rfl (by decide) <| nskip rfl rfl rfl (by decide) <| nq (y_pickF rfl rfl) <| nq (y_assign rfl) <| nend <| qsub (sub_cons (t := 4) rfl <| sub_cons (t := 0) rfl <| sub_cons (t := 1) rfl <| sub_nil) <| qthen <| cret <| ?_
    refine ret1 trivial rfl rfl ⟨?_, rfl⟩
    rw [decide_eq_false hne]
theorem cutPrefix1 (s p : List UInt8) (w : World) (hs : s.length ≤ 70368744177664) (hp : p.length ≤ 70368744177664) :
    Calls Try.prog 53 #[.string (strOf s), .string (strOf p)] w fun e w' => e = .returned (.tuple #[.string (strOf (if s.take p.length = p then s.drop p.length else s)), .bool (decide (s.take p.length = p))]) ∧ w = w' := by
  have h1 := strOf_size s
  have h2 := strOf_size p
  refine enter (N := 15) Try.func53 rfl rfl (by simp) ?_
  refine cseq <| creg <| nq (y_assign rfl) <| nq (y_assign rfl) <| nend <| qthen <| cseq <| cseq <| creg <| nq (y_move rfl) <| nq (y_move rfl) <| ?_
  refine nx (x_call rfl Try.call60 (hasPrefix s p w hs hp) ?_)
  rintro e_ w1 ⟨rfl, rfl⟩
  refine ⟨_, rfl, ?_⟩
  refine nq ((y_notp rfl)) <| nend <| qsub (sub_cons (t := 9) rfl <| sub_cons (t := 5) rfl <| sub_cons (t := 4) rfl <| sub_cons (t := 0) rfl <| sub_cons (t := 1) rfl <| sub_nil) <| qthen <| ?_
  refine cif rfl (fun h => ?_) (fun h => ?_)
  · refine cseq <| creg <| nq (y_move rfl) <| nq (y_assign rfl) <| nq (y_assign rfl) <| nend <| qsub (sub_cons (t := 5) rfl <| sub_cons (t := 4) rfl <| sub_cons (t := 9) rfl <| sub_cons (t := 0) rfl <| sub_cons (t := 1) rfl <| sub_nil) <| qthen <| cret <| qthen_ret <| ?_
    refine ret2 trivial rfl rfl rfl ⟨?_, rfl⟩
    rw [if_neg h, decide_eq_false h]
  · have h3 := Decidable.not_not.1 h
    have h4 : p.length ≤ s.length := by have := congrArg List.length h3; rw [List.length_take] at this; omega
    refine cskip <| qthen <| cseq <| creg <| nq (y_move rfl) <| nq (y_move rfl) <| nq (y_lenStr rfl Try.underlying9) <| nq (y_strFrom rfl rfl Try.underlying9 (show ((p.length : Nat) : Int) = _ by omega) ((by rw [bytesOf_strOf]; omega))) <| nq (y_assign rfl) <| nq (y_assign rfl) <| nend <| qsub (sub_cons (t := 5) rfl <| sub_cons (t := 4) rfl <| sub_cons (t := 9) rfl <| sub_cons (t := 0) rfl <| sub_cons (t := 1) rfl <| sub_nil) <| qthen <| cret <| ?_
    refine ret2 trivial rfl rfl rfl ⟨?_, rfl⟩
    rw [if_pos h3, decide_eq_true h3, bytesOf_strOf]
theorem cutPrefix (s p : List UInt8) (w : World) (hs : s.length ≤ 70368744177664) (hp : p.length ≤ 70368744177664) :
    Calls Try.prog 38 #[.string (strOf s), .string (strOf p)] w fun e w' => e = .returned (.tuple #[.string (strOf (if s.take p.length = p then s.drop p.length else s)), .bool (decide (s.take p.length = p))]) ∧ w = w' := by
  refine enter (N := 11) Try.func38 rfl rfl (by simp) ?_
  refine cseq <| creg <| nq (y_assign rfl) <| nq (y_assign rfl) <| nend <| qthen <| cseq <| creg <| nq (y_move rfl) <| nq (y_move rfl) <| ?_
  refine nx (x_call rfl Try.call53 (cutPrefix1 s p w hs hp) ?_)
  rintro e_ w1 ⟨rfl, rfl⟩
  refine ⟨_, rfl, ?_⟩
  refine nq (y_extract rfl rfl) <| nq (y_extract rfl rfl) <| nq (y_assign rfl) <| nq (y_assign rfl) <| nend <| qsub (sub_cons (t := 5) rfl <| sub_cons (t := 4) rfl <| sub_cons (t := 0) rfl <| sub_cons (t := 1) rfl <| sub_nil) <| qthen <| cret <| ?_
  exact ret2 trivial rfl rfl rfl ⟨rfl, rfl⟩
end Go.Proofs.Ytlbecpekemlllaa
end
section
/- Contracts over things in memory, from contracts over worlds: bytes, sums, digests. -/
set_option linter.unusedVariables false
set_option linter.unusedSimpArgs false
set_option maxRecDepth 20000
namespace Go.Proofs.Ytlbecpekemlllaa
open Go.Eng Go.Hx
theorem bytesEqualC {A A1 : Option Addr} {n c n1 c1 : Nat} {l l1 : List UInt8} : Con Try.prog 52 [.slice A n c, .slice A1 n1 c1] [] [RRd 1 A n (b8s l), RRd 1 A1 n1 (b8s l1)] (fun v_ X_ S_ => v_ = (.bool (decide (l = l1))) ∧ X_ = [] ∧ S_ = []) := by
  exact con_pure fun m => Calls.mono (bytesEqual A n c l A1 n1 c1 l1 _ (m.rd 0 rfl) (m.rd 1 rfl)) (fun e w' ⟨h, hw⟩ => ⟨_, h, ⟨rfl, rfl, rfl⟩, hw ▸ Fr.refl _ _⟩)
theorem cloneC {A : Option Addr} {n c : Nat} {l : List UInt8} (hn : n ≤ 140737488351232) : Con Try.prog 36 [.slice A n c] [] [RRd 1 A n (b8s l)] (fun v_ X_ S_ => ∃ v, v_ = v ∧ X_ = [ROwn 5 1 v n (b8s l)] ∧ S_ = []) := by
  exact con_own1 fun m => Calls.mono (clone A n c l _ (m.rd 0 rfl) hn) (fun e w' ⟨v, h, ho, hf⟩ => ⟨v, v, _, _, _, _, h, ⟨v, rfl, rfl, rfl⟩, ho, hf⟩)
theorem crcPutC {A : Option Addr} {n c : Nat} {l : List UInt8} (hn : n ≤ 70368744177664) : Con Try.prog 40 [.slice A n c] [] [RRd 1 A n (b8s l)] (fun v_ X_ S_ => ∃ v, v_ = v ∧ X_ = [ROwn 5 1 v (n + 4) (b8s (putL l))] ∧ S_ = []) := by
  exact con_own1 fun m => Calls.mono (crcPut A n c l _ (m.rd 0 rfl) hn) (fun e w' ⟨v, h, ho, hf⟩ => ⟨v, v, _, _, _, _, h, ⟨v, rfl, rfl, rfl⟩, ho, hf⟩)
def takeB (l : List UInt8) : List UInt8 := if takeE l = 0 then l.take (l.length - 4) else []
theorem takeB_len {l : List UInt8} (h : takeE l = 0) : (takeB l).length = l.length - 4 := by rw [takeB, if_pos h, List.length_take]; omega
theorem takeE_2 {l : List UInt8} (h : l.length < 4) : takeE l = 2 ∧ takeB l = [] := by rw [takeB, takeE, if_pos h]; exact ⟨rfl, rfl⟩
theorem takeE_7 {l : List UInt8} (h : ¬ l.length < 4) (h2 : ¬ putL (l.take (l.length - 4)) = l) : takeE l = 7 ∧ takeB l = [] := by rw [takeB, takeE, if_neg h, if_neg h2]; exact ⟨rfl, rfl⟩
theorem takeE_0 {l : List UInt8} (h : ¬ l.length < 4) (h2 : putL (l.take (l.length - 4)) = l) : takeE l = 0 ∧ takeB l = l.take (l.length - 4) := by rw [takeB, takeE, if_neg h, if_pos h2]; exact ⟨rfl, rfl⟩
theorem crcTakeC {A : Option Addr} {n c : Nat} {l : List UInt8} (hc : n ≤ c) (hn : n ≤ 70368744177664) : Con Try.prog 37 [.slice A n c] [] [RRd 1 A n (b8s l)] (fun v_ X_ S_ => ∃ v, v_ = (.tuple #[v, .int .i64 (takeE l)]) ∧ X_ = [ROwn 5 1 v (takeB l).length (b8s (takeB l))] ∧ S_ = []) := by
  refine henter (N := 21) Try.func37 rfl rfl (by simp) fun b => ?_
  refine hfactC (fun m => rdB (m.rd 0 rfl)) ?_
  rintro ⟨hl_r, hA_r⟩
  refine hseq <| hreg <| hy (fun _ => y_assign rfl) <| hy (fun _ => y_assign rfl) <| hend <| hthen <| hseq <| hreg <| hy (fun _ => y_move rfl) <| hy (fun _ => y_lenS rfl Try.underlying47) <| hy (fun _ => y_sub rfl rfl (w64 (by omega) (by omega))) <| hy (fun _ => y_assign rfl) <| hend <| hsub (ρ' := [(4, _), (3, _), (2, _), (0, _)]) ⟨rfl, rfl, rfl, rfl, trivial⟩ <| hthen <| hseq <| hseq <| hreg <| hy (fun _ => y_move rfl) <| hy (fun _ => y_lss rfl rfl) <| hend <| hsub (ρ' := [(9, _), (4, _), (3, _), (2, _), (0, _)]) ⟨rfl, rfl, rfl, rfl, rfl, trivial⟩ <| hthen <| ?_
  refine hif rfl (fun h => ?_) (fun h => ?_)
  · obtain ⟨e1, e2⟩ := takeE_2 (show l.length < 4 by omega)
    rw [e1, e2]
    refine hseq <| hreg <| hy (fun _ => y_assign rfl) <| hy (fun _ => y_assign rfl) <| hend <| hthen <| hret <| hthen_ret <| ?_
    refine hmemQ (fun w m => m.addX (r' := ROwn 5 1 (.slice none 0 0) 0 []) (.refl _ _) (Own.nil _ _ _ _) (fun k hk => hk.elim)) ?_
    exact hret2 trivial rfl rfl rfl [0] rfl [] rfl ⟨_, rfl, rfl, rfl⟩
  · refine hmemC (fun w m => m.asV 0 rfl (View.take (k := n - 4) (by omega))) ?_
    refine hfactC (fun m => rdB (m.rd 0 rfl)) ?_
    rintro ⟨hl_r2, hA_r2⟩
    refine hcskip <| hthen <| hseq <| hseq <| hreg <| hy (fun _ => y_move rfl) <| hy (fun _ => y_move rfl) <| hy (fun _ => y_slTo rfl rfl Try.underlying47 sz5 (show ((n - 4 : Nat) : Int) = (n : Int) - 4 by omega) (by omega)) <| ?_
    refine hx (xh_call rfl Try.call40 (crcPutC (by omega)) [] rfl [0] rfl ?_)
    rintro _ _ _ ⟨v, rfl, rfl, rfl⟩
    refine hfactL (fun m => (m.own 0 rfl).slice) ?_
    rintro ⟨A_x, c_x, rfl, hc_x⟩
    refine hfactL (fun m => (m.ord 0 rfl).2.1) fun hA_x => ?_
    refine hy (fun _ => y_move rfl) <| ?_
    refine hx (xh_calll rfl Try.call52 (bytesEqualC) [] rfl (.x 0 rfl .own (.s 1 rfl .nil)) ?_)
    rintro _ _ _ ⟨rfl, rfl, rfl⟩
    refine ⟨rfl, ?_⟩
    refine hy (fun _ => (y_notp rfl)) <| hend <| hsub (ρ' := [(16, _), (9, _), (4, _), (3, _), (2, _), (0, _)]) ⟨rfl, rfl, rfl, rfl, rfl, rfl, trivial⟩ <| hmemQ (X' := [_]) (S' := [_, _]) (fun _ m => m) <| hthen <| ?_
    refine hif rfl (fun h2 => ?_) (fun h2 => ?_)
    · obtain ⟨e1, e2⟩ := takeE_7 (l := l) (by omega) (by rw [hl_r]; exact h2)
      rw [e1, e2]
      refine hseq <| hreg <| hy (fun _ => y_assign rfl) <| hy (fun _ => y_assign rfl) <| hend <| hthen <| hret <| hthen_ret <| ?_
      refine hmemQ (fun w m => m.addX (r' := ROwn 5 1 (.slice none 0 0) 0 []) (.refl _ _) (Own.nil _ _ _ _) (fun k hk => hk.elim)) ?_
      exact hret2 trivial rfl rfl rfl [0] rfl [] rfl ⟨_, rfl, rfl, rfl⟩
    · obtain ⟨e1, e2⟩ := takeE_0 (l := l) (by omega) (by rw [hl_r]; exact Decidable.not_not.1 h2)
      rw [e1, e2, hl_r]
      refine hcskip <| hthen <| hseq <| hreg <| hy (fun _ => y_move rfl) <| hy (fun _ => y_move rfl) <| hy (fun _ => y_slTo rfl rfl Try.underlying47 sz5 (show ((n - 4 : Nat) : Int) = (n : Int) - 4 by omega) (by omega)) <| ?_
      refine hx (xh_call rfl Try.call36 (cloneC (by omega)) [] rfl [0] rfl ?_)
      rintro _ _ _ ⟨v2, rfl, rfl, rfl⟩
      refine hfactL (fun m => (m.own 0 rfl).slice) ?_
      rintro ⟨A_x2, c_x2, rfl, hc_x2⟩
      refine hfactL (fun m => (m.ord 0 rfl).2.1) fun hA_x2 => ?_
      refine hy (fun _ => y_assign rfl) <| hy (fun _ => y_assign rfl) <| hend <| hsub (ρ' := [(3, _), (2, _), (16, _), (9, _), (4, _), (0, _)]) ⟨rfl, rfl, rfl, rfl, rfl, rfl, trivial⟩ <| hmemQ (X' := [_, _]) (S' := [_, _]) (fun _ m => m) <| hthen <| hret <| ?_
      exact hret2 trivial rfl rfl rfl [0] rfl [] rfl ⟨_, rfl, (by rw [List.length_take, hl_r, Nat.min_eq_left (by omega)]), rfl⟩
end Go.Proofs.Ytlbecpekemlllaa
end
section
/- Contracts: strings.Contains of one letter; a text's names. -/
set_option linter.unusedVariables false
set_option linter.unusedSimpArgs false
set_option maxRecDepth 20000
namespace Go.Proofs.Ytlbecpekemlllaa
open Go.Eng Go.Hx
theorem sIndexByteC {l : List UInt8} {c : UInt8} : Con Try.prog 69 [.string (strOf l), B8 c] [] [] (fun v_ X_ S_ => v_ = (.int .i64 (Lib.indexByte l c)) ∧ X_ = [] ∧ S_ = []) := by
  refine henter (N := 8) Try.func69 rfl rfl (by simp) fun b => ?_
  refine hseq <| hreg <| hy (fun _ => y_assign rfl) <| hend <| hthen <| hseq <| hreg <| hy (fun _ => y_move rfl) <| hy (fun _ => y_move rfl) <| ?_
  refine hx (xh_y (fun m => y_ext rfl Try.func73 (by kernel_rfl) (by kernel_rfl) (by kernel_rfl) (show _ = some Extern.BytealgIndexByte.indexByte by kernel_rfl) (Lib.run_indexByteString _ _ _)) ?_)
  refine hy (fun _ => y_assign rfl) <| hend <| hsub (ρ' := [(4, _), (0, _), (1, _)]) ⟨rfl, rfl, rfl, trivial⟩ <| hthen <| hret <| ?_
  exact hret1 trivial rfl rfl [] rfl [] rfl ⟨(by congr 2; simp), rfl, rfl⟩
theorem slIndex1C {l : List UInt8} {c : UInt8} : Con Try.prog 66 [.string (strOf l), .string (strOf [c])] [] [] (fun v_ X_ S_ => v_ = (.int .i64 (Lib.indexByte l c)) ∧ X_ = [] ∧ S_ = []) := by
  refine henter (N := 143) Try.func66 rfl rfl (by simp) fun b => ?_
  refine hseq <| hreg <| hy (fun _ => y_assign rfl) <| hend <| hthen <| hseq <| hreg <| hy (fun _ => y_move rfl) <| hy (fun _ => yV (y_lenStr rfl Try.underlying9) ((rfl : _ = Value.int .i64 1))) <| hy (fun _ => y_assign rfl) <| hend <| hsub (ρ' := [(5, _), (4, _), (0, _), (1, _)]) ⟨rfl, rfl, rfl, rfl, trivial⟩ <| hthen <| hseq <| hblock <| hseq <| hreg <| hy (fun _ => y_move rfl) <| hy (fun _ => y_eql rfl rfl) <| hy (fun _ => y_move rfl) <| ?_
  refine hyg (o := _) rfl rfl rfl (fun _ => y_move rfl) <| hyg (o := _) rfl rfl rfl (fun _ => y_move rfl) <| hyg (o := _) rfl rfl rfl (fun _ => y_seq rfl rfl) <| hy (fun _ => y_pickF rfl rfl) <| hy (fun _ => y_assign rfl) <| hend <| hsub (ρ' := [(16, _), (5, _), (4, _), (0, _), (1, _)]) ⟨rfl, rfl, rfl, rfl, rfl, trivial⟩ <| hthen <| ?_
  refine hif rfl (fun h => ?_) (fun h => ?_)
  · obtain rfl := strOf_inj.1 h
    refine hseq <| hreg <| hy (fun _ => y_assign rfl) <| hend <| hthen <| hret <| hqblock_ret <| hthen_ret <| ?_
    exact hret1 trivial rfl rfl [] rfl [] rfl ⟨(by simp [Lib.indexByte]), rfl, rfl⟩
  · refine hseq <| hreg <| hy (fun _ => y_move rfl) <| hy (fun _ => y_eql rfl rfl) <| hy (fun _ => y_assign rfl) <| hend <| hsub (ρ' := [(24, _), (16, _), (5, _), (4, _), (0, _), (1, _)]) ⟨rfl, rfl, rfl, rfl, rfl, rfl, trivial⟩ <| hthen <| ?_
    refine hift rfl (rfl) ?_
    refine hseq <| hreg <| hy (fun _ => y_move rfl) <| hy (fun _ => y_move rfl) <| hy (fun _ => yV (y_idxStr rfl rfl Try.underlying9 rfl (strOf_at (by simp))) ((rfl : _ = B8 c))) <| ?_
    refine hx (xh_call rfl Try.call69 (sIndexByteC) [] rfl [] rfl ?_)
    rintro _ _ _ ⟨rfl, rfl, rfl⟩
    refine hy (fun _ => y_assign rfl) <| hend <| hsub (ρ' := [(4, _), (24, _), (16, _), (5, _), (0, _), (1, _)]) ⟨rfl, rfl, rfl, rfl, rfl, rfl, trivial⟩ <| hmemQ (X' := []) (S' := []) (fun _ m => m) <| hthen <| hret <| hqblock_ret <| hthen_ret <| ?_
    exact hret1 trivial rfl rfl [] rfl [] rfl ⟨rfl, rfl, rfl⟩
theorem stringsIndex1C {l : List UInt8} {c : UInt8} : Con Try.prog 62 [.string (strOf l), .string (strOf [c])] [] [] (fun v_ X_ S_ => v_ = (.int .i64 (Lib.indexByte l c)) ∧ X_ = [] ∧ S_ = []) := by
  refine henter (N := 8) Try.func62 rfl rfl (by simp) fun b => ?_
  refine hseq <| hreg <| hy (fun _ => y_assign rfl) <| hend <| hthen <| hseq <| hreg <| hy (fun _ => y_move rfl) <| hy (fun _ => y_move rfl) <| ?_
  refine hx (xh_call rfl Try.call66 (slIndex1C) [] rfl [] rfl ?_)
  rintro _ _ _ ⟨rfl, rfl, rfl⟩
  refine hy (fun _ => y_assign rfl) <| hend <| hsub (ρ' := [(4, _), (0, _), (1, _)]) ⟨rfl, rfl, rfl, trivial⟩ <| hmemQ (X' := []) (S' := []) (fun _ m => m) <| hthen <| hret <| ?_
  exact hret1 trivial rfl rfl [] rfl [] rfl ⟨rfl, rfl, rfl⟩
theorem contains1C {l : List UInt8} {c : UInt8} : Con Try.prog 56 [.string (strOf l), .string (strOf [c])] [] [] (fun v_ X_ S_ => v_ = (.bool (decide (c ∈ l))) ∧ X_ = [] ∧ S_ = []) := by
  refine henter (N := 9) Try.func56 rfl rfl (by simp) fun b => ?_
  refine hseq <| hreg <| hy (fun _ => y_assign rfl) <| hend <| hthen <| hseq <| hreg <| hy (fun _ => y_move rfl) <| hy (fun _ => y_move rfl) <| ?_
  refine hx (xh_call rfl Try.call62 (stringsIndex1C) [] rfl [] rfl ?_)
  rintro _ _ _ ⟨rfl, rfl, rfl⟩
  refine hy (fun _ => y_geq rfl rfl) <| hy (fun _ => y_assign rfl) <| hend <| hsub (ρ' := [(4, _), (0, _), (1, _)]) ⟨rfl, rfl, rfl, trivial⟩ <| hmemQ (X' := []) (S' := []) (fun _ m => m) <| hthen <| hret <| ?_
  exact hret1 trivial rfl rfl [] rfl [] rfl ⟨(by congr 1; rw [← Lib.contains_iff_indexByte]; simp), rfl, rfl⟩
/-- may a text be a name? -/
def Named (p : List UInt8) : Prop := p ≠ [] ∧ p.length ≤ 96 ∧ ¬ (0 : UInt8) ∈ p
instance (p : List UInt8) : Decidable (Named p) := by unfold Named; infer_instance
theorem str_nil (p : List UInt8) : strOf p ≠ ⟨#[]⟩ ↔ p ≠ [] := by
  rw [show (⟨#[]⟩ : ByteArray) = strOf [] from rfl]
  simp only [ne_eq, strOf_inj]
theorem namedC {p : List UInt8} : Con Try.prog 42 [.string (strOf p)] [] [] (fun v_ X_ S_ => v_ = (.bool (decide (Named p))) ∧ X_ = [] ∧ S_ = []) := by
  have hsz := strOf_size p
  refine henter (N := 15) Try.func42 rfl rfl (by simp) fun b => ?_
  refine hseq <| hreg <| hy (fun _ => y_assign rfl) <| hend <| hthen <| hseq <| hreg <| hy (fun _ => y_move rfl) <| hy (fun _ => y_sne rfl rfl) <| hy (fun _ => y_move rfl) <| ?_
  refine hsplit 5 rfl (fun h1 => ?_) (fun h1 => ?_)
  · have h1' := (str_nil p).1 h1
    refine hyg (o := _) rfl rfl rfl (fun _ => y_move rfl) <| hyg (o := _) rfl rfl rfl (fun _ => y_lenStr rfl Try.underlying9) <| hyg (o := _) rfl rfl rfl (fun _ => y_leq rfl rfl) <| hy (fun _ => y_pickT rfl rfl) <| hy (fun _ => y_move rfl) <| ?_
    refine hsplit 10 rfl (fun h2 => ?_) (fun h2 => ?_)
    · have h2' : p.length ≤ 96 := by omega
      refine hyg (o := _) rfl rfl rfl (fun _ => y_move rfl) <| ?_
      refine hxg (o := _) rfl rfl rfl (xh_call rfl Try.call56 (contains1C) [] rfl [] rfl ?_)
      rintro _ _ _ ⟨rfl, rfl, rfl⟩
      refine hyg (o := _) rfl rfl rfl (fun _ => y_notp rfl) <| hy (fun _ => y_pickT rfl rfl) <| hy (fun _ => y_assign rfl) <| hend <| hsub (ρ' := [(2, _), (0, _)]) ⟨rfl, rfl, trivial⟩ <| hmemQ (X' := []) (S' := []) (fun _ m => m) <| hthen <| hret <| ?_
      exact hret1 trivial rfl rfl [] rfl [] rfl ⟨(by congr 1; simp only [Named]; simp [h1', h2']), rfl, rfl⟩
    · have h2' : ¬ p.length ≤ 96 := by omega
      refine hskip rfl rfl rfl (by decide) <| hskip rfl rfl rfl (by decide) <| hskip rfl rfl rfl (by decide) <| hy (fun _ => y_pickF rfl rfl) <| hy (fun _ => y_assign rfl) <| hend <| hsub (ρ' := [(2, _), (0, _)]) ⟨rfl, rfl, trivial⟩ <| hthen <| hret <| ?_
      exact hret1 trivial rfl rfl [] rfl [] rfl ⟨(by congr 1; simp only [Named]; simp [h2']), rfl, rfl⟩
  · have h1' : ¬ p ≠ [] := fun h => h1 ((str_nil p).2 h)
    refine hskip rfl rfl rfl (by decide) <| hskip rfl rfl rfl (by decide) <| hskip rfl rfl rfl (by decide) <| hy (fun _ => y_pickF rfl rfl) <| hy (fun _ => y_move rfl) <| ?_
    refine hskip rfl rfl rfl (by decide) <| hskip rfl rfl rfl (by decide) <| hskip rfl rfl rfl (by decide) <| hy (fun _ => y_pickF rfl rfl) <| hy (fun _ => y_assign rfl) <| hend <| hsub (ρ' := [(2, _), (0, _)]) ⟨rfl, rfl, trivial⟩ <| hthen <| hret <| ?_
    exact hret1 trivial rfl rfl [] rfl [] rfl ⟨(by congr 1; simp only [Named]; simp [h1']), rfl, rfl⟩
end Go.Proofs.Ytlbecpekemlllaa
end
section
/- Contracts: a disk. -/
set_option linter.unusedVariables false
set_option linter.unusedSimpArgs false
set_option maxRecDepth 20000
namespace Go.Proofs.Ytlbecpekemlllaa
open Go.Eng Go.Hx
abbrev Files := List (List UInt8 × BRow)
def vals (l : Files) : List (List UInt8 × Value) := l.map fun x => (x.1, x.2.val)
def tot (l : Files) : Nat := (l.map fun x => x.2.n).sum
theorem vals_get : ∀ (l : Files) (p : List UInt8), aget (vals l) p = (aget l p).map BRow.val
  | [], p => rfl
  | (k, r) :: q, p => by
    have := vals_get q p
    simp only [vals, List.map_cons, aget] at this ⊢
    split <;> simp_all
theorem vals_put : ∀ (l : Files) (p : List UInt8) (r : BRow), aput (vals l) p r.val = vals (aput l p r)
  | [], p, r => rfl
  | (k, u) :: q, p, r => by
    have := vals_put q p r
    simp only [vals, List.map_cons, aput] at this ⊢
    split <;> simp_all
theorem vals_del : ∀ (l : Files) (p : List UInt8), adel (vals l) p = vals (adel l p)
  | [], p => rfl
  | (k, u) :: q, p => by
    have := vals_del q p
    simp only [vals, List.map_cons, adel] at this ⊢
    split <;> simp_all
theorem vals_at {l : Files} {j : Nat} {p : List UInt8 × Value} (h : (vals l)[j]? = some p) : ∃ r, l[j]? = some (p.1, r) ∧ p.2 = r.val := by
  simp only [vals, List.getElem?_map] at h
  cases hl : l[j]? with
  | none => rw [hl] at h; cases h
  | some x =>
    rw [hl] at h
    simp only [Option.map_some, Option.some.injEq] at h
    subst h
    exact ⟨x.2, rfl, rfl⟩
theorem vals_erase (l : Files) (j : Nat) : (vals l).eraseIdx j = vals (l.eraseIdx j) := (map_eraseIdx _ l j).symm
theorem tot_erase : ∀ {l : Files} {j : Nat} {x : List UInt8 × BRow}, l[j]? = some x → tot (l.eraseIdx j) + x.2.n = tot l
  | [], j, x, h => by simp at h
  | a :: q, 0, x, h => by
    simp only [List.getElem?_cons_zero, Option.some.injEq] at h
    subst h
    simp [tot]; omega
  | a :: q, j + 1, x, h => by
    simp only [List.getElem?_cons_succ] at h
    have := tot_erase h
    simp only [tot, List.eraseIdx_cons_succ, List.map_cons, List.sum_cons] at this ⊢
    omega
/-- a change that waits -/
inductive Chg
  | written (p : List UInt8) (r : BRow)
  | renamed (a b : List UInt8)
  | removed (p : List UInt8)
def Chg.row : Chg → Option BRow
  | .written _ r => some r
  | _ => none
def Chg.val : Chg → Value
  | .written p r => .iface 65 (.agg [SV p, r.val].toArray)
  | .renamed a b => .iface 89 (.agg [SV a, SV b].toArray)
  | .removed p => .iface 92 (.agg [SV p].toArray)
structure DSt where
  room : Int
  gs : Nat
  gl : Nat
  seen : Files
  lasts : Files
  waits : List Chg
  wA : Option Addr
  wc : Nat
  power : Int
def rowsOf (st : DSt) : List BRow := st.seen.map (·.2) ++ st.lasts.map (·.2) ++ st.waits.filterMap Chg.row
def dcells (st : DSt) : List Value := [.int .i64 st.room, .map (some st.gs), .map (some st.gl), .slice st.wA st.waits.length st.wc, .int .i64 st.power]
abbrev RDisk (g : Nat) (st : DSt) : Res := RPack [RBlk g 61 (dcells st), RMap SV st.gs (vals st.seen), RMap SV st.gl (vals st.lasts), ROwn 63 1 (.slice st.wA st.waits.length st.wc) st.waits.length (st.waits.map Chg.val), RRows (rowsOf st)]
def dinit (n : Int) (gs gl : Nat) : DSt := ⟨n, gs, gl, [], [], [], none, 0, -1⟩
theorem newC {n : Int} (h1 : 1 ≤ n) (h2 : n ≤ 1048576) : Con Try.prog 15 [.int .i64 n] [] [] (fun v_ X_ S_ => ∃ g gs gl, v_ = (.tuple #[.pointer (some ⟨g, 0, none⟩), .int .i64 0]) ∧ X_ = [RDisk g (dinit n gs gl)] ∧ S_ = []) := by
  refine henter (N := 15) Try.func15 rfl rfl (by simp) fun b => ?_
  refine hseq <| hreg <| hy (fun _ => y_assign rfl) <| hy (fun _ => y_assign rfl) <| hend <| hthen <| hseq <| hseq <| hreg <| hy (fun _ => y_move rfl) <| hy (fun _ => y_lss rfl rfl) <| hy (fun _ => y_move rfl) <| ?_
  refine hsplit 6 rfl (fun h => ?_) (fun h => ?_)
  · exact absurd h (by omega)
  · refine hyg (o := _) rfl rfl rfl (fun _ => y_move rfl) <| hyg (o := _) rfl rfl rfl (fun _ => y_gtr rfl rfl) <| hy (fun _ => y_pickF rfl rfl) <| hend <| hsub (ρ' := [(9, _), (3, _), (2, _), (0, _)]) ⟨rfl, rfl, rfl, rfl, trivial⟩ <| hthen <| ?_
    refine hiff rfl (decide_eq_false (by omega)) ?_
    refine hcskip <| hthen <| hseq <| hreg <| hy (fun _ => y_move rfl) <| ?_
    refine hx (xh_mkmap SV (fun g11 => ?_))
    refine hx (xh_mkmap SV (fun g12 => ?_))
    refine hy (fun _ => yV (y_build ti61 rfl rfl (by kernel_rfl) (.cons (o := 0) (sz := 1) (by kernel_rfl) rfl rfl (Nat.le_of_ble_eq_true rfl) (.cons (o := 1) (sz := 1) (by kernel_rfl) rfl rfl (Nat.le_of_ble_eq_true rfl) (.cons (o := 2) (sz := 1) (by kernel_rfl) rfl rfl (Nat.le_of_ble_eq_true rfl) (.cons (o := 4) (sz := 1) (by kernel_rfl) rfl rfl (Nat.le_of_ble_eq_true rfl) .nil))))) ((rfl : _ = Value.agg (dcells (dinit n g11 g12)).toArray))) <| ?_
    refine hx (xh_box rfl (fun g14 => ?_))
    refine hy (fun _ => y_assign rfl) <| hy (fun _ => y_assign rfl) <| hend <| hsub (ρ' := [(3, _), (2, _), (9, _), (0, _)]) ⟨rfl, rfl, rfl, rfl, trivial⟩ <| hmemQ (X' := [_, _, _]) (S' := []) (fun _ m => m) <| hthen <| hret <| ?_
    refine hmemQ (fun w m => m.addX (r' := ROwn 63 1 (.slice none 0 0) 0 []) (.refl _ _) (Own.nil _ _ _ _) (fun k hk => hk.elim)) ?_
    refine hmemQ (fun w m => m.noRows) ?_
    refine hmemQ (X' := RDisk g14 (dinit n g11 g12) :: _) (fun w m => (m.perm (takeR_perm [2, 3, 2, 1, 0] _ [_, _, _, _, _] _ rfl)).pack) ?_
    exact hret2 trivial rfl rfl rfl [0] rfl [] rfl ⟨_, _, _, rfl, rfl, rfl⟩
theorem upC {g : Nat} {st : DSt} : Con Try.prog 43 [.pointer (some ⟨g, 0, none⟩)] [RDisk g st] [] (fun v_ X_ S_ => v_ = (.bool (decide (st.power ≠ 0))) ∧ X_ = [RDisk g st] ∧ S_ = []) := by
  refine henter (N := 8) Try.func43 rfl rfl (by simp) fun b => ?_
  refine hmemC (fun w m => (m.perm (takeR_perm [0] _ [_] _ rfl)).unpack) ?_
  refine hseq <| hreg <| hy (fun _ => y_assign rfl) <| hend <| hthen <| hseq <| hreg <| hy (fun _ => y_move rfl) <| hy (fun _ => y_nilp rfl) <| hy (fun _ => y_fld rfl fa61_4 (by decide)) <| hy (fun m => y_ld1 rfl ag3 (ld_blk (m.blk 0 rfl) rfl)) <| hy (fun _ => y_neq rfl rfl) <| hy (fun _ => y_assign rfl) <| hend <| hsub (ρ' := [(2, _), (0, _)]) ⟨rfl, rfl, trivial⟩ <| hthen <| hret <| ?_
  refine hmemQ (X' := RDisk g st :: _) (fun w m => (m.perm (takeR_perm [0, 0, 0, 0, 0] _ [_, _, _, _, _] _ rfl)).pack) ?_
  exact hret1 trivial rfl rfl [0] rfl [] rfl ⟨rfl, rfl, rfl⟩
/-- a call that is done -/
def DSt.spent (st : DSt) : DSt := { st with power := if 0 < st.power then st.power - 1 else st.power }
theorem spendC {g : Nat} {st : DSt} (hp : st.power ≤ 1000000000000) : Con Try.prog 46 [.pointer (some ⟨g, 0, none⟩)] [RDisk g st] [] (fun v_ X_ S_ => v_ = (.tuple #[]) ∧ X_ = [RDisk g st.spent] ∧ S_ = []) := by
  refine henter (N := 14) Try.func46 rfl rfl (by simp) fun b => ?_
  refine hmemC (fun w m => (m.perm (takeR_perm [0] _ [_] _ rfl)).unpack) ?_
  refine hseq <| hreg <| hy (fun _ => y_move rfl) <| hy (fun _ => y_nilp rfl) <| hy (fun _ => y_fld rfl fa61_4 (by decide)) <| hy (fun m => y_ld1 rfl ag3 (ld_blk (m.blk 0 rfl) rfl)) <| hy (fun _ => y_gtr rfl rfl) <| hend <| hsub (ρ' := [(6, _), (0, _)]) ⟨rfl, rfl, trivial⟩ <| hthen <| ?_
  refine hif rfl (fun h => ?_) (fun h => ?_)
  · have e : st.spent = { st with power := st.power - 1 } := by simp only [DSt.spent, if_pos h]
    rw [e]
    refine hreg <| hy (fun _ => y_move rfl) <| hy (fun _ => y_nilp rfl) <| hy (fun _ => y_fld rfl fa61_4 (by decide)) <| hy (fun m => y_ld1 rfl ag3 (ld_blk (m.blk 0 rfl) rfl)) <| hy (fun _ => y_sub rfl rfl (w64 (by omega) (by omega))) <| hy (fun _ => y_nilp rfl) <| hy (fun _ => y_fld rfl fa61_4 (by decide)) <| ?_
    refine hx0 (xh_st1a 0 rfl rfl rfl sz3 rfl (by first | exact Nat.le_of_ble_eq_true rfl | simp) ?_)
    refine hend <| hsub (ρ' := [(6, _), (0, _)]) ⟨rfl, rfl, trivial⟩ <| hmemQ (X' := [_, _, _, _, _]) (S' := []) (fun _ m => m) <| ?_
    refine hmemQ (X' := RDisk g { st with power := st.power - 1 } :: _) (fun w m => (m.perm (takeR_perm [0, 0, 0, 0, 0] _ [_, _, _, _, _] _ rfl)).pack) ?_
    exact hret0 trivial rfl [0] rfl [] rfl ⟨rfl, rfl, rfl⟩
  · have e : st.spent = st := by simp only [DSt.spent, if_neg h]
    rw [e]
    refine hcskip <| ?_
    refine hmemQ (X' := RDisk g st :: _) (fun w m => (m.perm (takeR_perm [0, 0, 0, 0, 0] _ [_, _, _, _, _] _ rfl)).pack) ?_
    exact hret0 trivial rfl [0] rfl [] rfl ⟨rfl, rfl, rfl⟩
theorem usedC {g : Nat} {st : DSt} (ht : tot st.seen ≤ 1000000000000) : Con Try.prog 44 [.pointer (some ⟨g, 0, none⟩)] [RDisk g st] [] (fun v_ X_ S_ => v_ = (.int .i64 (tot st.seen : Nat)) ∧ X_ = [RDisk g st] ∧ S_ = []) := by
  refine henter (N := 20) Try.func44 rfl rfl (by simp) fun b => ?_
  refine hmemC (fun w m => (m.perm (takeR_perm [0] _ [_] _ rfl)).unpack) ?_
  refine hseq <| hreg <| hy (fun _ => y_assign rfl) <| hend <| hthen <| hseq <| hreg <| hy (fun _ => y_assign rfl) <| hend <| hthen <| hseq <| hseq <| hreg <| hy (fun _ => y_move rfl) <| hy (fun _ => y_nilp rfl) <| hy (fun _ => y_fld rfl fa61_1 (by decide)) <| hy (fun m => y_ld1 rfl ag58 (ld_blk (m.blk 0 rfl) rfl)) <| ?_
  refine hx (xh_range 1 rfl rfl Try.underlying58 (fun r10 => ?_))
  refine hend <| hsub (ρ' := [(10, _), (3, _), (2, _), (0, _)]) ⟨rfl, rfl, rfl, rfl, trivial⟩ <| hmemQ (X' := [_, _, _, _, _]) (S' := []) (fun _ m => m) <| hthen <| hblock <| ?_
  refine hloop3 (fun left n cur => left.length) (fun left n cur => [(3, .int .i64 (n : Nat))]) (fun left n cur => [RRng SV r10 st.gs (vals st.seen) (vals left) cur]) (fun left n cur => []) (fun left n cur => n + tot left = tot st.seen) st.seen 0 none [(10, _), (2, _), (0, _)] ⟨rfl, rfl, rfl, trivial⟩ [0] rfl [] rfl (Nat.zero_add _) ⟨rfl, trivial⟩ (fun left n cur hI => ?_)
  refine hseq <| hreg <| ?_
  refine hx (xh_next 0 rfl rfl (fun h0 => ?_) (fun j p hp => ?_))
  · obtain rfl : left = [] := List.map_eq_nil_iff.1 h0
    have hn : n = tot st.seen := by simpa [tot] using hI
    subst hn
    refine hy (fun _ => y_extract rfl rfl) <| hend <| hsub (ρ' := [(12, _), (3, _), (10, _), (2, _), (0, _)]) ⟨rfl, rfl, rfl, rfl, rfl, trivial⟩ <| hthen <| hseq <| ?_
    refine hiff rfl (rfl) ?_
    refine hexit <| hthen_exit <| hthen_exit <| hqblock_exit <| hthen <| hseq <| hreg <| hy (fun _ => y_move rfl) <| hy (fun _ => y_assign rfl) <| hend <| hsub (ρ' := [(2, _), (12, _), (3, _), (10, _), (0, _)]) ⟨rfl, rfl, rfl, rfl, rfl, trivial⟩ <| hthen <| hret <| ?_
    refine hmemQ (fun w m => m.rngEnd 0 rfl) ?_
    refine hmemQ (X' := RDisk g st :: _) (fun w m => (m.perm (takeR_perm [1, 0, 0, 0, 0] _ [_, _, _, _, _] _ rfl)).pack) ?_
    exact hret1 trivial rfl rfl [0] rfl [] rfl ⟨rfl, rfl, rfl⟩
  · obtain ⟨k, v⟩ := p
    obtain ⟨r, hr, e⟩ := vals_at hp
    obtain rfl : v = r.val := e
    have ht := tot_erase hr
    have hlt := (List.getElem?_eq_some_iff.1 hr).1
    simp only at ht
    refine hy (fun _ => y_extract rfl rfl) <| hend <| hsub (ρ' := [(12, _), (3, _), (10, _), (2, _), (0, _)]) ⟨rfl, rfl, rfl, rfl, rfl, trivial⟩ <| hthen <| hseq <| ?_
    refine hift rfl (rfl) ?_
    refine hcskip <| hthen <| hblock <| hseq <| hreg <| hy (fun m => y_entryM rfl (m.rngX 0 rfl)) <| hy (fun _ => yV (y_extract rfl rfl) ((rfl : _ = Value.slice r.A r.n r.c))) <| hy (fun _ => y_assign rfl) <| hend <| hsub (ρ' := [(5, _), (12, _), (3, _), (10, _), (2, _), (0, _)]) ⟨rfl, rfl, rfl, rfl, rfl, rfl, trivial⟩ <| hthen <| hreg <| hy (fun _ => y_move rfl) <| hy (fun _ => y_move rfl) <| hy (fun _ => y_lenS rfl Try.underlying47) <| hy (fun _ => y_add rfl rfl (w64 (by omega) (by omega))) <| hy (fun _ => y_assign rfl) <| hend <| hsub (ρ' := [(3, _), (5, _), (12, _), (10, _), (2, _), (0, _)]) ⟨rfl, rfl, rfl, rfl, rfl, rfl, trivial⟩ <| hqblock <| ?_
    refine hmemQ (fun w m => m.eqX 0 rfl (show _ = RRng SV r10 st.gs (vals st.seen) (vals (left.eraseIdx j)) (some (k, r.val)) from congrArg (fun q => RRng SV r10 st.gs (vals st.seen) q (some (k, r.val))) (vals_erase left j))) ?_
    refine hnext3 (left.eraseIdx j) (n + r.n) (some (k, r.val)) ⟨rfl, rfl, rfl, rfl, trivial⟩ [0, 0, 0, 0, 0] rfl [] rfl (by omega) (by rw [List.length_eraseIdx, if_pos hlt]; omega)
theorem aget_split {l : Files} (p : List UInt8) : (aget l p = none ∧ aget (vals l) p = none) ∨ ∃ r, aget l p = some r ∧ aget (vals l) p = some r.val := by
  rw [vals_get]
  cases aget l p with
  | none => exact .inl ⟨rfl, rfl⟩
  | some r => exact .inr ⟨r, rfl, rfl⟩
/-- why a file is not found -/
def foundE (st : DSt) (p : List UInt8) : Int := if st.power = 0 then 6 else if aget st.seen p = none then 4 else 0
theorem foundC {g : Nat} {st : DSt} {p : List UInt8} : Con Try.prog 35 [.pointer (some ⟨g, 0, none⟩), .string (strOf p)] [RDisk g st] [] (fun v_ X_ S_ => v_ = (.int .i64 (foundE st p)) ∧ X_ = [RDisk g st] ∧ S_ = []) := by
  have hf : foundE st p = foundE st p := rfl
  refine henter (N := 23) Try.func35 rfl rfl (by simp) fun b => ?_
  refine hmemC (fun w m => (m.perm (takeR_perm [0] _ [_] _ rfl)).unpack) ?_
  have hh : (aget (vals st.seen) p).isSome = decide (aget st.seen p ≠ none) := by
    rcases aget_split (l := st.seen) p with ⟨h1, h2⟩ | ⟨r, h1, h2⟩ <;> simp [h1, h2]
  refine hseq <| hreg <| hy (fun _ => y_assign rfl) <| hend <| hthen <| hseq <| hreg <| hy (fun _ => y_move rfl) <| hy (fun _ => y_nilp rfl) <| hy (fun _ => y_fld rfl fa61_1 (by decide)) <| hy (fun m => y_ld1 rfl ag58 (ld_blk (m.blk 0 rfl) rfl)) <| hy (fun _ => y_move rfl) <| hy (fun m => y_lookM (enc := SV) rfl rfl Try.underlying58 ti47 (strKey Try.underlying9) (m.mapX 1 rfl)) <| hy (fun _ => y_move rfl) <| hy (fun _ => y_extract rfl rfl) <| hy (fun _ => yV (y_extract rfl rfl) ((show Value.bool (aget (vals st.seen) p).isSome = .bool (decide (aget st.seen p ≠ none)) by rw [hh]))) <| hy (fun _ => y_assign rfl) <| hy (fun _ => y_assign rfl) <| hend <| hsub (ρ' := [(6, _), (4, _), (0, _), (1, _)]) ⟨rfl, rfl, rfl, rfl, trivial⟩ <| hthen <| hseq <| hblock <| hseq <| hreg <| ?_
  refine hmemL (X' := RDisk g st :: _) (fun w m => (m.perm (takeR_perm [0, 0, 0, 0, 0] _ [_, _, _, _, _] _ rfl)).pack) ?_
  refine hy (fun _ => y_move rfl) <| ?_
  refine hx (xh_call rfl Try.call43 (upC) [0] rfl [] rfl ?_)
  rintro _ _ _ ⟨rfl, rfl, rfl⟩
  refine hy (fun _ => y_notp rfl) <| hy (fun _ => y_assign rfl) <| hend <| hsub (ρ' := [(16, _), (6, _), (4, _), (0, _), (1, _)]) ⟨rfl, rfl, rfl, rfl, rfl, trivial⟩ <| hmemQ (X' := [_]) (S' := []) (fun _ m => m) <| hthen <| ?_
  refine hif rfl (fun h1 => ?_) (fun h1 => ?_)
  · refine hseq <| hreg <| hy (fun _ => y_assign rfl) <| hend <| hthen <| hret <| hqblock_ret <| hthen_ret <| ?_
    exact hret1 trivial rfl rfl [0] rfl [] rfl ⟨(by rw [foundE, if_pos (by omega)]), rfl, rfl⟩
  · refine hseq <| hreg <| hy (fun _ => y_move rfl) <| hy (fun _ => y_notp rfl) <| hy (fun _ => y_assign rfl) <| hend <| hsub (ρ' := [(20, _), (16, _), (6, _), (4, _), (0, _), (1, _)]) ⟨rfl, rfl, rfl, rfl, rfl, rfl, trivial⟩ <| hthen <| ?_
    refine hif rfl (fun h2 => ?_) (fun h2 => ?_)
    · refine hseq <| hreg <| hy (fun _ => y_assign rfl) <| hend <| hthen <| hret <| hqblock_ret <| hthen_ret <| ?_
      exact hret1 trivial rfl rfl [0] rfl [] rfl ⟨(by rw [foundE, if_neg (by omega), if_pos (Decidable.not_not.1 h2)]), rfl, rfl⟩
    · refine hcskip <| hqblock <| hthen <| hseq <| hreg <| hy (fun _ => y_assign rfl) <| hend <| hthen <| hret <| ?_
      exact hret1 trivial rfl rfl [0] rfl [] rfl ⟨(by rw [foundE, if_neg (by omega), if_neg (fun e => h2 (fun h => h e))]), rfl, rfl⟩
end Go.Proofs.Ytlbecpekemlllaa
end
section
/- Contracts: a disk's Read, Write, Sync. -/
set_option linter.unusedVariables false
set_option linter.unusedSimpArgs false
set_option maxRecDepth 20000
namespace Go.Proofs.Ytlbecpekemlllaa
open Go.Eng Go.Hx
theorem mem_seen {st : DSt} {p : List UInt8} {r : BRow} (h : aget st.seen p = some r) : r ∈ rowsOf st := by
  unfold rowsOf
  refine List.mem_append_left _ (List.mem_append_left _ ?_)
  exact List.mem_map.2 ⟨_, aget_mem h, rfl⟩
/-- what is read -/
def readB (st : DSt) (p : List UInt8) : List UInt8 := if foundE st p = 0 then ((aget st.seen p).map (·.l)).getD [] else []
theorem readB_no {st : DSt} {p : List UInt8} (h : foundE st p ≠ 0) : readB st p = [] := by rw [readB, if_neg h]
theorem readB_ok {st : DSt} {p : List UInt8} {r : BRow} (h : foundE st p = 0) (hr : aget st.seen p = some r) : readB st p = r.l := by rw [readB, if_pos h, hr]; rfl
theorem found_ok {st : DSt} {p : List UInt8} (h : foundE st p = 0) : ∃ r, aget st.seen p = some r := by
  unfold foundE at h
  split at h
  · omega
  · split at h
    · omega
    · rename_i h2
      cases hq : aget st.seen p with
      | none => exact absurd hq h2
      | some r => exact ⟨r, rfl⟩
def Small (st : DSt) : Prop := ∀ r ∈ rowsOf st, r.n ≤ 1000000000
theorem readC {g : Nat} {st : DSt} {p : List UInt8} (hs : Small st) : Con Try.prog 17 [.pointer (some ⟨g, 0, none⟩), .string (strOf p)] [RDisk g st] [] (fun v_ X_ S_ => ∃ v, v_ = (.tuple #[v, .int .i64 (foundE st p)]) ∧ X_ = [RDisk g st, ROwn 5 1 v (readB st p).length (b8s (readB st p))] ∧ S_ = []) := by
  refine henter (N := 20) Try.func17 rfl rfl (by simp) fun b => ?_
  refine hseq <| hreg <| hy (fun _ => y_assign rfl) <| hy (fun _ => y_assign rfl) <| hend <| hthen <| hseq <| hseq <| hreg <| hy (fun _ => y_move rfl) <| hy (fun _ => y_move rfl) <| ?_
  refine hx (xh_call rfl Try.call35 (foundC) [0] rfl [] rfl ?_)
  rintro _ _ _ ⟨rfl, rfl, rfl⟩
  refine hy (fun _ => y_assign rfl) <| hend <| hsub (ρ' := [(6, _), (5, _), (4, _), (0, _), (1, _)]) ⟨rfl, rfl, rfl, rfl, rfl, trivial⟩ <| hmemQ (X' := [_]) (S' := []) (fun _ m => m) <| hthen <| hseq <| hreg <| hy (fun _ => y_move rfl) <| hy (fun _ => y_neq rfl rfl) <| hend <| hsub (ρ' := [(11, _), (6, _), (5, _), (4, _), (0, _), (1, _)]) ⟨rfl, rfl, rfl, rfl, rfl, rfl, trivial⟩ <| hthen <| ?_
  refine hif rfl (fun h => ?_) (fun h => ?_)
  · rw [readB_no h]
    refine hseq <| hreg <| hy (fun _ => y_move rfl) <| hy (fun _ => y_assign rfl) <| hy (fun _ => y_assign rfl) <| hend <| hsub (ρ' := [(5, _), (4, _), (11, _), (6, _), (0, _), (1, _)]) ⟨rfl, rfl, rfl, rfl, rfl, rfl, trivial⟩ <| hthen <| hret <| hthen_ret <| ?_
    refine hmemQ (fun w m => m.addX (r' := ROwn 5 1 (.slice none 0 0) 0 []) (.refl _ _) (Own.nil _ _ _ _) (fun k hk => hk.elim)) ?_
    exact hret2 trivial rfl rfl rfl [1, 0] rfl [] rfl ⟨_, rfl, rfl, rfl⟩
  · have h0 := Decidable.not_not.1 h
    obtain ⟨r, hr⟩ := found_ok h0
    have hv : aget (vals st.seen) p = some r.val := by rw [vals_get, hr]; rfl
    rw [readB_ok h0 hr, h0]
    have hmem := mem_seen hr
    obtain ⟨i, hi⟩ := List.mem_iff_getElem?.1 hmem
    have hsm := hs r hmem
    refine hmemC (fun w m => (m.perm (takeR_perm [0] _ [_] _ rfl)).unpack) ?_
    refine hfactC (fun m => rdB ((View.ok (View.row hi)).1 _ (m.xres 4 rfl))) fun hrl => ?_
    have hrl := hrl.1
    refine hcskip <| hthen <| hseq <| hreg <| hy (fun _ => y_move rfl) <| hy (fun _ => y_nilp rfl) <| hy (fun _ => y_fld rfl fa61_1 (by decide)) <| hy (fun m => y_ld1 rfl ag58 (ld_blk (m.blk 0 rfl) rfl)) <| hy (fun _ => y_move rfl) <| hy (fun m => yV (y_lookM (enc := SV) rfl rfl Try.underlying58 ti47 (strKey Try.underlying9) (m.mapX 1 rfl)) ((show lookVal false (.slice none 0 0) (aget (vals st.seen) p) = .slice r.A r.n r.c by rw [hv]; rfl))) <| ?_
    refine hx (xh_calll rfl Try.call36 (cloneC (by omega)) [] rfl (.x 4 rfl (View.row hi) .nil) ?_)
    rintro _ _ _ ⟨v, rfl, rfl, rfl⟩
    refine ⟨rfl, ?_⟩
    refine hfactL (fun m => (m.own 0 rfl).slice) ?_
    rintro ⟨A_x, c_x, rfl, hc_x⟩
    refine hfactL (fun m => (m.ord 0 rfl).2.1) fun hA_x => ?_
    refine hy (fun _ => y_assign rfl) <| hy (fun _ => y_assign rfl) <| hend <| hsub (ρ' := [(5, _), (4, _), (11, _), (6, _), (0, _), (1, _)]) ⟨rfl, rfl, rfl, rfl, rfl, rfl, trivial⟩ <| hmemQ (X' := [_, _, _, _, _, _]) (S' := []) (fun _ m => m) <| hthen <| hret <| ?_
    refine hmemQ (X' := RDisk g st :: _) (fun w m => (m.perm (takeR_perm [1, 1, 1, 1, 1] _ [_, _, _, _, _] _ rfl)).pack) ?_
    exact hret2 trivial rfl rfl rfl [0, 0] rfl [] rfl ⟨_, rfl, (by rw [hrl]), rfl⟩
theorem wmakeC {g : Nat} {l : List (List UInt8 × Value)} {p : List UInt8} {r : BRow} : Con Try.prog 27 [.agg [SV p, r.val].toArray, .map (some g)] [RMap SV g l] [] (fun v_ X_ S_ => v_ = (.tuple #[]) ∧ X_ = [RMap SV g (aput l p r.val)] ∧ S_ = []) := by
  refine henter (N := 9) Try.func27 rfl rfl (by simp) fun b => ?_
  refine hseq <| hreg <| ?_
  refine hx (xh_box rfl (fun g2 => ?_))
  refine hend <| hmemQ (X' := [_, _]) (S' := []) (fun _ m => m) <| hthen <| hreg <| hy (fun _ => y_move rfl) <| hy (fun _ => y_fld rfl fa65_0 (by decide)) <| hy (fun m => y_ld1 rfl ag9 (ld_blk (m.blk 0 rfl) rfl)) <| hy (fun _ => y_fld rfl fa65_1 (by decide)) <| hy (fun m => y_ld1 rfl ag47 (ld_blk (m.blk 0 rfl) rfl)) <| ?_
  refine hx0 (xh_mapup (enc := SV) 1 rfl rfl rfl rfl Try.underlying58 (strKey Try.underlying9) ?_)
  refine hend <| hsub (ρ' := [(2, _), (0, _), (1, _)]) ⟨rfl, rfl, rfl, trivial⟩ <| hmemQ (X' := [_, _]) (S' := []) (fun _ m => m) <| ?_
  exact hret0 trivial rfl [0] rfl [] rfl ⟨rfl, rfl, rfl⟩
theorem aput_vals {l : Files} {p : List UInt8} {r x : BRow} (h : x ∈ (aput l p r).map (·.2)) : x ∈ l.map (·.2) ∨ x = r := by
  induction l with
  | nil => simp only [aput, List.map_cons, List.map_nil, List.mem_singleton] at h; exact .inr h
  | cons a q ih =>
    obtain ⟨k, u⟩ := a
    simp only [aput] at h
    split at h
    · simp only [List.map_cons, List.mem_cons] at h ⊢
      rcases h with rfl | h
      · exact .inr rfl
      · exact .inl (.inr h)
    · simp only [List.map_cons, List.mem_cons] at h ⊢
      rcases h with rfl | h
      · exact .inl (.inl rfl)
      · rcases ih h with h | h
        · exact .inl (.inr h)
        · exact .inr h
/-- behind a change: a file that is written -/
def DSt.wrote (st : DSt) (p : List UInt8) (r : BRow) (A : Option Addr) (c : Nat) : DSt := { st.spent with seen := aput st.seen p r, waits := st.waits ++ [.written p r], wA := A, wc := c }
theorem rows_wrote {st : DSt} {p : List UInt8} {r : BRow} {A : Option Addr} {c : Nat} : ∀ x ∈ rowsOf (st.wrote p r A c), x ∈ rowsOf st ∨ x = r := by
  intro x hx
  unfold rowsOf DSt.wrote at hx
  simp only [DSt.spent, List.mem_append, List.filterMap_append] at hx
  unfold rowsOf
  simp only [List.mem_append]
  rcases hx with (h | h) | h | h
  · rcases aput_vals h with h | h
    · exact .inl (.inl (.inl h))
    · exact .inr h
  · exact .inl (.inl (.inr h))
  · exact .inl (.inr h)
  · simp [Chg.row] at h
    exact .inr h
theorem doWC {g : Nat} {st : DSt} {p : List UInt8} {r : BRow} {e : TypeId} (hp : st.power ≤ 1000000000000) (hw : st.waits.length ≤ 1000000) : Con Try.prog 45 [.pointer (some ⟨g, 0, none⟩), (Chg.written p r).val] [RDisk g st, ROwn e 1 (.slice r.A r.n r.c) r.n (b8s r.l)] [] (fun v_ X_ S_ => ∃ A c, v_ = (.tuple #[]) ∧ X_ = [RDisk g (st.wrote p r A c)] ∧ S_ = []) := by
  have hsw : st.spent.waits.length = st.waits.length := rfl
  refine henter (N := 25) Try.func45 rfl rfl (by simp) fun b => ?_
  refine hseq <| hreg <| hy (fun _ => y_move rfl) <| ?_
  refine hx (xh_call rfl Try.call46 (spendC (by omega)) [0] rfl [] rfl ?_)
  rintro _ _ _ ⟨rfl, rfl, rfl⟩
  refine hmemL (fun w m => (m.perm (takeR_perm [0] _ [_] _ rfl)).unpack) ?_
  refine hend <| hsub (ρ' := [(0, _), (1, _)]) ⟨rfl, rfl, trivial⟩ <| hmemQ (X' := [_, _, _, _, _, _]) (S' := []) (fun _ m => m) <| hthen <| hseq <| hdrw [8] [(0, some 0), (1, some 0), (2, some 0), (3, some 0), (4, some 0), (5, some 0), (6, some 0), (7, some 0), (8, none)] (by kernel_rfl) (by kernel_rfl) rfl 0 <| htyU (y_move rfl) <| htyU (y_move rfl) <| htyU (y_nilp rfl) <| htyU (y_fld rfl fa61_1 (by decide)) <| hty (fun m => y_ld1 rfl ag58 (ld_blk (m.blk 0 rfl) rfl)) <| htyU (y_mkf rfl rfl) <| htyU (y_nilm rfl (by kernel_rfl)) <| htyU (y_move rfl) <| ?_
  refine htx (xh_inv rfl rfl (fun w => by kernel_rfl) Try.call27 (wmakeC) [1] rfl [] rfl ?_)
  rintro _ _ _ ⟨rfl, rfl, rfl⟩
  refine ⟨(fun h => absurd h (by decide)), ?_⟩
  refine htend <| hsub (ρ' := [(0, _), (1, _)]) ⟨rfl, rfl, trivial⟩ <| hmemQ (X' := [_, _, _, _, _, _]) (S' := []) (fun _ m => m) <| hthen <| hreg <| hy (fun _ => y_move rfl) <| hy (fun _ => y_move rfl) <| hy (fun _ => y_nilp rfl) <| hy (fun _ => y_fld rfl fa61_3 (by decide)) <| hy (fun m => y_ld1 rfl ag59 (ld_blk (m.blk 1 rfl) rfl)) <| hy (fun _ => y_move rfl) <| ?_
  refine hx (xh_bsl Try.underlying59 ti63 rfl rfl rfl (by simp [Value.cells, Chg.val]) (by decide) (by decide) (fun g21 => ?_))
  have hA_b21 : 0 < 1 → (some (⟨g21, 0, none⟩ : Addr)) ≠ none := fun _ h => by cases h
  refine hmemL (fun w m => m.eqX 0 rfl (show _ = ROwn 63 1 (.slice (some ⟨g21, 0, none⟩) 1 1) 1 [(Chg.written p r).val] from rfl)) ?_
  refine hx (xh_app 4 rfl rfl rfl Try.underlying59 Try.underlying59 (by exact .inl rfl) ti63 rfl (fun m => Src.of_rd (m.ord 0 rfl)) (by simp [Chg.val, Value.oneCell']) (by unfold maxLen; omega) (by omega) (fun u => ?_))
  refine hfactL (fun m => (m.own 0 rfl).slice) ?_
  rintro ⟨A_d3, c_d3, rfl, hc_d3⟩
  refine hfactL (fun m => (m.ord 0 rfl).2.1) fun hA_d3 => ?_
  refine hy (fun _ => y_nilp rfl) <| hy (fun _ => y_fld rfl fa61_3 (by decide)) <| ?_
  refine hx0 (xh_st1a 3 rfl rfl rfl sz59 rfl (by first | exact Nat.le_of_ble_eq_true rfl | simp) ?_)
  refine hend <| hsub (ρ' := [(0, _), (1, _)]) ⟨rfl, rfl, trivial⟩ <| hmemQ (X' := [_, _, _, _, _, _, _]) (S' := []) (fun _ m => m) <| ?_
  refine hmemQ (fun w m => m.eqX 0 rfl (show _ = RBlk g 61 (dcells (st.wrote p r A_d3 c_d3)) from by simp [dcells, DSt.wrote, DSt.spent])) ?_
  refine hmemQ (fun w m => m.eqX 3 rfl (show _ = RMap SV st.gs (vals (st.wrote p r A_d3 c_d3).seen) from congrArg (RMap SV st.gs) (vals_put _ _ _))) ?_
  refine hmemQ (fun w m => m.eqX 2 rfl (show _ = ROwn 63 1 (.slice A_d3 (st.wrote p r A_d3 c_d3).waits.length c_d3) (st.wrote p r A_d3 c_d3).waits.length ((st.wrote p r A_d3 c_d3).waits.map Chg.val) from by simp [DSt.wrote, DSt.spent])) ?_
  refine hmemQ (X' := RRows (rowsOf (st.wrote p r A_d3 c_d3)) :: _) (fun w m => (m.perm (takeR_perm [5, 5] _ [_, _] _ rfl)).rowAdd (rows_wrote)) ?_
  refine hmemQ (X' := RDisk g (st.wrote p r A_d3 c_d3) :: _) (fun w m => (m.perm (takeR_perm [3, 2, 3, 1, 0] _ [_, _, _, _, _] _ rfl)).pack) ?_
  exact hret0 trivial rfl [0] rfl [] rfl ⟨_, _, rfl, rfl, rfl⟩
/-- what is told of a Write -/
def writeE (st : DSt) (p : List UInt8) (n : Nat) : Int := if ¬ Named p then 1 else if st.power = 0 then 6 else if st.room < (tot st.seen : Int) - (((aget st.seen p).map (·.n)).getD 0 : Nat) + n then 5 else 0
theorem tot_le : ∀ {l : Files} {m : Nat}, (∀ x ∈ l, x.2.n ≤ m) → tot l ≤ l.length * m
  | [], m, h => by simp [tot]
  | a :: q, m, h => by
    have := tot_le (l := q) (m := m) (fun x hx => h x (List.mem_cons_of_mem _ hx))
    have h1 := h a (List.mem_cons_self ..)
    simp only [tot, List.map_cons, List.sum_cons, List.length_cons, Nat.add_mul] at this ⊢
    omega
/-- what a disk is, in numbers -/
structure DOk (st : DSt) (k : Nat) : Prop where
  power : st.power ≤ 1000000000000
  room : st.room ≤ 1048576
  seen : st.seen.length ≤ k
  rest : st.lasts.length + st.waits.length ≤ k
  small : ∀ r ∈ rowsOf st, r.n ≤ 1048576
theorem DOk.le {st : DSt} {k k' : Nat} (h : DOk st k) (hk : k ≤ k') : DOk st k' := ⟨h.power, h.room, Nat.le_trans h.seen hk, Nat.le_trans h.rest hk, h.small⟩
theorem DOk.tot {st : DSt} {k : Nat} (h : DOk st k) : tot st.seen ≤ k * 1048576 := Nat.le_trans (tot_le (m := 1048576) (fun x hx => h.small _ (by unfold rowsOf; exact List.mem_append_left _ (List.mem_append_left _ (List.mem_map.2 ⟨x, hx, rfl⟩))))) (Nat.mul_le_mul_right _ h.seen)
theorem DOk.sm {st : DSt} {k : Nat} (h : DOk st k) : Small st := fun r hr => Nat.le_trans (h.small r hr) (by decide)
theorem DOk.init {n : Int} {gs gl : Nat} (h : n ≤ 1048576) : DOk (dinit n gs gl) 0 := ⟨by simp [dinit], h, Nat.le_refl _, Nat.le_refl _, fun r hr => by simp [rowsOf, dinit] at hr⟩
theorem aput_len (l : Files) (p : List UInt8) (r : BRow) : (aput l p r).length ≤ l.length + 1 := by
  induction l with
  | nil => simp [aput]
  | cons a q ih =>
    obtain ⟨k, u⟩ := a
    simp only [aput]
    split <;> simp only [List.length_cons] <;> omega
theorem adel_len (l : Files) (p : List UInt8) : (adel l p).length ≤ l.length := by
  induction l with
  | nil => simp [adel]
  | cons a q ih =>
    obtain ⟨k, u⟩ := a
    simp only [adel]
    split <;> simp only [List.length_cons] <;> omega
theorem spent_power {st : DSt} (h : st.power ≤ 1000000000000) : st.spent.power ≤ 1000000000000 := by
  simp only [DSt.spent]
  split <;> omega
theorem DOk.wrote {st : DSt} {k : Nat} (h : DOk st k) {p : List UInt8} {r : BRow} (hr : r.n ≤ 1048576) (A : Option Addr) (c : Nat) : DOk (st.wrote p r A c) (k + 1) := by
  refine ⟨spent_power h.power, h.room, ?_, ?_, fun x hx => ?_⟩
  · have := aput_len st.seen p r
    have := h.seen
    show (aput st.seen p r).length ≤ k + 1
    omega
  · have := h.rest
    show st.lasts.length + (st.waits ++ [Chg.written p r]).length ≤ k + 1
    simp only [List.length_append, List.length_cons, List.length_nil]
    omega
  · rcases rows_wrote x hx with h' | rfl
    · exact h.small x h'
    · exact hr
theorem writeC {g : Nat} {st : DSt} {p : List UInt8} {A : Option Addr} {n c : Nat} {l : List UInt8} {k : Nat} (ok : DOk st k) (hk : k ≤ 100000) (hn : n ≤ 1048576) : Con Try.prog 23 [.pointer (some ⟨g, 0, none⟩), .string (strOf p), .slice A n c] [RDisk g st] [RRd 1 A n (b8s l)] (fun v_ X_ S_ => ∃ st1 B c1 A1 c2, v_ = (.int .i64 (writeE st p n)) ∧ X_ = [RDisk g st1] ∧ S_ = [] ∧ ((writeE st p n ≠ 0 ∧ st1 = st) ∨ (writeE st p n = 0 ∧ st1 = st.wrote p ⟨B, n, c1, l⟩ A1 c2))) := by
  have hp := ok.power
  have hw : st.waits.length ≤ 1000000 := by have := ok.rest; omega
  have ht : tot st.seen ≤ 1000000000000 := by have := ok.tot; omega
  have hs := ok.sm
  refine henter (N := 41) Try.func23 rfl rfl (by simp) fun b => ?_
  refine hfactC (fun m => rdB (m.rd 0 rfl)) ?_
  rintro ⟨hl_r, hA_r⟩
  refine hseq <| hreg <| hy (fun _ => y_assign rfl) <| hend <| hthen <| hseq <| hblock <| hseq <| hreg <| hy (fun _ => y_move rfl) <| ?_
  refine hx (xh_call rfl Try.call42 (namedC) [] rfl [] rfl ?_)
  rintro _ _ _ ⟨rfl, rfl, rfl⟩
  refine hy (fun _ => y_notp rfl) <| hy (fun _ => y_assign rfl) <| hend <| hsub (ρ' := [(7, _), (6, _), (0, _), (1, _), (2, _)]) ⟨rfl, rfl, rfl, rfl, rfl, trivial⟩ <| hmemQ (X' := [_]) (S' := [_]) (fun _ m => m) <| hthen <| ?_
  refine hif rfl (fun h1 => ?_) (fun h1 => ?_)
  · have e : writeE st p n = 1 := by rw [writeE, if_pos h1]
    rw [e]
    refine hseq <| hreg <| hy (fun _ => y_assign rfl) <| hend <| hthen <| hret <| hqblock_ret <| hthen_ret <| ?_
    exact hret1 trivial rfl rfl [0] rfl [] rfl ⟨_, none, 0, none, 0, rfl, rfl, rfl, .inl ⟨by decide, rfl⟩⟩
  · refine hseq <| hreg <| hy (fun _ => y_move rfl) <| ?_
    refine hx (xh_call rfl Try.call43 (upC) [0] rfl [] rfl ?_)
    rintro _ _ _ ⟨rfl, rfl, rfl⟩
    refine hy (fun _ => y_notp rfl) <| hy (fun _ => y_assign rfl) <| hend <| hsub (ρ' := [(11, _), (7, _), (6, _), (0, _), (1, _), (2, _)]) ⟨rfl, rfl, rfl, rfl, rfl, rfl, trivial⟩ <| hmemQ (X' := [_]) (S' := [_]) (fun _ m => m) <| hthen <| ?_
    refine hif rfl (fun h2 => ?_) (fun h2 => ?_)
    · have e : writeE st p n = 6 := by rw [writeE, if_neg h1, if_pos (by omega)]
      rw [e]
      refine hseq <| hreg <| hy (fun _ => y_assign rfl) <| hend <| hthen <| hret <| hqblock_ret <| hthen_ret <| ?_
      exact hret1 trivial rfl rfl [0] rfl [] rfl ⟨_, none, 0, none, 0, rfl, rfl, rfl, .inl ⟨by decide, rfl⟩⟩
    · have hwe : writeE st p n = if st.room < (tot st.seen : Int) - (((aget st.seen p).map (·.n)).getD 0 : Nat) + n then 5 else 0 := by rw [writeE, if_neg h1, if_neg (by omega)]
      have hv : ∃ B m c0, lookVal false (.slice none 0 0) (aget (vals st.seen) p) = .slice B m c0 ∧ m = ((aget st.seen p).map (·.n)).getD 0 ∧ m ≤ 1000000000 := by
        rw [vals_get]
        cases hq : aget st.seen p with
        | none => exact ⟨none, 0, 0, rfl, rfl, by decide⟩
        | some r => exact ⟨r.A, r.n, r.c, rfl, rfl, hs r (mem_seen hq)⟩
      obtain ⟨B, m, c0, hv1, hv2, hv3⟩ := hv
      rw [← hv2] at hwe
      refine hseq <| hdrw [1] [(0, some 0), (2, some 1), (3, some 1), (4, some 1), (5, some 1), (6, some 1), (7, some 1), (8, some 1), (10, some 1), (11, some 1), (13, some 1), (14, some 1), (15, some 1), (16, some 1), (1, none), (9, some 1), (12, some 1), (17, some 1), (18, some 1)] (by kernel_rfl) (by kernel_rfl) rfl 99 <| htyU (y_move rfl) <| htyU (y_move rfl) <| htyU (y_nilp rfl) <| htyU (y_fld rfl fa61_1 (by decide)) <| hty (fun m => y_ld1 rfl ag58 (ld_blk (show Blk _ _ _ _ from m.inP 0 rfl 0 rfl) rfl)) <| htyU (y_move rfl) <| hty (fun m => yV (y_lookM (enc := SV) rfl rfl Try.underlying58 ti47 (strKey Try.underlying9) (show MapAt _ _ _ _ from m.inP 0 rfl 1 rfl)) (hv1)) <| htyU (y_lenS rfl Try.underlying47) <| htyU (y_move rfl) <| htyU (y_lenS rfl Try.underlying47) <| htyU (y_move rfl) <| htyU (y_nilp rfl) <| htyU (y_fld rfl fa61_0 (by decide)) <| hty (fun m => y_ld1 rfl ag3 (ld_blk (show Blk _ _ _ _ from m.inP 0 rfl 0 rfl) rfl)) <| ?_
      refine htx (xh_call rfl Try.call44 (usedC (by omega)) [0] rfl [] rfl ?_)
      rintro _ _ _ ⟨rfl, rfl, rfl⟩
      refine ⟨(fun _ => wk [0] [0] rfl rfl), ?_⟩
      refine htyU (y_sub rfl rfl (w64 (by omega) (by omega))) <| htyU (y_add rfl rfl (w64 (by omega) (by omega))) <| htyU (y_gtr rfl rfl) <| htyU (y_assign rfl) <| htend <| hsub (ρ' := [(15, _), (11, _), (7, _), (6, _), (0, _), (1, _), (2, _)]) ⟨rfl, rfl, rfl, rfl, rfl, rfl, rfl, trivial⟩ <| hmemQ (X' := [_]) (S' := [_]) (fun _ m => m) <| hthen <| ?_
      refine hif rfl (fun h3 => ?_) (fun h3 => ?_)
      · rw [if_pos (by omega)] at hwe
        rw [hwe]
        refine hseq <| hreg <| hy (fun _ => y_assign rfl) <| hend <| hthen <| hret <| hqblock_ret <| hthen_ret <| ?_
        exact hret1 trivial rfl rfl [0] rfl [] rfl ⟨_, none, 0, none, 0, rfl, rfl, rfl, .inl ⟨by decide, rfl⟩⟩
      · rw [if_neg (by omega)] at hwe
        rw [hwe]
        refine hcskip <| hqblock <| hthen <| hseq <| hreg <| hy (fun _ => y_move rfl) <| hy (fun _ => y_move rfl) <| hy (fun _ => y_move rfl) <| ?_
        refine hx (xh_call rfl Try.call36 (cloneC (by omega)) [] rfl [0] rfl ?_)
        rintro _ _ _ ⟨v, rfl, rfl, rfl⟩
        refine hfactL (fun m => (m.own 0 rfl).slice) ?_
        rintro ⟨A_x, c_x, rfl, hc_x⟩
        refine hfactL (fun m => (m.ord 0 rfl).2.1) fun hA_x => ?_
        refine hy (fun _ => yV (y_build ti65 rfl rfl (by kernel_rfl) (.cons (o := 0) (sz := 1) (by kernel_rfl) rfl rfl (Nat.le_of_ble_eq_true rfl) (.cons (o := 1) (sz := 1) (by kernel_rfl) rfl rfl (Nat.le_of_ble_eq_true rfl) .nil))) ((rfl : _ = Value.agg [SV p, Value.slice A_x n c_x].toArray))) <| hy (fun _ => y_mki rfl Try.underlying65 (fun _ h => by cases h)) <| ?_
        refine hx (xh_call rfl Try.call45 (doWC (by omega) (by omega) (r := ⟨A_x, n, c_x, l⟩)) [1, 0] rfl [] rfl ?_)
        rintro _ _ _ ⟨A2, c2, rfl, rfl, rfl⟩
        refine hend <| hsub (ρ' := [(15, _), (11, _), (7, _), (6, _), (0, _), (1, _), (2, _)]) ⟨rfl, rfl, rfl, rfl, rfl, rfl, rfl, trivial⟩ <| hmemQ (X' := [_]) (S' := [_]) (fun _ m => m) <| hthen <| hseq <| hreg <| hy (fun _ => y_assign rfl) <| hend <| hthen <| hret <| ?_
        exact hret1 trivial rfl rfl [0] rfl [] rfl ⟨_, _, _, _, _, rfl, rfl, rfl, .inr ⟨rfl, rfl⟩⟩
theorem mcloneC {g : Nat} {l : List (List UInt8 × Value)} : Con Try.prog 28 [.map (some g)] [RMap SV g l] [] (fun v_ X_ S_ => ∃ g1, v_ = (.map (some g1)) ∧ X_ = [RMap SV g l, RMap SV g1 l] ∧ S_ = []) := by
  refine henter (N := 9) Try.func28 rfl rfl (by simp) fun b => ?_
  refine hseq <| hreg <| hy (fun _ => y_assign rfl) <| hend <| hthen <| hseq <| hseq <| hreg <| hy (fun _ => y_move rfl) <| hy (fun _ => y_eqMn rfl rfl Try.underlying58) <| hend <| hsub (ρ' := [(4, _), (2, _), (0, _)]) ⟨rfl, rfl, rfl, trivial⟩ <| hthen <| ?_
  refine hiff rfl (rfl) ?_
  refine hcskip <| hthen <| hseq <| hreg <| hy (fun _ => y_move rfl) <| hy (fun _ => y_mki rfl Try.underlying58 (fun _ h => by cases h)) <| ?_
  refine hx (xh_mclone 0 rfl rfl Try.func47 (by kernel_rfl) (by kernel_rfl) (by kernel_rfl) (by kernel_rfl) (fun g1 => ?_))
  refine hy (fun _ => y_tas rfl (show _ = Result.ok (Value.map (some g1)) _ by kernel_rfl)) <| hy (fun _ => y_assign rfl) <| hend <| hsub (ρ' := [(2, _), (4, _), (0, _)]) ⟨rfl, rfl, rfl, trivial⟩ <| hmemQ (X' := [_, _]) (S' := []) (fun _ m => m) <| hthen <| hret <| ?_
  exact hret1 trivial rfl rfl [1, 0] rfl [] rfl ⟨_, rfl, rfl, rfl⟩
/-- behind a Sync -/
def DSt.synced (st : DSt) (gl : Nat) : DSt := { st.spent with gl := gl, lasts := st.seen, waits := [], wA := none, wc := 0 }
def syncE (st : DSt) : Int := if st.power = 0 then 6 else 0
theorem rows_synced {st : DSt} {gl : Nat} : ∀ x ∈ rowsOf (st.synced gl), x ∈ rowsOf st := by
  intro x hx
  unfold rowsOf DSt.synced at hx
  simp only [DSt.spent, List.filterMap_nil, List.append_nil, List.mem_append, or_self] at hx
  unfold rowsOf
  exact List.mem_append_left _ (List.mem_append_left _ hx)
theorem DOk.synced {st : DSt} {k : Nat} (h : DOk st k) (gl : Nat) : DOk (st.synced gl) k :=
  ⟨spent_power h.power, h.room, h.seen, by show st.seen.length + 0 ≤ k; have := h.seen; omega, fun x hx => h.small x (rows_synced x hx)⟩
theorem syncC {g : Nat} {st : DSt} {k : Nat} (ok : DOk st k) : Con Try.prog 24 [.pointer (some ⟨g, 0, none⟩)] [RDisk g st] [] (fun v_ X_ S_ => ∃ st1 gl, v_ = (.int .i64 (syncE st)) ∧ X_ = [RDisk g st1] ∧ S_ = [] ∧ ((st.power = 0 ∧ st1 = st) ∨ (st.power ≠ 0 ∧ st1 = st.synced gl))) := by
  refine henter (N := 19) Try.func24 rfl rfl (by simp) fun b => ?_
  refine hseq <| hreg <| hy (fun _ => y_assign rfl) <| hend <| hthen <| hseq <| hseq <| hreg <| hy (fun _ => y_move rfl) <| ?_
  refine hx (xh_call rfl Try.call43 (upC) [0] rfl [] rfl ?_)
  rintro _ _ _ ⟨rfl, rfl, rfl⟩
  refine hy (fun _ => y_notp rfl) <| hend <| hsub (ρ' := [(5, _), (2, _), (0, _)]) ⟨rfl, rfl, rfl, trivial⟩ <| hmemQ (X' := [_]) (S' := []) (fun _ m => m) <| hthen <| ?_
  refine hif rfl (fun h1 => ?_) (fun h1 => ?_)
  · have h0 : st.power = 0 := Decidable.not_not.1 h1
    have e : syncE st = 6 := by rw [syncE, if_pos h0]
    rw [e]
    refine hseq <| hreg <| hy (fun _ => y_assign rfl) <| hend <| hthen <| hret <| hthen_ret <| ?_
    exact hret1 trivial rfl rfl [0] rfl [] rfl ⟨_, 0, rfl, rfl, rfl, .inl ⟨h0, rfl⟩⟩
  · have h0 : st.power ≠ 0 := fun e => h1 (fun h => h e)
    have e : syncE st = 0 := by rw [syncE, if_neg h0]
    rw [e]
    have hp := ok.power
    refine hcskip <| hthen <| hseq <| hreg <| hy (fun _ => y_move rfl) <| ?_
    refine hx (xh_call rfl Try.call46 (spendC (by omega)) [0] rfl [] rfl ?_)
    rintro _ _ _ ⟨rfl, rfl, rfl⟩
    refine hmemL (fun w m => (m.perm (takeR_perm [0] _ [_] _ rfl)).unpack) ?_
    refine hend <| hsub (ρ' := [(5, _), (2, _), (0, _)]) ⟨rfl, rfl, rfl, trivial⟩ <| hmemQ (X' := [_, _, _, _, _]) (S' := []) (fun _ m => m) <| hthen <| hseq <| hreg <| hy (fun _ => y_move rfl) <| hy (fun _ => y_move rfl) <| hy (fun _ => y_move rfl) <| hy (fun _ => y_nilp rfl) <| hy (fun _ => y_fld rfl fa61_1 (by decide)) <| hy (fun m => y_ld1 rfl ag58 (ld_blk (m.blk 0 rfl) rfl)) <| ?_
    refine hx (xh_call rfl Try.call28 (mcloneC) [1] rfl [] rfl ?_)
    rintro _ _ _ ⟨g1, rfl, rfl, rfl⟩
    refine hy (fun _ => y_nilp rfl) <| hy (fun _ => y_fld rfl fa61_2 (by decide)) <| ?_
    refine hx0 (xh_st1a 2 rfl rfl rfl sz58 rfl (by first | exact Nat.le_of_ble_eq_true rfl | simp) ?_)
    refine hy (fun _ => y_nilp rfl) <| hy (fun _ => y_fld rfl fa61_3 (by decide)) <| ?_
    refine hx0 (xh_st1a 0 rfl rfl rfl sz59 rfl (by first | exact Nat.le_of_ble_eq_true rfl | simp) ?_)
    refine hend <| hsub (ρ' := [(5, _), (2, _), (0, _)]) ⟨rfl, rfl, rfl, trivial⟩ <| hmemQ (X' := [_, _, _, _, _, _]) (S' := []) (fun _ m => m) <| hthen <| hseq <| hreg <| hy (fun _ => y_assign rfl) <| hend <| hthen <| hret <| ?_
    refine hmemQ (fun w m => m.addX (r' := ROwn 63 1 (.slice none 0 0) 0 []) (.refl _ _) (Own.nil _ _ _ _) (fun k hk => hk.elim)) ?_
    refine hmemQ (fun w m => Mem.dropX' (X := [_]) (m.perm (takeR_perm [4] _ [_] _ rfl))) ?_
    refine hmemQ (fun w m => Mem.dropX' (X := [_]) (m.perm (takeR_perm [4] _ [_] _ rfl))) ?_
    refine hmemQ (fun w m => m.eqX 1 rfl (show _ = RBlk g 61 (dcells (st.synced g1)) from rfl)) ?_
    refine hmemQ (X' := RRows (rowsOf (st.synced g1)) :: _) (fun w m => (m.perm (takeR_perm [4] _ [_] _ rfl)).rowSub (rows_synced)) ?_
    refine hmemQ (X' := RDisk g (st.synced g1) :: _) (fun w m => (m.perm (takeR_perm [1, 2, 2, 1, 0] _ [_, _, _, _, _] _ rfl)).pack) ?_
    exact hret1 trivial rfl rfl [0] rfl [] rfl ⟨_, _, rfl, rfl, rfl, .inr ⟨h0, rfl⟩⟩
end Go.Proofs.Ytlbecpekemlllaa
end
section
/- Contracts: a disk's Restart, where only files that were written wait. -/
set_option linter.unusedVariables false
set_option linter.unusedSimpArgs false
set_option maxRecDepth 20000
namespace Go.Proofs.Ytlbecpekemlllaa
open Go.Eng Go.Hx
def bools (l : List Bool) : List Value := l.map Value.bool
theorem nextBitC {g n c : Nat} {A : Option Addr} {bs : List Bool} (hc : n ≤ c) : Con Try.prog 26 [.pointer (some ⟨g, 0, none⟩)] [RBlk g 27 [.slice A n c]] [RRd 1 A n (bools bs)] (fun v_ X_ S_ => ∃ A1 n1 c1, v_ = (.bool (bs.headD false)) ∧ X_ = [RBlk g 27 [.slice A1 n1 c1]] ∧ S_ = [RRd 1 A1 n1 (bools bs.tail)] ∧ (n1 ≤ c1)) := by
  refine henter (N := 12) Try.func26 rfl rfl (by simp) fun b => ?_
  refine hfactC (fun m => rdX (m.rd 0 rfl)) ?_
  rintro ⟨hl_r, hA_r⟩
  have hbl : bs.length = n := by simpa [bools] using hl_r
  refine hseq <| hreg <| hy (fun _ => y_assign rfl) <| hend <| hthen <| hseq <| hseq <| hreg <| hy (fun m => y_ld1 rfl ag27 (ld_blk (m.blk 0 rfl) rfl)) <| hy (fun _ => y_lenS rfl Try.underlying27) <| hy (fun _ => y_eql rfl rfl) <| hend <| hsub (ρ' := [(5, _), (1, _), (0, _)]) ⟨rfl, rfl, rfl, trivial⟩ <| hthen <| ?_
  refine hif rfl (fun h => ?_) (fun h => ?_)
  · obtain rfl : bs = [] := List.eq_nil_of_length_eq_zero (by omega)
    refine hseq <| hreg <| hy (fun _ => y_assign rfl) <| hend <| hthen <| hret <| hthen_ret <| ?_
    refine hmemQ (fun w m => m.asV 0 rfl .same) ?_
    refine hfactQ (fun m => rdX (m.rd 0 rfl)) ?_
    rintro ⟨hl_q, hA_q⟩
    exact hret1 trivial rfl rfl [0] rfl [0] rfl ⟨_, _, _, rfl, rfl, rfl, hc⟩
  · obtain ⟨b1, t, rfl⟩ : ∃ b1 t, bs = b1 :: t := by
      cases bs with
      | nil => simp at hbl; omega
      | cons b1 t => exact ⟨b1, t, rfl⟩
    refine hmemC (fun w m => m.asV 0 rfl (View.dropV (k := 1) hc (by omega))) ?_
    refine hfactC (fun m => rdX (m.rd 0 rfl)) ?_
    rintro ⟨hl_q, hA_q⟩
    refine hcskip <| hthen <| hseq <| hreg <| hy (fun m => y_ld1 rfl ag27 (ld_blk (m.blk 0 rfl) rfl)) <| hy (fun _ => y_idxS1 rfl rfl Try.underlying27 sz4 hA_r (show ((0 : Nat) : Int) = 0 from rfl) (by omega)) <| hy (fun m => y_ld1 rfl ag4 ((m.rd 1 rfl).cell (j := 0) rfl)) <| hy (fun _ => y_assign rfl) <| hend <| hsub (ρ' := [(2, _), (5, _), (1, _), (0, _)]) ⟨rfl, rfl, rfl, rfl, trivial⟩ <| hthen <| hseq <| hreg <| hy (fun m => y_ld1 rfl ag27 (ld_blk (m.blk 0 rfl) rfl)) <| hy (fun _ => y_slFrom rfl rfl Try.underlying27 sz4 (show ((1 : Nat) : Int) = 1 from rfl) (by omega)) <| ?_
    refine hx0 (xh_st1 0 rfl rfl rfl sz27 rfl (by first | exact Nat.le_of_ble_eq_true rfl | simp) ?_)
    refine hend <| hsub (ρ' := [(2, _), (5, _), (1, _), (0, _)]) ⟨rfl, rfl, rfl, rfl, trivial⟩ <| hmemQ (X' := [_]) (S' := [_, _]) (fun _ m => m) <| hthen <| hseq <| hreg <| hy (fun _ => y_move rfl) <| hy (fun _ => y_assign rfl) <| hend <| hsub (ρ' := [(1, _), (2, _), (5, _), (0, _)]) ⟨rfl, rfl, rfl, rfl, trivial⟩ <| hthen <| hret <| ?_
    exact hret1 trivial rfl rfl [0] rfl [0] rfl ⟨_, _, _, rfl, rfl, rfl, (by omega)⟩
/-- one change that waits, at a restart: the bits that are left, and the files -/
def rstep (st : List Bool × Files) (c : Chg) : List Bool × Files :=
  if st.1.headD false then
    match c with
    | .written p r => (st.1.tail.tail, aput st.2 p (if st.1.tail.headD false then r else r.half))
    | .renamed a b => (st.1.tail, match aget st.2 a with
      | none => st.2
      | some r => aput (adel st.2 a) b r)
    | .removed p => (st.1.tail, adel st.2 p)
  else (st.1.tail, st.2)
def rfold (keep : List Bool) (st : DSt) (i : Nat) : List Bool × Files := (st.waits.take i).foldl rstep (keep, st.lasts)
theorem rfold_succ {keep : List Bool} {st : DSt} {i : Nat} {c : Chg} (h : st.waits[i]? = some c) : rfold keep st (i + 1) = rstep (rfold keep st i) c := by
  unfold rfold
  obtain ⟨hi, rfl⟩ := List.getElem?_eq_some_iff.1 h
  rw [List.take_succ_eq_append_getElem hi, List.foldl_append]
  rfl
def Half (rows : List BRow) (r : BRow) : Prop := ∃ q ∈ rows, r = q ∨ ∃ k, k ≤ q.n ∧ r = ⟨q.A, k, q.c, q.l.take k⟩
theorem rfold_rows {keep : List Bool} {st : DSt} (i : Nat) : ∀ r ∈ (rfold keep st i).2.map (·.2), Half (rowsOf st) r := by
  have base : ∀ r ∈ st.lasts.map (·.2), Half (rowsOf st) r := fun r hr => ⟨r, by unfold rowsOf; exact List.mem_append_left _ (List.mem_append_right _ hr), .inl rfl⟩
  have adel_vals : ∀ {l : Files} {p : List UInt8} {x : BRow}, x ∈ (adel l p).map (·.2) → x ∈ l.map (·.2) := fun {l p x} h => by
    induction l with
    | nil => exact h
    | cons a q ih =>
      obtain ⟨k, u⟩ := a
      simp only [adel] at h
      split at h
      · exact List.mem_cons_of_mem _ h
      · simp only [List.map_cons, List.mem_cons] at h ⊢
        rcases h with rfl | h
        · exact .inl rfl
        · exact .inr (ih h)
  induction i with
  | zero => intro r hr; exact base r (by simpa [rfold] using hr)
  | succ i ih =>
    cases hc : st.waits[i]? with
    | none =>
      have : rfold keep st (i + 1) = rfold keep st i := by
        unfold rfold
        have := List.getElem?_eq_none_iff.1 hc
        rw [List.take_of_length_le (by omega), List.take_of_length_le this]
      rw [this]
      exact ih
    | some c =>
      rw [rfold_succ hc]
      have hcm := List.mem_of_getElem? hc
      intro r hr
      unfold rstep at hr
      split at hr
      · cases c with
        | written p q =>
          have hq : q ∈ rowsOf st := by
            unfold rowsOf
            exact List.mem_append_right _ (List.mem_filterMap.2 ⟨_, hcm, rfl⟩)
          rcases aput_vals hr with h | h
          · exact ih r h
          · rw [h]
            split
            · exact ⟨q, hq, .inl rfl⟩
            · exact ⟨q, hq, .inr ⟨q.n / 2, by omega, rfl⟩⟩
        | renamed a b =>
          simp only at hr
          split at hr
          · exact ih r hr
          · rename_i u hu
            rcases aput_vals hr with h | h
            · exact ih r (adel_vals h)
            · rw [h]; exact ih u (List.mem_map.2 ⟨_, aget_mem hu, rfl⟩)
        | removed p => exact ih r (adel_vals hr)
      · exact ih r hr
/-- behind a restart -/
def DSt.started (st : DSt) (keep : List Bool) (gs : Nat) : DSt :=
  let L := (rfold keep st st.waits.length).2
  { st with gs := gs, seen := L, lasts := L, waits := [], wA := none, wc := 0, power := -1 }
theorem rows_started {st : DSt} {keep : List Bool} (gs : Nat) : ∀ r ∈ rowsOf (st.started keep gs), Half (rowsOf st) r := by
  intro r hr
  unfold rowsOf DSt.started at hr
  simp only [List.filterMap_nil, List.append_nil, List.mem_append, or_self] at hr
  exact rfold_rows _ r hr
theorem rfold_len (keep : List Bool) (st : DSt) (i : Nat) : (rfold keep st i).2.length ≤ st.lasts.length + i := by
  induction i with
  | zero => simp [rfold]
  | succ i ih =>
    cases hc : st.waits[i]? with
    | none =>
      have : rfold keep st (i + 1) = rfold keep st i := by
        unfold rfold
        have := List.getElem?_eq_none_iff.1 hc
        rw [List.take_of_length_le (by omega), List.take_of_length_le this]
      rw [this]; omega
    | some c =>
      rw [rfold_succ hc]
      unfold rstep
      split
      · cases c with
        | written p r =>
          have := aput_len (rfold keep st i).2 p (if (rfold keep st i).1.tail.headD false then r else r.half)
          show (aput _ _ _).length ≤ _
          omega
        | renamed a b =>
          simp only
          split
          · omega
          · rename_i u hu
            have h1 := aput_len (adel (rfold keep st i).2 a) b u
            have h2 := adel_len (rfold keep st i).2 a
            omega
        | removed p =>
          have h2 := adel_len (rfold keep st i).2 p
          show (adel _ _).length ≤ _
          omega
      · show (rfold keep st i).2.length ≤ _
        omega
theorem DOk.started {st : DSt} {k : Nat} (h : DOk st k) (keep : List Bool) (gs : Nat) : DOk (st.started keep gs) k := by
  have hl := rfold_len keep st st.waits.length
  have hr := h.rest
  refine ⟨by show (-1 : Int) ≤ _; omega, h.room, ?_, ?_, fun x hx => ?_⟩
  · show (rfold keep st st.waits.length).2.length ≤ k
    omega
  · show (rfold keep st st.waits.length).2.length + 0 ≤ k
    omega
  · obtain ⟨q, hq, rfl | ⟨j, hj, rfl⟩⟩ := rows_started gs x hx
    · exact h.small _ hq
    · exact Nat.le_trans hj (h.small q hq)
def Wr (st : DSt) : Prop := ∀ c ∈ st.waits, ∃ p r, c = .written p r
end Go.Proofs.Ytlbecpekemlllaa
end
section
/- How bytes stand: plain lists; and the entry of bytes.Compare over slices. No program. -/
set_option linter.unusedVariables false
set_option linter.unusedSimpArgs false
namespace Go.Hx
open Go.Eng
abbrev cb := Lib.compareBytes
theorem u8_tri (a b : UInt8) : a < b ∨ a = b ∨ b < a := by
  rcases Nat.lt_trichotomy a.toNat b.toNat with h | h | h
  · exact .inl h
  · exact .inr (.inl (UInt8.toNat_inj.1 h))
  · exact .inr (.inr h)
theorem cb_self : ∀ a : List UInt8, cb a a = 0
  | [] => rfl
  | x :: a => by simp [cb, Lib.compareBytes, UInt8.lt_irrefl]; exact cb_self a
theorem cb_cons (x y : UInt8) (a b : List UInt8) : cb (x :: a) (y :: b) = if x < y then -1 else if y < x then 1 else cb a b := rfl
theorem u8_asymm {x y : UInt8} (h : x < y) : ¬ y < x := by
  have : x.toNat < y.toNat := h
  intro h'
  have : y.toNat < x.toNat := h'
  omega
theorem cb_neg : ∀ a b : List UInt8, cb b a = - cb a b
  | [], [] => rfl
  | [], _ :: _ => rfl
  | _ :: _, [] => rfl
  | x :: a, y :: b => by
    rw [cb_cons, cb_cons]
    have ih := cb_neg a b
    rcases u8_tri x y with h | h | h
    · rw [if_neg (u8_asymm h), if_pos h, if_pos h]; rfl
    · subst h; simp [UInt8.lt_irrefl, ih]
    · rw [if_pos h, if_neg (u8_asymm h), if_pos h]
theorem cb_eq : ∀ a b : List UInt8, cb a b = 0 → a = b
  | [], [], _ => rfl
  | [], _ :: _, h => by simp [cb, Lib.compareBytes] at h
  | _ :: _, [], h => by simp [cb, Lib.compareBytes] at h
  | x :: a, y :: b, h => by
    rw [cb_cons] at h
    rcases u8_tri x y with h1 | h1 | h1
    · rw [if_pos h1] at h; omega
    · subst h1
      simp only [UInt8.lt_irrefl, if_false] at h
      rw [cb_eq a b h]
    · rw [if_neg (u8_asymm h1), if_pos h1] at h; omega
theorem cb_trans : ∀ a b c : List UInt8, cb a b ≤ 0 → cb b c ≤ 0 → cb a c ≤ 0
  | [], b, [], _, _ => by simp [cb, Lib.compareBytes]
  | [], b, _ :: _, _, _ => by simp [cb, Lib.compareBytes]
  | x :: a, [], c, h, _ => by simp [cb, Lib.compareBytes] at h
  | x :: a, y :: b, [], _, h => by simp [cb, Lib.compareBytes] at h
  | x :: a, y :: b, z :: c, h, h' => by
    rw [cb_cons] at h h' ⊢
    rcases u8_tri x y with h1 | h1 | h1
    · rcases u8_tri y z with h2 | h2 | h2
      · have : x < z := by
          have a1 : x.toNat < y.toNat := h1
          have a2 : y.toNat < z.toNat := h2
          show x.toNat < z.toNat
          omega
        rw [if_pos this]; decide
      · subst h2; rw [if_pos h1]; decide
      · rw [if_neg (u8_asymm h2), if_pos h2] at h'; omega
    · subst h1
      simp only [UInt8.lt_irrefl, if_false] at h
      rcases u8_tri x z with h2 | h2 | h2
      · rw [if_pos h2]; decide
      · subst h2
        simp only [UInt8.lt_irrefl, if_false] at h' ⊢
        exact cb_trans a b c h h'
      · rw [if_neg (u8_asymm h2), if_pos h2] at h'; omega
    · rw [if_neg (u8_asymm h1), if_pos h1] at h; omega
theorem cb_at : ∀ (a b : List UInt8) (k : Nat), a.take k = b.take k → k < a.length → k < b.length → cb a b = if a.getD k 0 < b.getD k 0 then -1 else if b.getD k 0 < a.getD k 0 then 1 else cb (a.drop (k + 1)) (b.drop (k + 1))
  | [], b, k, _, h, _ => by simp at h
  | _ :: _, [], k, _, _, h => by simp at h
  | x :: a, y :: b, 0, _, _, _ => by rw [cb_cons]; simp
  | x :: a, y :: b, k + 1, h, h1, h2 => by
    simp only [List.take_succ_cons, List.cons.injEq] at h
    obtain ⟨rfl, h⟩ := h
    rw [cb_cons]
    simp only [UInt8.lt_irrefl, if_false, List.getD_cons_succ, List.drop_succ_cons]
    exact cb_at a b k h (by simpa using h1) (by simpa using h2)
theorem cb_lt {a b : List UInt8} {k : Nat} (h : a.take k = b.take k) (h1 : k < a.length) (h2 : k < b.length) (hlt : a.getD k 0 < b.getD k 0) : cb a b = -1 := by rw [cb_at a b k h h1 h2, if_pos hlt]
theorem cb_gt {a b : List UInt8} {k : Nat} (h : a.take k = b.take k) (h1 : k < a.length) (h2 : k < b.length) (hlt : b.getD k 0 < a.getD k 0) : cb a b = 1 := by rw [cb_at a b k h h1 h2, if_neg (u8_asymm hlt), if_pos hlt]
theorem take_step {a b : List UInt8} {k : Nat} (h : a.take k = b.take k) (h1 : k < a.length) (h2 : k < b.length) (n1 : ¬ a.getD k 0 < b.getD k 0) (n2 : ¬ b.getD k 0 < a.getD k 0) : a.take (k + 1) = b.take (k + 1) := by
  rw [take_snoc h1, take_snoc h2, h]
  rcases u8_tri (a.getD k 0) (b.getD k 0) with h | h | h
  · exact absurd h n1
  · rw [h]
  · exact absurd h n2
/-- bytes read off cells -/
theorem run_bytes {P : Program} {w : World} {A : Option Addr} {n c : Nat} {l : List UInt8} (h : Rd w 1 A n (b8s l)) : (Extern.Bytes.bytesOf (.slice A n c)).run P w = .ok (strOf l) w := by
  have hl : l.length = n := by have := h.1; rw [b8s_length] at this; omega
  cases A with
  | none =>
    have : l = [] := by
      rcases Nat.eq_zero_or_pos n with h0 | h0
      · exact List.eq_nil_of_length_eq_zero (by omega)
      · exact absurd rfl (h.2.1 h0)
    subst this
    rfl
  | some a =>
    have hr := Lib.run_loadBytesX (P := P) (w := w) (l.map fun b => ((b.toNat : Nat) : Int)) a .empty (fun j x hx => by
      rw [List.getElem?_map, Option.map_eq_some_iff] at hx
      obtain ⟨u, hu, rfl⟩ := hx
      exact h.2.2 j (B8 u) (by simp [b8s, List.getElem?_map, hu]))
    have e : Lib.bytesOf (l.map fun b => ((b.toNat : Nat) : Int)) = l := by
      simp only [Lib.bytesOf, List.map_map]
      conv => rhs; rw [← List.map_id l]
      apply List.map_congr_left
      intro b _
      simp
    rw [e, List.length_map, hl] at hr
    simp only [Extern.Bytes.bytesOf]
    rw [hr]
    simp [strOf]
theorem run_compare {P : Program} {w : World} {A A' : Option Addr} {n c n' c' : Nat} {l l' : List UInt8} (h : Rd w 1 A n (b8s l)) (h' : Rd w 1 A' n' (b8s l')) : (Extern.BytealgCompare.compare #[.slice A n c, .slice A' n' c']).run P w = .ok (.int .i64 (cb l l')) w := by
  change Sem.run P (do pure (goInt (Extern.BytealgCompare.cmp (← Extern.Bytes.bytesOf (.slice A n c)) (← Extern.Bytes.bytesOf (.slice A' n' c'))))) w = _
  simp only [Sem.run_bind, Sem.run_pure, Result.andThen, run_bytes h, run_bytes h']
  rw [Lib.cmp_eq]
  rfl
end Go.Hx
end
section
/- Contracts of small functions on bytes and digests (as in my Hexa texts). -/
set_option linter.unusedVariables false
set_option linter.unusedSimpArgs false
set_option maxRecDepth 20000
namespace Go.Proofs.Ytlbecpekemlllaa
open Go.Eng Go.Hx
theorem bytesCompare (A : Option Addr) (n c : Nat) (l : List UInt8) (A' : Option Addr) (n' c' : Nat) (l' : List UInt8) (w : World) (h : Rd w 1 A n (b8s l)) (h' : Rd w 1 A' n' (b8s l')) :
    Calls Try.prog 57 #[.slice A n c, .slice A' n' c'] w fun e w' => e = .returned (.int .i64 (cb l l')) ∧ w = w' := by
  refine enter (N := 8) Try.func57 rfl rfl (by simp) ?_
  refine cseq <| creg <| nq (y_assign rfl) <| nend <| qthen <| cseq <| creg <| nq (y_move rfl) <| nq (y_move rfl) <| ?_
  refine nq (y_ext rfl Try.func63 (by kernel_rfl) (by kernel_rfl) (by kernel_rfl) (show _ = some Extern.BytealgCompare.compare by kernel_rfl) (run_compare h h')) ?_
  refine nq (y_assign rfl) <| nend <| qsub (sub_cons (t := 4) rfl <| sub_cons (t := 0) rfl <| sub_cons (t := 1) rfl <| sub_nil) <| qthen <| cret <| ?_
  exact ret1 trivial rfl rfl ⟨rfl, rfl⟩
theorem compare (a b : List UInt8) (w : World) (ha : a.length = 32) (hb : b.length = 32) :
    Calls Try.prog 49 #[.agg (b8s a).toArray, .agg (b8s b).toArray] w fun e w' => e = .returned (.int .i64 (cb a b)) ∧ Fr No w w' := by
  refine enter (N := 8) Try.func49 rfl rfl (by simp) ?_
  refine cseq <| creg <| ?_
  refine nx (x_box rfl fun g1 w1 hg1 hf1 hb1 => ?_)
  refine nx (x_box rfl fun g2 w2 hg2 hf2 hb2 => ?_)
  rw [cells_agg] at hb1 hb2
  refine nq (y_assign rfl) <| nend <| qthen <| cseq <| ?_
  refine cdrw [(0, false), (1, false), (2, true), (3, false)] (by kernel_rfl) (by kernel_rfl) rfl (fun w' => Fr No w2 w') (Fr.drew _) (fun w3 hf3 hS3 => ?_)
  refine sq (fun w_ hS_ => y_slArr rfl Try.underlying23 sz5) <| sq (fun w_ hS_ => y_slArr rfl Try.underlying23 sz5) <| ?_
  refine sx (x_call rfl Try.call57 (bytesCompare _ _ _ a _ _ _ b _ (Rd.of_blk ((hb1.fr0 hf2).fr0 hf3) (by rw [b8s_length]; omega)) (Rd.of_blk (hb2.fr0 hf3) (by rw [b8s_length]; omega))) ?_)
  rintro e_ w4 ⟨rfl, rfl⟩
  refine ⟨_, rfl, ?_⟩
  refine ⟨hS3, ?_⟩
  refine sq (fun w_ hS_ => y_assign rfl) <| send <| qsub (sub_cons (t := 4) rfl <| sub_cons (t := 3) rfl <| sub_cons (t := 2) rfl <| sub_cons (t := 0) rfl <| sub_cons (t := 1) rfl <| sub_nil) <| qthen <| cret <| ?_
  exact ret1 trivial rfl rfl ⟨rfl, (hf1.trans0 hf2).trans0 hf3⟩
theorem rcompare (a b : List UInt8) (w : World) (ha : a.length = 32) (hb : b.length = 32) :
    Calls Try.prog 34 #[.agg (b8s a).toArray, .agg (b8s b).toArray] w fun e w' => e = .returned (.int .i64 (cb a b)) ∧ Fr No w w' := by
  refine enter (N := 24) Try.func34 rfl rfl (by simp) ?_
  refine cseq <| creg <| ?_
  refine nx (x_box rfl fun g1 w1 hg1 hf1 hb1 => ?_)
  refine nx (x_box rfl fun g2 w2 hg2 hf2 hb2 => ?_)
  rw [cells_agg] at hb1 hb2
  refine nq (y_assign rfl) <| nend <| qthen <| cseq <| cseq <| creg <| nq (y_assign rfl) <| nend <| qthen <| cblock <| ?_
  refine cloop1 (fun k => 32 - k) (fun k => [(2, .pointer (some ⟨g1, 0, none⟩)), (3, .pointer (some ⟨g2, 0, none⟩)), (5, .int .i64 (k : Nat))]) (fun k w' => k ≤ 32 ∧ a.take k = b.take k ∧ Fr No w2 w') 0 (⟨Nat.zero_le _, rfl, Fr.refl _ _⟩) (sub_cons (t := 2) rfl <| sub_cons (t := 3) rfl <| sub_cons (t := 5) rfl <| sub_nil) (fun k w3 ⟨hk, hab, hf3⟩ => ?_)
  refine cseq <| cseq <| creg <| nq (y_move rfl) <| nq (y_lss rfl rfl) <| nend <| qsub (sub_cons (t := 7) rfl <| sub_cons (t := 2) rfl <| sub_cons (t := 3) rfl <| sub_cons (t := 5) rfl <| sub_nil) <| qthen <| ?_
  refine cif rfl (fun h => ?_) (fun h => ?_)
  · have hk2 : k < 32 := by omega
    have h1 : ∀ w', Fr No w2 w' → Blk w' g1 23 (b8s a) := fun w' f => (hb1.fr0 hf2).fr0 f
    have h2 : ∀ w', Fr No w2 w' → Blk w' g2 23 (b8s b) := fun w' f => hb2.fr0 f
    have ga := b8s_get (l := a) (i := k) (by omega)
    have gb := b8s_get (l := b) (i := k) (by omega)
    refine cskip <| qthen <| cseq <| cblock <| cseq <| cseq <| ?_
    refine cdrw [(0, false), (1, false), (2, false), (3, false), (4, false), (5, false), (6, false)] (by kernel_rfl) (by kernel_rfl) rfl (fun w' => Fr No w2 w') (hf3.trans0 (Fr.drew _)) (fun w4 hf4 hS4 => ?_)
    refine sq (fun w_ hS_ => y_move rfl) <| sq (fun w_ hS_ => y_idxA1 rfl rfl Try.underlying23 sz5 rfl (by omega)) <| sq (fun w_ hS_ => y_ld1 rfl ag5 (((h1 _ hS_).cells0 _ _ ga))) <| sq (fun w_ hS_ => y_move rfl) <| sq (fun w_ hS_ => y_idxA1 rfl rfl Try.underlying23 sz5 rfl (by omega)) <| sq (fun w_ hS_ => y_ld1 rfl ag5 (((h2 _ hS_).cells0 _ _ gb))) <| sq (fun w_ hS_ => y_lss rfl rfl) <| send <| qsub (sub_cons (t := 16) rfl <| sub_cons (t := 7) rfl <| sub_cons (t := 2) rfl <| sub_cons (t := 3) rfl <| sub_cons (t := 5) rfl <| sub_nil) <| qthen <| ?_
    refine cif rfl (fun hlt => ?_) (fun hlt => ?_)
    · refine cseq <| creg <| nq (y_assign rfl) <| nend <| qthen <| cret <| qthen_ret <| qblock_ret <| qthen_ret <| qthen_ret <| qblock_ret <| qthen_ret <| ?_
      refine ret1 trivial rfl rfl ⟨?_, (hf1.trans0 hf2).trans0 hS4⟩
      rw [cb_lt hab (by omega) (by omega) (show (a.getD k 0).toNat < (b.getD k 0).toNat by omega)]
    · refine cskip <| qthen <| cseq <| ?_
      refine cdrw [(0, false), (1, false), (2, false), (3, false), (4, false), (5, false), (6, false)] (by kernel_rfl) (by kernel_rfl) rfl (fun w' => Fr No w2 w') (hS4.trans0 (Fr.drew _)) (fun w5 hf5 hS5 => ?_)
      refine sq (fun w_ hS_ => y_move rfl) <| sq (fun w_ hS_ => y_idxA1 rfl rfl Try.underlying23 sz5 rfl (by omega)) <| sq (fun w_ hS_ => y_ld1 rfl ag5 (((h1 _ hS_).cells0 _ _ ga))) <| sq (fun w_ hS_ => y_move rfl) <| sq (fun w_ hS_ => y_idxA1 rfl rfl Try.underlying23 sz5 rfl (by omega)) <| sq (fun w_ hS_ => y_ld1 rfl ag5 (((h2 _ hS_).cells0 _ _ gb))) <| sq (fun w_ hS_ => y_gtr rfl rfl) <| send <| qsub (sub_cons (t := 23) rfl <| sub_cons (t := 16) rfl <| sub_cons (t := 7) rfl <| sub_cons (t := 2) rfl <| sub_cons (t := 3) rfl <| sub_cons (t := 5) rfl <| sub_nil) <| qthen <| ?_
      refine cif rfl (fun hgt => ?_) (fun hgt => ?_)
      · refine cseq <| creg <| nq (y_assign rfl) <| nend <| qthen <| cret <| qblock_ret <| qthen_ret <| qthen_ret <| qblock_ret <| qthen_ret <| ?_
        refine ret1 trivial rfl rfl ⟨?_, (hf1.trans0 hf2).trans0 hS5⟩
        rw [cb_gt hab (by omega) (by omega) (show (b.getD k 0).toNat < (a.getD k 0).toNat by omega)]
      · refine cskip <| qblock <| qthen <| creg <| nq (y_move rfl) <| nq (y_add rfl rfl (w64 (by omega) (by omega))) <| nq (y_assign rfl) <| nend <| qsub (sub_cons (t := 5) rfl <| sub_cons (t := 23) rfl <| sub_cons (t := 16) rfl <| sub_cons (t := 7) rfl <| sub_cons (t := 2) rfl <| sub_cons (t := 3) rfl <| sub_nil) <| ?_
        refine qloop1 (k + 1) (sub_cons (t := 2) rfl <| sub_cons (t := 3) rfl <| sub_cons (t := 5) rfl <| sub_nil) (⟨by omega, take_step hab (by omega) (by omega) (fun q => hlt (by have : (a.getD k 0).toNat < (b.getD k 0).toNat := q; omega)) (fun q => hgt (by have : (b.getD k 0).toNat < (a.getD k 0).toNat := q; omega)), hS5⟩) (by omega)
  · obtain rfl : k = 32 := by omega
    refine cexit <| qthen_exit <| qthen_exit <| qblock_exit <| qthen <| cseq <| creg <| nq (y_assign rfl) <| nend <| qthen <| cret <| ?_
    refine ret1 trivial rfl rfl ⟨?_, (hf1.trans0 hf2).trans0 hf3⟩
    rw [List.take_of_length_le (by omega), List.take_of_length_le (by omega)] at hab
    rw [hab, cb_self]
theorem less (a b : List UInt8) (w : World) (ha : a.length = 32) (hb : b.length = 32) :
    Calls Try.prog 54 #[.agg (b8s a).toArray, .agg (b8s b).toArray] w fun e w' => e = .returned (.bool (decide (cb a b < 0))) ∧ Fr No w w' := by
  refine enter (N := 9) Try.func54 rfl rfl (by simp) ?_
  refine cseq <| creg <| ?_
  refine nx (x_box rfl fun g1 w1 hg1 hf1 hb1 => ?_)
  refine nx (x_box rfl fun g2 w2 hg2 hf2 hb2 => ?_)
  rw [cells_agg] at hb1 hb2
  refine nq (y_assign rfl) <| nend <| qthen <| cseq <| creg <| nq (y_ldN rfl ag23 sz23 ((by rw [b8s_length]; exact ha)) (((hb1.fr0 hf2).cells0))) <| nq (y_ldN rfl ag23 sz23 ((by rw [b8s_length]; exact hb)) hb2.cells0) <| ?_
  refine nx (x_call rfl Try.call49 (compare a b _ ha hb) ?_)
  rintro e_ w3 ⟨rfl, hf3⟩
  refine ⟨_, rfl, ?_⟩
  refine nq (y_lss rfl rfl) <| nq (y_assign rfl) <| nend <| qsub (sub_cons (t := 4) rfl <| sub_cons (t := 3) rfl <| sub_cons (t := 2) rfl <| sub_cons (t := 0) rfl <| sub_cons (t := 1) rfl <| sub_nil) <| qthen <| cret <| ?_
  exact ret1 trivial rfl rfl ⟨rfl, (hf1.trans0 hf2).trans0 hf3⟩
end Go.Proofs.Ytlbecpekemlllaa
end
section
/- Lists of digests in a row: plain lists. No program. -/
set_option linter.unusedVariables false
set_option linter.unusedSimpArgs false
namespace Go.Hx
open Go.Eng
abbrev D32 (ds : List (List UInt8)) : Prop := ∀ d ∈ ds, d.length = 32
def dput : List (List UInt8) → List UInt8 → List (List UInt8)
  | [], d => [d]
  | a :: r, d => if cb a d < 0 then a :: dput r d else if a = d then a :: r else d :: a :: r
theorem dput_at : ∀ (ds : List (List UInt8)) (d : List UInt8) (k : Nat), k ≤ ds.length → (∀ i, i < k → cb (ds.getD i []) d < 0) → (k < ds.length → ¬ cb (ds.getD k []) d < 0) →
    dput ds d = if k < ds.length ∧ ds.getD k [] = d then ds else ds.take k ++ [d] ++ ds.drop k
  | [], d, k, hk, _, _ => by
    obtain rfl : k = 0 := by simpa using hk
    simp [dput]
  | a :: r, d, 0, _, _, h => by
    have h0 := h (by simp)
    simp only [List.getD_cons_zero] at h0
    simp only [dput, if_neg h0, List.getD_cons_zero, List.take_zero, List.nil_append, List.drop_zero, List.singleton_append, List.length_cons, Nat.zero_lt_succ, true_and]
  | a :: r, d, k + 1, hk, h1, h2 => by
    have ha := h1 0 (by omega)
    simp only [List.getD_cons_zero] at ha
    have ih := dput_at r d k (by simpa using hk) (fun i hi => by have := h1 (i + 1) (by omega); simpa using this) (fun hl => by have := h2 (by simpa using hl); simpa using this)
    simp only [dput, if_pos ha, ih, List.getD_cons_succ, List.length_cons, Nat.succ_lt_succ_iff, List.take_succ_cons, List.drop_succ_cons, List.cons_append]
    split <;> rfl
theorem dput_length (ds : List (List UInt8)) (d : List UInt8) : ds.length ≤ (dput ds d).length ∧ (dput ds d).length ≤ ds.length + 1 := by
  induction ds with
  | nil => simp [dput]
  | cons a r ih =>
    simp only [dput]
    split
    · simp only [List.length_cons]; omega
    · split <;> simp
theorem dput_D32 {ds : List (List UInt8)} {d : List UInt8} (h : D32 ds) (hd : d.length = 32) : D32 (dput ds d) := by
  induction ds with
  | nil => intro x hx; simp [dput] at hx; subst hx; exact hd
  | cons a r ih =>
    have ih' := ih (fun x hx => h x (List.mem_cons_of_mem _ hx))
    have ha := h a (List.mem_cons_self ..)
    intro x hx
    simp only [dput] at hx
    split at hx
    · rcases List.mem_cons.1 hx with rfl | hx
      · exact ha
      · exact ih' x hx
    · split at hx
      · exact h x hx
      · rcases List.mem_cons.1 hx with rfl | hx
        · exact hd
        · exact h x hx
/-- each ahead of the next -/
def Rise : List (List UInt8) → Prop
  | [] => True
  | [_] => True
  | a :: b :: r => cb a b < 0 ∧ Rise (b :: r)
instance : (l : List (List UInt8)) → Decidable (Rise l)
  | [] => isTrue trivial
  | [_] => isTrue trivial
  | a :: b :: r => @instDecidableAnd (cb a b < 0) (Rise (b :: r)) inferInstance (instDecidableRise (b :: r))
theorem rise_take_succ : ∀ (l : List (List UInt8)) (k : Nat), 0 < k → k < l.length → (Rise (l.take (k + 1)) ↔ Rise (l.take k) ∧ cb (l.getD (k - 1) []) (l.getD k []) < 0)
  | [], k, _, h => by simp at h
  | [_], k, h0, h => by simp at h; omega
  | a :: b :: r, 1, _, _ => by simp [Rise]
  | a :: b :: r, k + 2, _, h => by
    have ih := rise_take_succ (b :: r) (k + 1) (by omega) (by simpa using h)
    simp only [List.take_succ_cons] at ih ⊢
    simp only [Rise, ih, List.getD_cons_succ]
    have e : k + 2 - 1 = (k + 1 - 1) + 1 := by omega
    rw [e, List.getD_cons_succ, and_assoc]
theorem rise_take {l : List (List UInt8)} {k : Nat} (h : ¬ Rise (l.take k)) : ¬ Rise l := by
  intro hr
  apply h
  clear h
  induction l generalizing k with
  | nil => simp [Rise]
  | cons a r ih =>
    cases k with
    | zero => simp [Rise]
    | succ k =>
      cases r with
      | nil => simp [Rise]
      | cons b r =>
        have := ih (k := k) hr.2
        cases k with
        | zero => simp [Rise]
        | succ k =>
          simp only [List.take_succ_cons] at this ⊢
          exact ⟨hr.1, this⟩
/-- what is behind the first -/
theorem dput_head {a : List UInt8} {r : List (List UInt8)} {d : List UInt8} {x : List UInt8} (hr : Rise (x :: a :: r)) (hx : cb x d < 0) : ∃ y s, dput (a :: r) d = y :: s ∧ cb x y < 0 := by
  simp only [dput]
  split
  · exact ⟨_, _, rfl, hr.1⟩
  · split
    · exact ⟨_, _, rfl, hr.1⟩
    · exact ⟨_, _, rfl, hx⟩
theorem dput_rise : ∀ (l : List (List UInt8)) (d : List UInt8), Rise l → Rise (dput l d)
  | [], d, _ => by simp [dput, Rise]
  | [a], d, _ => by
    simp only [dput]
    split
    · rename_i h; exact ⟨h, trivial⟩
    · split
      · trivial
      · rename_i h1 h2
        refine ⟨?_, trivial⟩
        have h3 := cb_neg a d
        have h4 : cb a d ≠ 0 := fun h => h2 (cb_eq _ _ h)
        omega
  | a :: b :: r, d, h => by
    by_cases h1 : cb a d < 0
    · obtain ⟨y, s, e, hy⟩ := dput_head h h1
      have ih := dput_rise (b :: r) d h.2
      have e2 : dput (a :: b :: r) d = a :: dput (b :: r) d := by rw [dput, if_pos h1]
      rw [e2, e]
      rw [e] at ih
      exact ⟨hy, ih⟩
    · by_cases h2 : a = d
      · have e2 : dput (a :: b :: r) d = a :: b :: r := by rw [dput, if_neg h1, if_pos h2]
        rw [e2]; exact h
      · have e2 : dput (a :: b :: r) d = d :: a :: b :: r := by rw [dput, if_neg h1, if_neg h2]
        rw [e2]
        refine ⟨?_, h⟩
        have h3 := cb_neg a d
        have h4 : cb a d ≠ 0 := fun h => h2 (cb_eq _ _ h)
        omega
end Go.Hx
end
section
/- Contracts: rows of digests of the reference, journals of the reference. -/
set_option linter.unusedVariables false
set_option linter.unusedSimpArgs false
set_option maxRecDepth 20000
namespace Go.Proofs.Ytlbecpekemlllaa
open Go.Eng Go.Hx
theorem dc_len {w : World} {A : Option Addr} {n : Nat} {ds : List (List UInt8)} (h : Rd w 32 A n (dc ds)) (hd : D32 ds) : ds.length = n := by
  have := h.1
  rw [dc_length hd] at this
  omega
theorem lt_step {P : Nat → Prop} {k : Nat} (h : ∀ i, i < k → P i) (hk : P k) : ∀ i, i < k + 1 → P i := fun i hi => by
  rcases Nat.lt_or_ge i k with h1 | h1
  · exact h i h1
  · have : i = k := by omega
    rw [this]; exact hk
theorem rput (b : Nat) (v : Value) (n : Nat) (ds : List (List UInt8)) (d : List UInt8) (w : World) (ho : Own w b 23 32 v n (dc ds)) (hD : D32 ds) (hd : d.length = 32) (hb : b ≤ w.heap.size) (hn : n ≤ 1000000) :
    Calls Try.prog 16 #[v, .agg (b8s d).toArray] w fun e w' => ∃ v', e = .returned v' ∧ Own w' b 23 32 v' (dput ds d).length (dc (dput ds d)) ∧ Fr No w w' := by
  obtain ⟨A, c, rfl, hc⟩ := ho.slice
  have hr := (Own.rd ho).2.2
  have hl := dc_len hr hD
  have dl : (b8s d).length = 32 := by rw [b8s_length]; exact hd
  refine enter (N := 53) Try.func16 rfl rfl (by simp) ?_
  refine cseq <| creg <| ?_
  refine nx (x_box rfl fun g1 w1 hg1 hf1 hb1 => ?_)
  rw [cells_agg] at hb1
  refine nq (y_assign rfl) <| nend <| qthen <| cseq <| creg <| nq (y_assign rfl) <| nend <| qthen <| cseq <| cblock <| ?_
  have hB : ∀ w', Fr No w1 w' → Blk w' g1 23 (b8s d) := fun w' f => hb1.fr0 f
  have hR : ∀ w', Fr No w1 w' → Rd w' 32 A n (dc ds) := fun w' f => (hr.fr0 hf1).fr0 f
  have hdi : ∀ i, i < n → (ds.getD i []).length = 32 := fun i hi => dc_getD hD (by omega)
  have hdl : ∀ i, i < n → (b8s (ds.getD i [])).length = 32 := fun i hi => by rw [b8s_length]; exact hdi i hi
  refine cloop1 (fun k => n - k) (fun k => [(0, .slice A n c), (3, .pointer (some ⟨g1, 0, none⟩)), (5, .int .i64 (k : Nat))]) (fun k w' => k ≤ n ∧ (∀ i, i < k → cb (ds.getD i []) d < 0) ∧ Fr No w1 w') 0 (⟨Nat.zero_le _, fun i hi => absurd hi (by omega), Fr.refl _ _⟩) (sub_cons (t := 0) rfl <| sub_cons (t := 3) rfl <| sub_cons (t := 5) rfl <| sub_nil) (fun k w2 ⟨hk, hlt, hf2⟩ => ?_)
  refine cseq <| cseq <| ?_
  refine cdrw [(0, false), (1, false), (2, false), (3, false), (4, false), (5, false), (6, false), (7, false), (8, false), (9, false), (10, true), (11, false), (12, false)] (by kernel_rfl) (by kernel_rfl) rfl (fun w' => Fr No w1 w') (hf2.trans0 (Fr.drew _)) (fun w3 hf3 hS3 => ?_)
  refine sq (fun w_ hS_ => y_move rfl) <| sq (fun w_ hS_ => y_move rfl) <| sq (fun w_ hS_ => y_lenS rfl Try.underlying24) <| sq (fun w_ hS_ => y_lss rfl rfl) <| sq (fun w_ hS_ => y_move rfl) <| ?_
  refine ssplit 11 rfl (fun h => ?_) (fun h => ?_)
  · refine sqg (o := _) rfl rfl rfl (fun w_ hS_ => y_move rfl) <| sqg (o := _) rfl rfl rfl (fun w_ hS_ => y_move rfl) <| sqg (o := _) rfl rfl rfl (fun w_ hS_ => y_idxS rfl rfl Try.underlying24 sz23 ((hR w1 (Fr.refl _ _)).2.1) rfl (by omega)) <| sqg (o := _) rfl rfl rfl (fun w_ hS_ => y_ldN rfl ag23 sz23 ((hdl k (by omega))) (((hR _ hS_).dig hD (by omega)))) <| sqg (o := _) rfl rfl rfl (fun w_ hS_ => y_ldN rfl ag23 sz23 dl ((hB _ hS_).cells0)) <| ?_
    refine sxg rfl rfl rfl (x_call rfl Try.call34 (rcompare _ d _ (hdi k (by omega)) hd) ?_)
    rintro e_ w4 ⟨rfl, hf4⟩
    refine ⟨_, rfl, ?_⟩
    refine ⟨hS3.trans0 hf4, ?_⟩
    have hS4 := hS3.trans0 hf4
    refine sqg (o := _) rfl rfl rfl (fun w_ hS_ => y_lss rfl rfl) <| sq (fun w_ hS_ => y_pickT rfl rfl) <| send <| qsub (sub_cons (t := 19) rfl <| sub_cons (t := 0) rfl <| sub_cons (t := 3) rfl <| sub_cons (t := 5) rfl <| sub_nil) <| qthen <| ?_
    refine cif rfl (fun h2 => ?_) (fun h2 => ?_)
    · refine cskip <| qthen <| cblock <| creg <| nq (y_move rfl) <| nq (y_add rfl rfl (w64 (by omega) (by omega))) <| nq (y_assign rfl) <| nend <| qsub (sub_cons (t := 5) rfl <| sub_cons (t := 19) rfl <| sub_cons (t := 0) rfl <| sub_cons (t := 3) rfl <| sub_nil) <| qblock <| ?_
      refine qloop1 (k + 1) (sub_cons (t := 0) rfl <| sub_cons (t := 3) rfl <| sub_cons (t := 5) rfl <| sub_nil) (⟨by omega, lt_step hlt h2, hS4⟩) (by omega)
    · refine cexit <| qthen_exit <| qthen_exit <| qblock_exit <| qthen <| cseq <| cseq <| ?_
      refine cdrw [(0, false), (1, false), (2, false), (3, false), (4, false), (5, false), (6, false), (7, false), (8, false), (9, false), (10, false), (11, false), (12, false), (13, false), (14, false), (15, false)] (by kernel_rfl) (by kernel_rfl) rfl (fun w' => Fr No w1 w') (hS4.trans0 (Fr.drew _)) (fun w5 hf5 hS5 => ?_)
      have heq := dput_at ds d k (by omega) hlt (fun h => h2)
      refine sq (fun w_ hS_ => y_move rfl) <| sq (fun w_ hS_ => y_move rfl) <| sq (fun w_ hS_ => y_lenS rfl Try.underlying24) <| sq (fun w_ hS_ => y_lss rfl rfl) <| sq (fun w_ hS_ => y_move rfl) <| ?_
      refine ssplit 26 rfl (fun h3 => ?_) (fun h3 => ?_)
      · refine sqg (o := _) rfl rfl rfl (fun w_ hS_ => y_move rfl) <| sqg (o := _) rfl rfl rfl (fun w_ hS_ => y_move rfl) <| sqg (o := _) rfl rfl rfl (fun w_ hS_ => y_move rfl) <| sqg (o := _) rfl rfl rfl (fun w_ hS_ => y_lenS rfl Try.underlying24) <| sqg (o := _) rfl rfl rfl (fun w_ hS_ => y_sub rfl rfl (w64 (by omega) (by omega))) <| sqg (o := _) rfl rfl rfl (fun w_ hS_ => y_min rfl rfl) <| sqg (o := _) rfl rfl rfl (fun w_ hS_ => y_idxS rfl rfl Try.underlying24 sz23 ((hR w1 (Fr.refl _ _)).2.1) (show ((k : Nat) : Int) = min (k : Int) ((n : Int) - 1) by omega) (by omega)) <| sqg (o := _) rfl rfl rfl (fun w_ hS_ => y_ldN rfl ag23 sz23 ((hdl k (by omega))) (((hR _ hS_).dig hD (by omega)))) <| sqg (o := _) rfl rfl rfl (fun w_ hS_ => y_ldN rfl ag23 sz23 dl ((hB _ hS_).cells0)) <| sqg (o := _) rfl rfl rfl (fun w_ hS_ => y_eqD23 rfl rfl (hdi k (by omega)) hd) <| sq (fun w_ hS_ => y_pickT rfl rfl) <| send <| qsub (sub_cons (t := 37) rfl <| sub_cons (t := 19) rfl <| sub_cons (t := 0) rfl <| sub_cons (t := 3) rfl <| sub_cons (t := 5) rfl <| sub_nil) <| qthen <| ?_
        refine cif rfl (fun h4 => ?_) (fun h4 => ?_)
        · refine cseq <| creg <| nq (y_move rfl) <| nq (y_assign rfl) <| nend <| qsub (sub_cons (t := 4) rfl <| sub_cons (t := 37) rfl <| sub_cons (t := 19) rfl <| sub_cons (t := 0) rfl <| sub_cons (t := 3) rfl <| sub_cons (t := 5) rfl <| sub_nil) <| qthen <| cret <| qthen_ret <| ?_
          rw [if_pos ⟨by omega, h4⟩] at heq
          refine ret1 trivial rfl rfl ⟨_, rfl, ?_, hf1.trans0 hS5⟩
          rw [heq, hl]
          exact (ho.fr0 hf1).fr0 hS5
        · have hne : ¬ (k < ds.length ∧ ds.getD k [] = d) := fun h => h4 h.2
          rw [if_neg hne] at heq
          have r5 := hR _ hS5
          refine cskip <| qthen <| cseq <| creg <| nq (y_assign rfl) <| nend <| qthen <| cseq <| creg <| nq (y_move rfl) <| nq (y_move rfl) <| nq (y_move rfl) <| nq (y_slTo rfl rfl Try.underlying24 sz23 (show ((k : Nat) : Int) = _ by omega) ((by omega))) <| ?_
          refine nx (x_app rfl rfl Try.underlying24 Try.underlying24 (by exact .inl rfl) ti23 rfl (Own.nil w5 w5.heap.size _ 32) (Src.of_rd (r5.take_dc hD (by omega))) dc_oneCell (by unfold maxLen; omega) (by omega) (Nat.le_refl _) fun v6 w6 ho6 hf6 hv6 => ?_)
          have f6 : Fr No w5 w6 := hf6.mono (fun _ _ e => e.elim)
          refine nq (y_assign rfl) <| nend <| qsub (sub_cons (t := 6) rfl <| sub_cons (t := 37) rfl <| sub_cons (t := 19) rfl <| sub_cons (t := 0) rfl <| sub_cons (t := 3) rfl <| sub_cons (t := 5) rfl <| sub_nil) <| qthen <| cseq <| creg <| nq (y_move rfl) <| nq (y_ldN rfl ag23 sz23 dl ((hB _ (hS5.trans0 f6)).cells0)) <| ?_
          refine nx (x_bsl Try.underlying24 ti23 rfl rfl rfl (by simp [Value.cells, dl]) (by decide) (by decide) fun g7 w7 hg7 hf7 hb7 => ?_)
          have hb7 : Blk w7 g7 23 (dc [d]) := by simpa [Value.cells, dc] using hb7
          refine nx (x_app rfl rfl Try.underlying24 Try.underlying24 (by exact .inl rfl) ti23 rfl (ho6.fr0 hf7) (Src.of_blk hb7 (by rw [dc_one, dl])) dc_oneCell (by unfold maxLen; omega) (by omega) (f6.trans0 hf7).size fun v8 w8 ho8 hf8 hv8 => ?_)
          have f8 : Fr No w5 w8 := (f6.trans0 hf7).new hf8 (fun i hi => (ho6.from hi).1)
          have r8 := hR _ (hS5.trans0 f8)
          refine nq (y_assign rfl) <| nend <| qsub (sub_cons (t := 6) rfl <| sub_cons (t := 37) rfl <| sub_cons (t := 19) rfl <| sub_cons (t := 0) rfl <| sub_cons (t := 3) rfl <| sub_cons (t := 5) rfl <| sub_nil) <| qthen <| cseq <| creg <| nq (y_move rfl) <| nq (y_move rfl) <| nq (y_move rfl) <| nq (y_slFrom rfl rfl Try.underlying24 sz23 (show ((k : Nat) : Int) = _ by omega) ((by omega))) <| ?_
          refine nx (x_app rfl rfl Try.underlying24 Try.underlying24 (by exact .inl rfl) ti23 rfl ho8 (Src.of_rd (r8.cut_dc hD hc (by omega))) dc_oneCell (by unfold maxLen; omega) (by omega) f8.size fun v9 w9 ho9 hf9 hv9 => ?_)
          have f9 : Fr No w5 w9 := f8.new hf9 (fun i hi => (ho8.from hi).1)
          refine nq (y_assign rfl) <| nend <| qsub (sub_cons (t := 4) rfl <| sub_cons (t := 6) rfl <| sub_cons (t := 37) rfl <| sub_cons (t := 19) rfl <| sub_cons (t := 0) rfl <| sub_cons (t := 3) rfl <| sub_cons (t := 5) rfl <| sub_nil) <| qthen <| cret <| ?_
          refine ret1 trivial rfl rfl ⟨v9, rfl, ?_, (hf1.trans0 hS5).trans0 f9⟩
          have hbw : b ≤ w5.heap.size := by have := (hf1.trans0 hS5).size; omega
          have ho9 := ho9.wide hbw
          rw [List.nil_append, ← dc_append, ← dc_append, ← heq] at ho9
          have hlen : (dput ds d).length = 0 + k + 1 + (n - k) := by rw [heq]; simp [hl]; omega
          rw [hlen]
          exact ho9
      · refine sskip rfl rfl rfl (by decide) <| sskip rfl rfl rfl (by decide) <| sskip rfl rfl rfl (by decide) <| sskip rfl rfl rfl (by decide) <| sskip rfl rfl rfl (by decide) <| sskip rfl rfl rfl (by decide) <| sskip rfl rfl rfl (by decide) <| sskip rfl rfl rfl (by decide) <| sskip rfl rfl rfl (by decide) <| sskip rfl rfl rfl (by decide) <| sq (fun w_ hS_ => y_pickF rfl rfl) <| send <| qsub (sub_cons (t := 37) rfl <| sub_cons (t := 19) rfl <| sub_cons (t := 0) rfl <| sub_cons (t := 3) rfl <| sub_cons (t := 5) rfl <| sub_nil) <| qthen <| ?_
        refine ciff rfl (rfl) ?_
        have hne : ¬ (k < ds.length ∧ ds.getD k [] = d) := fun h => h3 (by omega)
        rw [if_neg hne] at heq
        have r5 := hR _ hS5
        refine cskip <| qthen <| cseq <| creg <| nq (y_assign rfl) <| nend <| qthen <| cseq <| creg <| nq (y_move rfl) <| nq (y_move rfl) <| nq (y_move rfl) <| nq (y_slTo rfl rfl Try.underlying24 sz23 (show ((k : Nat) : Int) = _ by omega) ((by omega))) <| ?_
        refine nx (x_app rfl rfl Try.underlying24 Try.underlying24 (by exact .inl rfl) ti23 rfl (Own.nil w5 w5.heap.size _ 32) (Src.of_rd (r5.take_dc hD (by omega))) dc_oneCell (by unfold maxLen; omega) (by omega) (Nat.le_refl _) fun v6 w6 ho6 hf6 hv6 => ?_)
        have f6 : Fr No w5 w6 := hf6.mono (fun _ _ e => e.elim)
        refine nq (y_assign rfl) <| nend <| qsub (sub_cons (t := 6) rfl <| sub_cons (t := 37) rfl <| sub_cons (t := 19) rfl <| sub_cons (t := 0) rfl <| sub_cons (t := 3) rfl <| sub_cons (t := 5) rfl <| sub_nil) <| qthen <| cseq <| creg <| nq (y_move rfl) <| nq (y_ldN rfl ag23 sz23 dl ((hB _ (hS5.trans0 f6)).cells0)) <| ?_
        refine nx (x_bsl Try.underlying24 ti23 rfl rfl rfl (by simp [Value.cells, dl]) (by decide) (by decide) fun g7 w7 hg7 hf7 hb7 => ?_)
        have hb7 : Blk w7 g7 23 (dc [d]) := by simpa [Value.cells, dc] using hb7
        refine nx (x_app rfl rfl Try.underlying24 Try.underlying24 (by exact .inl rfl) ti23 rfl (ho6.fr0 hf7) (Src.of_blk hb7 (by rw [dc_one, dl])) dc_oneCell (by unfold maxLen; omega) (by omega) (f6.trans0 hf7).size fun v8 w8 ho8 hf8 hv8 => ?_)
        have f8 : Fr No w5 w8 := (f6.trans0 hf7).new hf8 (fun i hi => (ho6.from hi).1)
        have r8 := hR _ (hS5.trans0 f8)
        refine nq (y_assign rfl) <| nend <| qsub (sub_cons (t := 6) rfl <| sub_cons (t := 37) rfl <| sub_cons (t := 19) rfl <| sub_cons (t := 0) rfl <| sub_cons (t := 3) rfl <| sub_cons (t := 5) rfl <| sub_nil) <| qthen <| cseq <| creg <| nq (y_move rfl) <| nq (y_move rfl) <| nq (y_move rfl) <| nq (y_slFrom rfl rfl Try.underlying24 sz23 (show ((k : Nat) : Int) = _ by omega) ((by omega))) <| ?_
        refine nx (x_app rfl rfl Try.underlying24 Try.underlying24 (by exact .inl rfl) ti23 rfl ho8 (Src.of_rd (r8.cut_dc hD hc (by omega))) dc_oneCell (by unfold maxLen; omega) (by omega) f8.size fun v9 w9 ho9 hf9 hv9 => ?_)
        have f9 : Fr No w5 w9 := f8.new hf9 (fun i hi => (ho8.from hi).1)
        refine nq (y_assign rfl) <| nend <| qsub (sub_cons (t := 4) rfl <| sub_cons (t := 6) rfl <| sub_cons (t := 37) rfl <| sub_cons (t := 19) rfl <| sub_cons (t := 0) rfl <| sub_cons (t := 3) rfl <| sub_cons (t := 5) rfl <| sub_nil) <| qthen <| cret <| ?_
        refine ret1 trivial rfl rfl ⟨v9, rfl, ?_, (hf1.trans0 hS5).trans0 f9⟩
        have hbw : b ≤ w5.heap.size := by have := (hf1.trans0 hS5).size; omega
        have ho9 := ho9.wide hbw
        rw [List.nil_append, ← dc_append, ← dc_append, ← heq] at ho9
        have hlen : (dput ds d).length = 0 + k + 1 + (n - k) := by rw [heq]; simp [hl]; omega
        rw [hlen]
        exact ho9
  · refine sskip rfl rfl rfl (by decide) <| sskip rfl rfl rfl (by decide) <| sskip rfl rfl rfl (by decide) <| sskip rfl rfl rfl (by decide) <| sskip rfl rfl rfl (by decide) <| sskip rfl rfl rfl (by decide) <| sskip rfl rfl rfl (by decide) <| sq (fun w_ hS_ => y_pickF rfl rfl) <| send <| qsub (sub_cons (t := 19) rfl <| sub_cons (t := 0) rfl <| sub_cons (t := 3) rfl <| sub_cons (t := 5) rfl <| sub_nil) <| qthen <| ?_
    refine ciff rfl (rfl) ?_
    refine cexit <| qthen_exit <| qthen_exit <| qblock_exit <| qthen <| cseq <| cseq <| ?_
    refine cdrw [(0, false), (1, false), (2, false), (3, false), (4, false), (5, false), (6, false), (7, false), (8, false), (9, false), (10, false), (11, false), (12, false), (13, false), (14, false), (15, false)] (by kernel_rfl) (by kernel_rfl) rfl (fun w' => Fr No w1 w') (hS3.trans0 (Fr.drew _)) (fun w5 hf5 hS5 => ?_)
    have heq := dput_at ds d k (by omega) hlt (fun h => absurd h (by omega))
    refine sq (fun w_ hS_ => y_move rfl) <| sq (fun w_ hS_ => y_move rfl) <| sq (fun w_ hS_ => y_lenS rfl Try.underlying24) <| sq (fun w_ hS_ => y_lss rfl rfl) <| sq (fun w_ hS_ => y_move rfl) <| ?_
    refine ssplit 26 rfl (fun h3 => ?_) (fun h3 => ?_)
    · refine sqg (o := _) rfl rfl rfl (fun w_ hS_ => y_move rfl) <| sqg (o := _) rfl rfl rfl (fun w_ hS_ => y_move rfl) <| sqg (o := _) rfl rfl rfl (fun w_ hS_ => y_move rfl) <| sqg (o := _) rfl rfl rfl (fun w_ hS_ => y_lenS rfl Try.underlying24) <| sqg (o := _) rfl rfl rfl (fun w_ hS_ => y_sub rfl rfl (w64 (by omega) (by omega))) <| sqg (o := _) rfl rfl rfl (fun w_ hS_ => y_min rfl rfl) <| sqg (o := _) rfl rfl rfl (fun w_ hS_ => y_idxS rfl rfl Try.underlying24 sz23 ((hR w1 (Fr.refl _ _)).2.1) (show ((k : Nat) : Int) = min (k : Int) ((n : Int) - 1) by omega) (by omega)) <| sqg (o := _) rfl rfl rfl (fun w_ hS_ => y_ldN rfl ag23 sz23 ((hdl k (by omega))) (((hR _ hS_).dig hD (by omega)))) <| sqg (o := _) rfl rfl rfl (fun w_ hS_ => y_ldN rfl ag23 sz23 dl ((hB _ hS_).cells0)) <| sqg (o := _) rfl rfl rfl (fun w_ hS_ => y_eqD23 rfl rfl (hdi k (by omega)) hd) <| sq (fun w_ hS_ => y_pickT rfl rfl) <| send <| qsub (sub_cons (t := 37) rfl <| sub_cons (t := 19) rfl <| sub_cons (t := 0) rfl <| sub_cons (t := 3) rfl <| sub_cons (t := 5) rfl <| sub_nil) <| qthen <| ?_
      refine cif rfl (fun h4 => ?_) (fun h4 => ?_)
      · refine cseq <| creg <| nq (y_move rfl) <| nq (y_assign rfl) <| nend <| qsub (sub_cons (t := 4) rfl <| sub_cons (t := 37) rfl <| sub_cons (t := 19) rfl <| sub_cons (t := 0) rfl <| sub_cons (t := 3) rfl <| sub_cons (t := 5) rfl <| sub_nil) <| qthen <| cret <| qthen_ret <| ?_
        rw [if_pos ⟨by omega, h4⟩] at heq
        refine ret1 trivial rfl rfl ⟨_, rfl, ?_, hf1.trans0 hS5⟩
        rw [heq, hl]
        exact (ho.fr0 hf1).fr0 hS5
      · have hne : ¬ (k < ds.length ∧ ds.getD k [] = d) := fun h => h4 h.2
        rw [if_neg hne] at heq
        have r5 := hR _ hS5
        refine cskip <| qthen <| cseq <| creg <| nq (y_assign rfl) <| nend <| qthen <| cseq <| creg <| nq (y_move rfl) <| nq (y_move rfl) <| nq (y_move rfl) <| nq (y_slTo rfl rfl Try.underlying24 sz23 (show ((k : Nat) : Int) = _ by omega) ((by omega))) <| ?_
        refine nx (x_app rfl rfl Try.underlying24 Try.underlying24 (by exact .inl rfl) ti23 rfl (Own.nil w5 w5.heap.size _ 32) (Src.of_rd (r5.take_dc hD (by omega))) dc_oneCell (by unfold maxLen; omega) (by omega) (Nat.le_refl _) fun v6 w6 ho6 hf6 hv6 => ?_)
        have f6 : Fr No w5 w6 := hf6.mono (fun _ _ e => e.elim)
        refine nq (y_assign rfl) <| nend <| qsub (sub_cons (t := 6) rfl <| sub_cons (t := 37) rfl <| sub_cons (t := 19) rfl <| sub_cons (t := 0) rfl <| sub_cons (t := 3) rfl <| sub_cons (t := 5) rfl <| sub_nil) <| qthen <| cseq <| creg <| nq (y_move rfl) <| nq (y_ldN rfl ag23 sz23 dl ((hB _ (hS5.trans0 f6)).cells0)) <| ?_
        refine nx (x_bsl Try.underlying24 ti23 rfl rfl rfl (by simp [Value.cells, dl]) (by decide) (by decide) fun g7 w7 hg7 hf7 hb7 => ?_)
        have hb7 : Blk w7 g7 23 (dc [d]) := by simpa [Value.cells, dc] using hb7
        refine nx (x_app rfl rfl Try.underlying24 Try.underlying24 (by exact .inl rfl) ti23 rfl (ho6.fr0 hf7) (Src.of_blk hb7 (by rw [dc_one, dl])) dc_oneCell (by unfold maxLen; omega) (by omega) (f6.trans0 hf7).size fun v8 w8 ho8 hf8 hv8 => ?_)
        have f8 : Fr No w5 w8 := (f6.trans0 hf7).new hf8 (fun i hi => (ho6.from hi).1)
        have r8 := hR _ (hS5.trans0 f8)
        refine nq (y_assign rfl) <| nend <| qsub (sub_cons (t := 6) rfl <| sub_cons (t := 37) rfl <| sub_cons (t := 19) rfl <| sub_cons (t := 0) rfl <| sub_cons (t := 3) rfl <| sub_cons (t := 5) rfl <| sub_nil) <| qthen <| cseq <| creg <| nq (y_move rfl) <| nq (y_move rfl) <| nq (y_move rfl) <| nq (y_slFrom rfl rfl Try.underlying24 sz23 (show ((k : Nat) : Int) = _ by omega) ((by omega))) <| ?_
        refine nx (x_app rfl rfl Try.underlying24 Try.underlying24 (by exact .inl rfl) ti23 rfl ho8 (Src.of_rd (r8.cut_dc hD hc (by omega))) dc_oneCell (by unfold maxLen; omega) (by omega) f8.size fun v9 w9 ho9 hf9 hv9 => ?_)
        have f9 : Fr No w5 w9 := f8.new hf9 (fun i hi => (ho8.from hi).1)
        refine nq (y_assign rfl) <| nend <| qsub (sub_cons (t := 4) rfl <| sub_cons (t := 6) rfl <| sub_cons (t := 37) rfl <| sub_cons (t := 19) rfl <| sub_cons (t := 0) rfl <| sub_cons (t := 3) rfl <| sub_cons (t := 5) rfl <| sub_nil) <| qthen <| cret <| ?_
        refine ret1 trivial rfl rfl ⟨v9, rfl, ?_, (hf1.trans0 hS5).trans0 f9⟩
        have hbw : b ≤ w5.heap.size := by have := (hf1.trans0 hS5).size; omega
        have ho9 := ho9.wide hbw
        rw [List.nil_append, ← dc_append, ← dc_append, ← heq] at ho9
        have hlen : (dput ds d).length = 0 + k + 1 + (n - k) := by rw [heq]; simp [hl]; omega
        rw [hlen]
        exact ho9
    · refine sskip rfl rfl rfl (by decide) <| sskip rfl rfl rfl (by decide) <| sskip rfl rfl rfl (by decide) <| sskip rfl rfl rfl (by decide) <| sskip rfl rfl rfl (by decide) <| sskip rfl rfl rfl (by decide) <| sskip rfl rfl rfl (by decide) <| sskip rfl rfl rfl (by decide) <| sskip rfl rfl rfl (by decide) <| sskip rfl rfl rfl (by decide) <| sq (fun w_ hS_ => y_pickF rfl rfl) <| send <| qsub (sub_cons (t := 37) rfl <| sub_cons (t := 19) rfl <| sub_cons (t := 0) rfl <| sub_cons (t := 3) rfl <| sub_cons (t := 5) rfl <| sub_nil) <| qthen <| ?_
      refine ciff rfl (rfl) ?_
      have hne : ¬ (k < ds.length ∧ ds.getD k [] = d) := fun h => h3 (by omega)
      rw [if_neg hne] at heq
      have r5 := hR _ hS5
      refine cskip <| qthen <| cseq <| creg <| nq (y_assign rfl) <| nend <| qthen <| cseq <| creg <| nq (y_move rfl) <| nq (y_move rfl) <| nq (y_move rfl) <| nq (y_slTo rfl rfl Try.underlying24 sz23 (show ((k : Nat) : Int) = _ by omega) ((by omega))) <| ?_
      refine nx (x_app rfl rfl Try.underlying24 Try.underlying24 (by exact .inl rfl) ti23 rfl (Own.nil w5 w5.heap.size _ 32) (Src.of_rd (r5.take_dc hD (by omega))) dc_oneCell (by unfold maxLen; omega) (by omega) (Nat.le_refl _) fun v6 w6 ho6 hf6 hv6 => ?_)
      have f6 : Fr No w5 w6 := hf6.mono (fun _ _ e => e.elim)
      refine nq (y_assign rfl) <| nend <| qsub (sub_cons (t := 6) rfl <| sub_cons (t := 37) rfl <| sub_cons (t := 19) rfl <| sub_cons (t := 0) rfl <| sub_cons (t := 3) rfl <| sub_cons (t := 5) rfl <| sub_nil) <| qthen <| cseq <| creg <| nq (y_move rfl) <| nq (y_ldN rfl ag23 sz23 dl ((hB _ (hS5.trans0 f6)).cells0)) <| ?_
      refine nx (x_bsl Try.underlying24 ti23 rfl rfl rfl (by simp [Value.cells, dl]) (by decide) (by decide) fun g7 w7 hg7 hf7 hb7 => ?_)
      have hb7 : Blk w7 g7 23 (dc [d]) := by simpa [Value.cells, dc] using hb7
      refine nx (x_app rfl rfl Try.underlying24 Try.underlying24 (by exact .inl rfl) ti23 rfl (ho6.fr0 hf7) (Src.of_blk hb7 (by rw [dc_one, dl])) dc_oneCell (by unfold maxLen; omega) (by omega) (f6.trans0 hf7).size fun v8 w8 ho8 hf8 hv8 => ?_)
      have f8 : Fr No w5 w8 := (f6.trans0 hf7).new hf8 (fun i hi => (ho6.from hi).1)
      have r8 := hR _ (hS5.trans0 f8)
      refine nq (y_assign rfl) <| nend <| qsub (sub_cons (t := 6) rfl <| sub_cons (t := 37) rfl <| sub_cons (t := 19) rfl <| sub_cons (t := 0) rfl <| sub_cons (t := 3) rfl <| sub_cons (t := 5) rfl <| sub_nil) <| qthen <| cseq <| creg <| nq (y_move rfl) <| nq (y_move rfl) <| nq (y_move rfl) <| nq (y_slFrom rfl rfl Try.underlying24 sz23 (show ((k : Nat) : Int) = _ by omega) ((by omega))) <| ?_
      refine nx (x_app rfl rfl Try.underlying24 Try.underlying24 (by exact .inl rfl) ti23 rfl ho8 (Src.of_rd (r8.cut_dc hD hc (by omega))) dc_oneCell (by unfold maxLen; omega) (by omega) f8.size fun v9 w9 ho9 hf9 hv9 => ?_)
      have f9 : Fr No w5 w9 := f8.new hf9 (fun i hi => (ho8.from hi).1)
      refine nq (y_assign rfl) <| nend <| qsub (sub_cons (t := 4) rfl <| sub_cons (t := 6) rfl <| sub_cons (t := 37) rfl <| sub_cons (t := 19) rfl <| sub_cons (t := 0) rfl <| sub_cons (t := 3) rfl <| sub_cons (t := 5) rfl <| sub_nil) <| qthen <| cret <| ?_
      refine ret1 trivial rfl rfl ⟨v9, rfl, ?_, (hf1.trans0 hS5).trans0 f9⟩
      have hbw : b ≤ w5.heap.size := by have := (hf1.trans0 hS5).size; omega
      have ho9 := ho9.wide hbw
      rw [List.nil_append, ← dc_append, ← dc_append, ← heq] at ho9
      have hlen : (dput ds d).length = 0 + k + 1 + (n - k) := by rw [heq]; simp [hl]; omega
      rw [hlen]
      exact ho9
end Go.Proofs.Ytlbecpekemlllaa
end
section
/- Contracts: journals of the reference and of the program, but Add. -/
set_option linter.unusedVariables false
set_option linter.unusedSimpArgs false
set_option maxRecDepth 20000
namespace Go.Proofs.Ytlbecpekemlllaa
open Go.Eng Go.Hx
def goodL (ds : List (List UInt8)) : List (List UInt8) := (ds.take 6).foldl dput []
theorem fold_snoc (ds : List (List UInt8)) (k : Nat) (h : k < ds.length) : (ds.take (k + 1)).foldl dput [] = dput ((ds.take k).foldl dput []) (ds.getD k []) := by
  rw [List.take_succ_eq_append_getElem h, List.foldl_append, List.getD, List.getElem?_eq_getElem h]
  rfl
theorem fold_D32 {ds : List (List UInt8)} (h : D32 ds) (k : Nat) : D32 ((ds.take k).foldl dput []) ∧ ((ds.take k).foldl dput []).length ≤ k := by
  induction k with
  | zero => exact ⟨fun d hd => by simp at hd, by simp⟩
  | succ k ih =>
    by_cases hk : k < ds.length
    · rw [fold_snoc ds k hk]
      have := dput_length ((ds.take k).foldl dput []) (ds.getD k [])
      exact ⟨dput_D32 ih.1 (dc_getD h hk), by omega⟩
    · rw [List.take_of_length_le (by omega)] at ih ⊢
      exact ⟨ih.1, by omega⟩
theorem goodL_rise (ds : List (List UInt8)) : Rise (goodL ds) := by
  unfold goodL
  generalize ds.take 6 = l
  have : ∀ (l a : List (List UInt8)), Rise a → Rise (l.foldl dput a) := by
    intro l
    induction l with
    | nil => intro a h; exact h
    | cons d r ih => intro a h; exact ih _ (dput_rise a d h)
  exact this l [] trivial
theorem goodL_D32 {ds : List (List UInt8)} (h : D32 ds) : D32 (goodL ds) := (fold_D32 h 6).1
theorem goodL_length {ds : List (List UInt8)} (h : D32 ds) : (goodL ds).length ≤ 6 := (fold_D32 h 6).2
theorem take_min (ds : List (List UInt8)) (k : Nat) (h1 : k ≤ ds.length) (h2 : k ≤ 6) (h3 : ¬ (k < ds.length ∧ k < 6)) : ds.take k = ds.take 6 := by
  by_cases h : k = 6
  · rw [h]
  · rw [List.take_of_length_le (by omega), List.take_of_length_le (by omega)]
theorem own_slice1 {w : World} {b : Nat} {e : TypeId} {sz n : Nat} {v : Value} {xs : List Value} (h : Own w b e sz v n xs) : v.oneCell' = true ∧ v.cells.toList = [v] := by
  obtain ⟨A, c, rfl, _⟩ := h.slice
  exact ⟨rfl, rfl⟩
theorem rgood (img : List UInt8) (A : Option Addr) (n c : Nat) (ds : List (List UInt8)) (w : World) (hi : img.length = 32) (hr : Rd w 32 A n (dc ds)) (hD : D32 ds) (hn : n ≤ 140737488351232) :
    Calls Try.prog 5 #[.agg (b8s img ++ [Value.slice A n c]).toArray] w fun e w' => ∃ v, e = .returned (.agg (b8s img ++ [v]).toArray) ∧ Own w' w.heap.size 23 32 v (goodL ds).length (dc (goodL ds)) ∧ Fr No w w' := by
  have hl := dc_len hr hD
  have il : (b8s img).length = 32 := by rw [b8s_length]; exact hi
  refine enter (N := 29) Try.func5 rfl rfl (by simp) ?_
  refine cseq <| creg <| ?_
  refine nx (x_box rfl fun g1 w1 hg1 hf1 hb1 => ?_)
  rw [cells_agg] at hb1
  refine nx (x_alloc ti26 fun g2 w2 hg2 hf2 hb2 => ?_)
  have b12 := hb1.fr0 hf2
  refine nend <| qthen <| cseq <| creg <| nq (y_fld rfl fa26_0 (by decide)) <| nq (y_ldN rfl ag23 sz23 il (j_img b12)) <| nq (y_build ti26 rfl rfl (by kernel_rfl) ((bldJ0 pl26_0 (by simp) hi))) <| ?_
  refine nx (x_alloc ti26 fun g3 w3 hg3 hf3 hb3 => ?_)
  have b13 := b12.fr0 hf3
  have b23 := hb2.fr0 hf3
  have l12 := hb1.lt
  have l23 := hb2.lt
  have l3 := hb3.lt
  have s12 := hf2.size
  have s01 := hf1.size
  refine nx0 (x_stA rfl rfl sz26 (j_len hi) (j_one rfl) hb3 rfl fun w4 hf4 hb4 hs4 => ?_)
  have b14 := b13.fr hf4 (by omega)
  have b24 := b23.fr hf4 (by omega)
  have f04 : Fr No w w4 := ((hf1.trans0 hf2).trans0 hf3).new hf4 (fun i hi => by omega)
  refine nend <| qsub (sub_cons (t := 3) rfl <| sub_cons (t := 2) rfl <| sub_cons (t := 1) rfl <| sub_cons (t := 0) rfl <| sub_nil) <| qthen <| cseq <| cseq <| creg <| nq (y_assign rfl) <| nend <| qthen <| cblock <| ?_
  refine cloop2 (fun k _ => 6 - k) (fun k _ => [(1, .pointer (some ⟨g1, 0, none⟩)), (2, .pointer (some ⟨g2, 0, none⟩)), (3, .pointer (some ⟨g3, 0, none⟩)), (4, .int .i64 (k : Nat))]) (fun k v w' => k ≤ n ∧ k ≤ 6 ∧ Fr No w w' ∧ Blk w' g1 26 (b8s img ++ [Value.slice A n c]) ∧ (∃ cs, Blk w' g2 26 cs ∧ cs.length = 33) ∧ Blk w' g3 26 (b8s img ++ [v]) ∧ Own w' w4.heap.size 23 32 v ((ds.take k).foldl dput []).length (dc ((ds.take k).foldl dput [])) ∧ w4.heap.size ≤ w'.heap.size) 0 (.slice none 0 0) (⟨Nat.zero_le _, Nat.zero_le _, f04, b14, ⟨_, b24, rfl⟩, hb4, Own.nil _ _ _ _, Nat.le_refl _⟩) (sub_cons (t := 1) rfl <| sub_cons (t := 2) rfl <| sub_cons (t := 3) rfl <| sub_cons (t := 4) rfl <| sub_nil) (fun k v w5 ⟨hkn, hk6, f5, b15, ⟨cs2, b25, hcs2⟩, b35, ho5, s45⟩ => ?_)
  refine cseq <| cseq <| creg <| nq (y_move rfl) <| nq (y_fld rfl fa26_1 (by decide)) <| nq (y_ld1 rfl ag24 ((j_s b15 hi))) <| nq (y_lenS rfl Try.underlying24) <| nq (y_lss rfl rfl) <| nq (y_move rfl) <| ?_
  refine nsplit 13 rfl (fun h => ?_) (fun h => ?_)
  · refine ng rfl rfl rfl (y_move rfl) <| ng rfl rfl rfl (y_lss rfl rfl) <| nq (y_pickT rfl rfl) <| nend <| qsub (sub_cons (t := 16) rfl <| sub_cons (t := 1) rfl <| sub_cons (t := 2) rfl <| sub_cons (t := 3) rfl <| sub_cons (t := 4) rfl <| sub_nil) <| qthen <| ?_
    refine cif rfl (fun h2 => ?_) (fun h2 => ?_)
    · have hkl : k < ds.length := by omega
      have hd := dc_getD hD hkl
      have hfd := fold_D32 hD k
      refine cskip <| qthen <| cseq <| cblock <| ?_
      refine cdrwT [7, 9] [(0, some 0), (1, some 0), (2, some 0), (3, some 0), (4, some 0), (5, some 0), (6, some 0), (7, none), (8, some 1), (9, none)] (by kernel_rfl) (by kernel_rfl) rfl (fun k w' => k ≤ 1 → Fr No w5 w') (fun _ => Fr.drew _) (fun w6 hf6 hS6 => ?_)
      have hS6 := hS6 (by omega)
      refine tq1 (fun w_ hS_ => y_fld rfl fa26_1 (by decide)) <| tq1 (fun w_ hS_ => y_ld1 rfl ag24 ((j_s (b35.fr0 (hS_ (by omega))) hi))) <| tq1 (fun w_ hS_ => y_fld rfl fa26_1 (by decide)) <| tq1 (fun w_ hS_ => y_ld1 rfl ag24 ((j_s (b15.fr0 (hS_ (by omega))) hi))) <| tq1 (fun w_ hS_ => y_move rfl) <| tq1 (fun w_ hS_ => y_idxS rfl rfl Try.underlying24 sz23 (hr.2.1) rfl (by omega)) <| tq1 (fun w_ hS_ => y_ldN rfl ag23 sz23 ((by rw [b8s_length]; exact hd)) ((((hr.fr0 f5).fr0 (hS_ (by omega))).dig hD hkl))) <| ?_
      refine tx (x_call rfl Try.call16 (rput w4.heap.size v _ _ _ _ (ho5.fr0 hS6) hfd.1 hd (by have := hS6.size; omega) (by omega)) ?_)
      rintro e_ w7 ⟨v7, rfl, ho7, hf7⟩
      refine ⟨_, rfl, ?_⟩
      refine ⟨fun _ => hS6.trans0 hf7, ?_⟩
      rw [← fold_snoc ds k hkl] at ho7
      have f57 := hS6.trans0 hf7
      have s57 := f57.size
      have b37 := b35.fr0 f57
      obtain ⟨ho71, _⟩ := own_slice1 ho7
      refine tq1 (fun w_ hS_ => y_fld rfl fa26_1 (by decide)) <| ?_
      refine tx0 (x_st1a rfl rfl sz24 ho71 b37 (by rw [j_len hi]; decide) fun w8 hf8 b38 hs8 => ?_)
      refine ⟨fun h => absurd h (by omega), ?_⟩
      rw [Nat.zero_add, j_set hi] at b38
      have ho8 := ho7.fr hf8 (fun i hi => by have := (ho7.from hi).1; omega)
      refine tend <| qsub (sub_cons (t := 16) rfl <| sub_cons (t := 1) rfl <| sub_cons (t := 2) rfl <| sub_cons (t := 3) rfl <| sub_cons (t := 4) rfl <| sub_nil) <| qblock <| qthen <| creg <| nq (y_move rfl) <| nq (y_add rfl rfl (w64 (by omega) (by omega))) <| nq (y_assign rfl) <| nend <| qsub (sub_cons (t := 4) rfl <| sub_cons (t := 16) rfl <| sub_cons (t := 1) rfl <| sub_cons (t := 2) rfl <| sub_cons (t := 3) rfl <| sub_nil) <| ?_
      refine qloop2 (k + 1) v7 (sub_cons (t := 1) rfl <| sub_cons (t := 2) rfl <| sub_cons (t := 3) rfl <| sub_cons (t := 4) rfl <| sub_nil) (⟨by omega, by omega, (f5.trans0 f57).new hf8 (fun i hi => by omega), (b15.fr0 f57).fr hf8 (by omega), ⟨cs2, (b25.fr0 f57).fr hf8 (by omega), hcs2⟩, b38, ho8, by omega⟩) (by omega)
    · obtain ⟨hov, _⟩ := own_slice1 ho5
      refine cexit <| qthen_exit <| qthen_exit <| qblock_exit <| qthen <| cseq <| creg <| nq (y_ldN rfl ag26 sz26 ((j_len hi)) b35.cells0) <| ?_
      refine nx0 (x_stA rfl rfl sz26 (j_len hi) (j_one hov) b25 hcs2 fun w6 hf6 hb6 hs6 => ?_)
      refine nend <| qsub (sub_cons (t := 16) rfl <| sub_cons (t := 1) rfl <| sub_cons (t := 2) rfl <| sub_cons (t := 3) rfl <| sub_cons (t := 4) rfl <| sub_nil) <| qthen <| cret <| ?_
      have ho6 := ho5.fr hf6 (fun i hi => by have := (ho5.from hi).1; omega)
      rw [take_min ds k (by omega) hk6 (fun h => h2 (by omega))] at ho6
      exact retN trivial rfl rfl ag26 sz26 (j_len hi) hb6.cells0 ⟨v, rfl, ho6.wide (by omega), f5.new hf6 (fun i hi => by omega)⟩
  · refine nskip rfl rfl rfl (by decide) <| nskip rfl rfl rfl (by decide) <| nq (y_pickF rfl rfl) <| nend <| qsub (sub_cons (t := 16) rfl <| sub_cons (t := 1) rfl <| sub_cons (t := 2) rfl <| sub_cons (t := 3) rfl <| sub_cons (t := 4) rfl <| sub_nil) <| qthen <| ?_
    refine ciff rfl (rfl) ?_
    obtain ⟨hov, _⟩ := own_slice1 ho5
    refine cexit <| qthen_exit <| qthen_exit <| qblock_exit <| qthen <| cseq <| creg <| nq (y_ldN rfl ag26 sz26 ((j_len hi)) b35.cells0) <| ?_
    refine nx0 (x_stA rfl rfl sz26 (j_len hi) (j_one hov) b25 hcs2 fun w6 hf6 hb6 hs6 => ?_)
    refine nend <| qsub (sub_cons (t := 16) rfl <| sub_cons (t := 1) rfl <| sub_cons (t := 2) rfl <| sub_cons (t := 3) rfl <| sub_cons (t := 4) rfl <| sub_nil) <| qthen <| cret <| ?_
    have ho6 := ho5.fr hf6 (fun i hi => by have := (ho5.from hi).1; omega)
    rw [take_min ds k (by omega) hk6 (fun h' => h (by omega))] at ho6
    exact retN trivial rfl rfl ag26 sz26 (j_len hi) hb6.cells0 ⟨v, rfl, ho6.wide (by omega), f5.new hf6 (fun i hi => by omega)⟩
end Go.Proofs.Ytlbecpekemlllaa
end
section
/- Contracts: what journals may be, their bytes. -/
set_option linter.unusedVariables false
set_option linter.unusedSimpArgs false
set_option maxRecDepth 20000
namespace Go.Proofs.Ytlbecpekemlllaa
open Go.Eng Go.Hx
theorem take_eq_step {a b : List (List UInt8)} {k : Nat} (h : a.take k = b.take k) (h1 : k < a.length) (h2 : k < b.length) (he : a.getD k [] = b.getD k []) : a.take (k + 1) = b.take (k + 1) := by
  rw [List.take_succ_eq_append_getElem h1, List.take_succ_eq_append_getElem h2, h]
  rw [List.getD, List.getD, List.getElem?_eq_getElem h1, List.getElem?_eq_getElem h2] at he
  simp only [Option.getD_some] at he
  rw [he]
theorem sameNames (A : Option Addr) (n c : Nat) (ds : List (List UInt8)) (A' : Option Addr) (n' c' : Nat) (ds' : List (List UInt8)) (w : World) (hr : Rd w 32 A n (dc ds)) (hD : D32 ds) (hr' : Rd w 32 A' n' (dc ds')) (hD' : D32 ds') (hn : n ≤ 140737488351232) :
    Calls Try.prog 29 #[.slice A n c, .slice A' n' c'] w fun e w' => e = .returned (.bool (decide (ds = ds'))) ∧ Fr No w w' := by
  have hl := dc_len hr hD
  have hl' := dc_len hr' hD'
  refine enter (N := 26) Try.func29 rfl rfl (by simp) ?_
  refine cseq <| creg <| nq (y_assign rfl) <| nend <| qthen <| cseq <| cseq <| creg <| nq (y_move rfl) <| nq (y_lenS rfl Try.underlying24) <| nq (y_move rfl) <| nq (y_lenS rfl Try.underlying24) <| nq (y_neq rfl rfl) <| nend <| qsub (sub_cons (t := 10) rfl <| sub_cons (t := 4) rfl <| sub_cons (t := 0) rfl <| sub_cons (t := 1) rfl <| sub_nil) <| qthen <| ?_
  refine cif rfl (fun h => ?_) (fun h => ?_)
  · refine cseq <| creg <| nq (y_assign rfl) <| nend <| qthen <| cret <| qthen_ret <| ?_
    have hne : ¬ ds = ds' := fun e => h (by rw [← hl, ← hl', e])
    exact ret1 trivial rfl rfl ⟨by rw [decide_eq_false hne], Fr.refl _ _⟩
  · have hnn : n = n' := by omega
    refine cskip <| qthen <| cseq <| cseq <| creg <| nq (y_assign rfl) <| nend <| qthen <| cblock <| ?_
    refine cloop1 (fun k => n - k) (fun k => [(0, .slice A n c), (1, .slice A' n' c'), (5, .int .i64 (k : Nat))]) (fun k w' => k ≤ n ∧ ds.take k = ds'.take k ∧ Fr No w w') 0 (⟨Nat.zero_le _, rfl, Fr.refl _ _⟩) (sub_cons (t := 0) rfl <| sub_cons (t := 1) rfl <| sub_cons (t := 5) rfl <| sub_nil) (fun k w1 ⟨hk, ht, hf⟩ => ?_)
    refine cseq <| cseq <| creg <| nq (y_move rfl) <| nq (y_move rfl) <| nq (y_lenS rfl Try.underlying24) <| nq (y_lss rfl rfl) <| nend <| qsub (sub_cons (t := 14) rfl <| sub_cons (t := 0) rfl <| sub_cons (t := 1) rfl <| sub_cons (t := 5) rfl <| sub_nil) <| qthen <| ?_
    refine cif rfl (fun h2 => ?_) (fun h2 => ?_)
    · have hk1 : k < ds.length := by omega
      have hk2 : k < ds'.length := by omega
      refine cskip <| qthen <| cseq <| cblock <| cseq <| ?_
      refine cdrw [(0, false), (1, false), (2, false), (3, false), (4, false), (5, false), (6, false), (7, false), (8, false)] (by kernel_rfl) (by kernel_rfl) rfl (fun w' => Fr No w w') (hf.trans0 (Fr.drew _)) (fun w2 hf2 hS2 => ?_)
      refine sq (fun w_ hS_ => y_move rfl) <| sq (fun w_ hS_ => y_move rfl) <| sq (fun w_ hS_ => y_idxS rfl rfl Try.underlying24 sz23 hr.2.1 rfl (by omega)) <| sq (fun w_ hS_ => y_ldN rfl ag23 sz23 ((by rw [b8s_length]; exact dc_getD hD hk1)) (((hr.fr0 hS_).dig hD hk1))) <| sq (fun w_ hS_ => y_move rfl) <| sq (fun w_ hS_ => y_move rfl) <| sq (fun w_ hS_ => y_idxS rfl rfl Try.underlying24 sz23 hr'.2.1 rfl (by omega)) <| sq (fun w_ hS_ => y_ldN rfl ag23 sz23 ((by rw [b8s_length]; exact dc_getD hD' hk2)) (((hr'.fr0 hS_).dig hD' hk2))) <| sq (fun w_ hS_ => y_neD23 rfl rfl (dc_getD hD hk1) (dc_getD hD' hk2)) <| send <| qsub (sub_cons (t := 25) rfl <| sub_cons (t := 14) rfl <| sub_cons (t := 0) rfl <| sub_cons (t := 1) rfl <| sub_cons (t := 5) rfl <| sub_nil) <| qthen <| ?_
      refine cif rfl (fun h3 => ?_) (fun h3 => ?_)
      · refine cseq <| creg <| nq (y_assign rfl) <| nend <| qthen <| cret <| qblock_ret <| qthen_ret <| qthen_ret <| qblock_ret <| qthen_ret <| ?_
        have hne : ¬ ds = ds' := fun e => h3 (by rw [e])
        exact ret1 trivial rfl rfl ⟨by rw [decide_eq_false hne], hS2⟩
      · refine cskip <| qblock <| qthen <| creg <| nq (y_move rfl) <| nq (y_add rfl rfl (w64 (by omega) (by omega))) <| nq (y_assign rfl) <| nend <| qsub (sub_cons (t := 5) rfl <| sub_cons (t := 25) rfl <| sub_cons (t := 14) rfl <| sub_cons (t := 0) rfl <| sub_cons (t := 1) rfl <| sub_nil) <| ?_
        refine qloop1 (k + 1) (sub_cons (t := 0) rfl <| sub_cons (t := 1) rfl <| sub_cons (t := 5) rfl <| sub_nil) (⟨by omega, take_eq_step ht hk1 hk2 (Decidable.not_not.1 h3), hS2⟩) (by omega)
    · obtain rfl : k = n := by omega
      rw [List.take_of_length_le (by omega), List.take_of_length_le (by omega)] at ht
      refine cexit <| qthen_exit <| qthen_exit <| qblock_exit <| qthen <| cseq <| creg <| nq (y_assign rfl) <| nend <| qthen <| cret <| ?_
      exact ret1 trivial rfl rfl ⟨by rw [decide_eq_true ht], hf⟩
theorem rsame (img : List UInt8) (A : Option Addr) (n c : Nat) (ds : List (List UInt8)) (img' : List UInt8) (A' : Option Addr) (n' c' : Nat) (ds' : List (List UInt8)) (w : World) (hi : img.length = 32) (hi' : img'.length = 32) (hr : Rd w 32 A n (dc ds)) (hD : D32 ds) (hr' : Rd w 32 A' n' (dc ds')) (hD' : D32 ds') (hn : n ≤ 140737488351232) :
    Calls Try.prog 11 #[.agg (b8s img ++ [Value.slice A n c]).toArray, .agg (b8s img' ++ [Value.slice A' n' c']).toArray] w fun e w' => e = .returned (.bool (decide (ds = ds' ∧ img = img'))) ∧ Fr No w w' := by
  have il : (b8s img).length = 32 := by rw [b8s_length]; exact hi
  have il' : (b8s img').length = 32 := by rw [b8s_length]; exact hi'
  refine enter (N := 19) Try.func11 rfl rfl (by simp) ?_
  refine cseq <| creg <| ?_
  refine nx (x_box rfl fun g1 w1 hg1 hf1 hb1 => ?_)
  refine nx (x_box rfl fun g2 w2 hg2 hf2 hb2 => ?_)
  rw [cells_agg] at hb1 hb2
  have b1 := hb1.fr0 hf2
  refine nq (y_assign rfl) <| nend <| qthen <| cseq <| creg <| nq (y_fld rfl fa26_1 (by decide)) <| nq (y_ld1 rfl ag24 (j_s b1 hi)) <| nq (y_fld rfl fa26_1 (by decide)) <| nq (y_ld1 rfl ag24 (j_s hb2 hi')) <| ?_
  refine nx (x_call rfl Try.call29 (sameNames A n c ds A' n' c' ds' _ ((hr.fr0 hf1).fr0 hf2) hD ((hr'.fr0 hf1).fr0 hf2) hD' hn) ?_)
  rintro e_ w3 ⟨rfl, hf3⟩
  refine ⟨_, rfl, ?_⟩
  refine nq (y_assign rfl) <| nend <| qsub (sub_cons (t := 5) rfl <| sub_cons (t := 4) rfl <| sub_cons (t := 3) rfl <| sub_cons (t := 2) rfl <| sub_cons (t := 0) rfl <| sub_cons (t := 1) rfl <| sub_nil) <| qthen <| cseq <| creg <| nq (y_move rfl) <| nq (y_move rfl) <| ?_
  refine nsplit 12 rfl (fun h => ?_) (fun h => ?_)
  · refine ng rfl rfl rfl (y_fld rfl fa26_0 (by decide)) <| ng rfl rfl rfl (y_ldN rfl ag23 sz23 il (j_img (b1.fr0 hf3))) <| ng rfl rfl rfl (y_fld rfl fa26_0 (by decide)) <| ng rfl rfl rfl (y_ldN rfl ag23 sz23 il' (j_img (hb2.fr0 hf3))) <| ng rfl rfl rfl (y_eqD23 rfl rfl hi hi') <| nq (y_pickT rfl rfl) <| nq (y_assign rfl) <| nend <| qsub (sub_cons (t := 4) rfl <| sub_cons (t := 5) rfl <| sub_cons (t := 3) rfl <| sub_cons (t := 2) rfl <| sub_cons (t := 0) rfl <| sub_cons (t := 1) rfl <| sub_nil) <| qthen <| cret <| ?_
    refine ret1 trivial rfl rfl ⟨?_, (hf1.trans0 hf2).trans0 hf3⟩
    simp only [h, true_and]
  · refine nskip rfl rfl rfl (by decide) <| nskip rfl rfl rfl (by decide) <| nskip rfl rfl rfl (by decide) <| nskip rfl rfl rfl (by decide) <| nskip rfl rfl rfl (by decide) <| nq (y_pickF rfl rfl) <| nq (y_assign rfl) <| nend <| qsub (sub_cons (t := 4) rfl <| sub_cons (t := 5) rfl <| sub_cons (t := 3) rfl <| sub_cons (t := 2) rfl <| sub_cons (t := 0) rfl <| sub_cons (t := 1) rfl <| sub_nil) <| qthen <| cret <| ?_
    refine ret1 trivial rfl rfl ⟨?_, (hf1.trans0 hf2).trans0 hf3⟩
    simp only [h, false_and, decide_false]
/-- which journals may be -/
def JMay (ds : List (List UInt8)) : Prop := Rise ds ∧ ds.length ≤ 4096
instance (ds : List (List UInt8)) : Decidable (JMay ds) := inferInstanceAs (Decidable (_ ∧ _))
theorem may (img : List UInt8) (A : Option Addr) (n c : Nat) (ds : List (List UInt8)) (w : World) (hi : img.length = 32) (hr : Rd w 32 A n (dc ds)) (hD : D32 ds) (hn : n ≤ 140737488351232) :
    Calls Try.prog 39 #[.agg (b8s img ++ [Value.slice A n c]).toArray] w fun e w' => e = .returned (.bool (decide (JMay ds))) ∧ Fr No w w' := by
  have hl := dc_len hr hD
  refine enter (N := 32) Try.func39 rfl rfl (by simp) ?_
  refine cseq <| creg <| ?_
  refine nx (x_box rfl fun g1 w1 hg1 hf1 hb1 => ?_)
  rw [cells_agg] at hb1
  have hr1 := hr.fr0 hf1
  refine nq (y_assign rfl) <| nend <| qthen <| cseq <| cseq <| creg <| nq (y_fld rfl fa31_1 (by decide)) <| nq (y_ld1 rfl ag24 (j_s hb1 hi)) <| nq (y_lenS rfl Try.underlying24) <| nq (y_move rfl) <| nend <| qsub (sub_cons (t := 7) rfl <| sub_cons (t := 6) rfl <| sub_cons (t := 2) rfl <| sub_cons (t := 1) rfl <| sub_cons (t := 0) rfl <| sub_nil) <| qthen <| cblock <| ?_
  refine cloop1 (fun k => n - k) (fun k => [(1, .pointer (some ⟨g1, 0, none⟩)), (6, .int .i64 (n : Int)), (7, .int .i64 (k : Nat))]) (fun k w' => k ≤ n ∧ Rise (ds.take k) ∧ Fr No w1 w') 0 (⟨Nat.zero_le _, trivial, Fr.refl _ _⟩) (sub_cons (t := 1) rfl <| sub_cons (t := 6) rfl <| sub_cons (t := 7) rfl <| sub_nil) (fun k w2 ⟨hk, hR, hf2⟩ => ?_)
  refine cseq <| creg <| nq (y_lss rfl rfl) <| nend <| qthen <| cseq <| ?_
  refine cif rfl (fun h => ?_) (fun h => ?_)
  · have hkl : k < ds.length := by omega
    refine cskip <| qthen <| cseq <| cblock <| cseq <| creg <| nq (y_move rfl) <| nq (y_assign rfl) <| nend <| qsub (sub_cons (t := 3) rfl <| sub_cons (t := 8) rfl <| sub_cons (t := 1) rfl <| sub_cons (t := 6) rfl <| sub_cons (t := 7) rfl <| sub_nil) <| qthen <| cseq <| ?_
    refine cdrw [(0, false), (1, false), (2, false), (3, false), (4, false), (5, false), (6, false), (7, false), (8, false), (9, false), (10, false), (11, false), (12, false), (13, false), (14, true), (15, false), (16, false)] (by kernel_rfl) (by kernel_rfl) rfl (fun w' => Fr No w1 w') (hf2.trans0 (Fr.drew _)) (fun w3 hf3 hS3 => ?_)
    refine sq (fun w_ hS_ => y_move rfl) <| sq (fun w_ hS_ => y_gtr rfl rfl) <| sq (fun w_ hS_ => y_move rfl) <| ?_
    refine ssplit 12 rfl (fun h1 => ?_) (fun h1 => ?_)
    · have hkm : k - 1 < ds.length := by omega
      refine sqg (o := _) rfl rfl rfl (fun w_ hS_ => y_fld rfl fa31_1 (by decide)) <| sqg (o := _) rfl rfl rfl (fun w_ hS_ => y_ld1 rfl ag24 ((j_s (hb1.fr0 hS_) hi))) <| sqg (o := _) rfl rfl rfl (fun w_ hS_ => y_move rfl) <| sqg (o := _) rfl rfl rfl (fun w_ hS_ => y_sub rfl rfl (w64 (by omega) (by omega))) <| sqg (o := _) rfl rfl rfl (fun w_ hS_ => y_idxS rfl rfl Try.underlying24 sz23 hr.2.1 (show ((k - 1 : Nat) : Int) = (k : Int) - 1 by omega) (by omega)) <| sqg (o := _) rfl rfl rfl (fun w_ hS_ => y_ldN rfl ag23 sz23 ((by rw [b8s_length]; exact dc_getD hD hkm)) (((hr1.fr0 hS_).dig hD hkm))) <| sqg (o := _) rfl rfl rfl (fun w_ hS_ => y_fld rfl fa31_1 (by decide)) <| sqg (o := _) rfl rfl rfl (fun w_ hS_ => y_ld1 rfl ag24 ((j_s (hb1.fr0 hS_) hi))) <| sqg (o := _) rfl rfl rfl (fun w_ hS_ => y_move rfl) <| sqg (o := _) rfl rfl rfl (fun w_ hS_ => y_idxS rfl rfl Try.underlying24 sz23 hr.2.1 rfl (by omega)) <| sqg (o := _) rfl rfl rfl (fun w_ hS_ => y_ldN rfl ag23 sz23 ((by rw [b8s_length]; exact dc_getD hD hkl)) (((hr1.fr0 hS_).dig hD hkl))) <| ?_
      refine sxg rfl rfl rfl (x_call rfl Try.call54 (less _ _ _ (dc_getD hD hkm) (dc_getD hD hkl)) ?_)
      rintro e_ w4 ⟨rfl, hf4⟩
      refine ⟨_, rfl, ?_⟩
      refine ⟨hS3.trans0 hf4, ?_⟩
      have hS4 := hS3.trans0 hf4
      have hst := rise_take_succ ds k (by omega) hkl
      refine sqg (o := _) rfl rfl rfl (fun w_ hS_ => (y_notp rfl)) <| sq (fun w_ hS_ => y_pickT rfl rfl) <| send <| qsub (sub_cons (t := 26) rfl <| sub_cons (t := 3) rfl <| sub_cons (t := 8) rfl <| sub_cons (t := 1) rfl <| sub_cons (t := 6) rfl <| sub_cons (t := 7) rfl <| sub_nil) <| qthen <| ?_
      refine cif rfl (fun h2 => ?_) (fun h2 => ?_)
      · refine cseq <| creg <| nq (y_assign rfl) <| nend <| qthen <| cret <| qblock_ret <| qthen_ret <| qthen_ret <| qblock_ret <| qthen_ret <| ?_
        have hno : ¬ JMay ds := fun h => rise_take (fun hr => h2 (hst.1 hr).2) h.1
        exact ret1 trivial rfl rfl ⟨by rw [decide_eq_false hno], hf1.trans0 hS4⟩
      · refine cskip <| qblock <| qthen <| creg <| nq (y_add rfl rfl (w64 (by omega) (by omega))) <| nq (y_move rfl) <| nend <| qsub (sub_cons (t := 7) rfl <| sub_cons (t := 26) rfl <| sub_cons (t := 3) rfl <| sub_cons (t := 8) rfl <| sub_cons (t := 1) rfl <| sub_cons (t := 6) rfl <| sub_nil) <| ?_
        refine qloop1 (k + 1) (sub_cons (t := 1) rfl <| sub_cons (t := 6) rfl <| sub_cons (t := 7) rfl <| sub_nil) (⟨by omega, hst.2 ⟨hR, Decidable.not_not.1 h2⟩, hS4⟩) (by omega)
    · obtain rfl : k = 0 := by omega
      refine sskip rfl rfl rfl (by decide) <| sskip rfl rfl rfl (by decide) <| sskip rfl rfl rfl (by decide) <| sskip rfl rfl rfl (by decide) <| sskip rfl rfl rfl (by decide) <| sskip rfl rfl rfl (by decide) <| sskip rfl rfl rfl (by decide) <| sskip rfl rfl rfl (by decide) <| sskip rfl rfl rfl (by decide) <| sskip rfl rfl rfl (by decide) <| sskip rfl rfl rfl (by decide) <| sskip rfl rfl rfl (by decide) <| sskip rfl rfl rfl (by decide) <| sq (fun w_ hS_ => y_pickF rfl rfl) <| send <| qsub (sub_cons (t := 26) rfl <| sub_cons (t := 3) rfl <| sub_cons (t := 8) rfl <| sub_cons (t := 1) rfl <| sub_cons (t := 6) rfl <| sub_cons (t := 7) rfl <| sub_nil) <| qthen <| ?_
      refine ciff rfl (rfl) ?_
      refine cskip <| qblock <| qthen <| creg <| nq (y_add rfl rfl (w64 (by omega) (by omega))) <| nq (y_move rfl) <| nend <| qsub (sub_cons (t := 7) rfl <| sub_cons (t := 26) rfl <| sub_cons (t := 3) rfl <| sub_cons (t := 8) rfl <| sub_cons (t := 1) rfl <| sub_cons (t := 6) rfl <| sub_nil) <| ?_
      refine qloop1 1 (sub_cons (t := 1) rfl <| sub_cons (t := 6) rfl <| sub_cons (t := 7) rfl <| sub_nil) (⟨by omega, (by cases ds with | nil => trivial | cons a r => trivial), hS3⟩) (by omega)
  · rw [List.take_of_length_le (by omega)] at hR
    refine cexit <| qthen_exit <| qthen_exit <| qblock_exit <| qthen <| cseq <| creg <| nq (y_fld rfl fa31_1 (by decide)) <| nq (y_ld1 rfl ag24 ((j_s (hb1.fr0 hf2) hi))) <| nq (y_lenS rfl Try.underlying24) <| nq (y_leq rfl rfl) <| nq (y_assign rfl) <| nend <| qsub (sub_cons (t := 2) rfl <| sub_cons (t := 8) rfl <| sub_cons (t := 1) rfl <| sub_cons (t := 6) rfl <| sub_cons (t := 7) rfl <| sub_nil) <| qthen <| cret <| ?_
    refine ret1 trivial rfl rfl ⟨?_, hf1.trans0 hf2⟩
    have : ((n : Int) ≤ 4096) ↔ JMay ds := ⟨fun h => ⟨hR, by omega⟩, fun h => by have := h.2; omega⟩
    simp only [this]
theorem of_j (img : List UInt8) (s : Value) (w : World) (hi : img.length = 32) (hs : s.oneCell' = true) (hs2 : s.cells.toList = [s]) :
    Calls Try.prog 8 #[.agg (b8s img ++ [s]).toArray] w fun e w' => e = .returned (.agg (b8s img ++ [s]).toArray) ∧ Fr No w w' := by
  have il : (b8s img).length = 32 := by rw [b8s_length]; exact hi
  refine enter (N := 8) Try.func8 rfl rfl (by simp) ?_
  refine cseq <| creg <| ?_
  refine nx (x_box rfl fun g1 w1 hg1 hf1 hb1 => ?_)
  rw [cells_agg] at hb1
  refine nx (x_alloc ti31 fun g2 w2 hg2 hf2 hb2 => ?_)
  have b1 := hb1.fr0 hf2
  have l1 := hb1.lt
  have s1 := hf1.size
  refine nend <| qthen <| cseq <| creg <| nq (y_fld rfl fa26_0 (by decide)) <| nq (y_ldN rfl ag23 sz23 il (j_img b1)) <| nq (y_fld rfl fa26_1 (by decide)) <| nq (y_ld1 rfl ag24 (j_s b1 hi)) <| nq (y_build ti31 rfl rfl (by kernel_rfl) ((bldJ pl31_0 pl31_1 (by simp) hi hs2))) <| ?_
  refine nx0 (x_stA rfl rfl sz31 (j_len hi) (j_one hs) hb2 rfl fun w3 hf3 hb3 hs3 => ?_)
  refine nend <| qsub (sub_cons (t := 2) rfl <| sub_cons (t := 1) rfl <| sub_cons (t := 0) rfl <| sub_nil) <| qthen <| cret <| ?_
  exact retN trivial rfl rfl ag31 sz31 (j_len hi) hb3.cells0 ⟨rfl, (hf1.trans0 hf2).new hf3 (fun i hi => by omega)⟩
theorem as_j (img : List UInt8) (s : Value) (w : World) (hi : img.length = 32) (hs : s.oneCell' = true) (hs2 : s.cells.toList = [s]) :
    Calls Try.prog 12 #[.agg (b8s img ++ [s]).toArray] w fun e w' => e = .returned (.agg (b8s img ++ [s]).toArray) ∧ Fr No w w' := by
  have il : (b8s img).length = 32 := by rw [b8s_length]; exact hi
  refine enter (N := 8) Try.func12 rfl rfl (by simp) ?_
  refine cseq <| creg <| ?_
  refine nx (x_box rfl fun g1 w1 hg1 hf1 hb1 => ?_)
  rw [cells_agg] at hb1
  refine nx (x_alloc ti26 fun g2 w2 hg2 hf2 hb2 => ?_)
  have b1 := hb1.fr0 hf2
  have l1 := hb1.lt
  have s1 := hf1.size
  refine nend <| qthen <| cseq <| creg <| nq (y_fld rfl fa31_0 (by decide)) <| nq (y_ldN rfl ag23 sz23 il (j_img b1)) <| nq (y_fld rfl fa31_1 (by decide)) <| nq (y_ld1 rfl ag24 (j_s b1 hi)) <| nq (y_build ti26 rfl rfl (by kernel_rfl) ((bldJ pl26_0 pl26_1 (by simp) hi hs2))) <| ?_
  refine nx0 (x_stA rfl rfl sz26 (j_len hi) (j_one hs) hb2 rfl fun w3 hf3 hb3 hs3 => ?_)
  refine nend <| qsub (sub_cons (t := 2) rfl <| sub_cons (t := 1) rfl <| sub_cons (t := 0) rfl <| sub_nil) <| qthen <| cret <| ?_
  exact retN trivial rfl rfl ag26 sz26 (j_len hi) hb3.cells0 ⟨rfl, (hf1.trans0 hf2).new hf3 (fun i hi => by omega)⟩
end Go.Proofs.Ytlbecpekemlllaa
end
section
/- Contracts: a journal's bytes. -/
set_option linter.unusedVariables false
set_option linter.unusedSimpArgs false
set_option maxRecDepth 20000
namespace Go.Proofs.Ytlbecpekemlllaa
open Go.Eng Go.Hx
def jbody (img : List UInt8) (ds : List (List UInt8)) : List UInt8 := [76, 84, 74, 49] ++ img ++ le4 ds.length ++ ds.flatten
theorem flatten_snoc {ds : List (List UInt8)} {k : Nat} (h : k < ds.length) : (ds.take (k + 1)).flatten = (ds.take k).flatten ++ ds.getD k [] := by
  rw [List.take_succ_eq_append_getElem h, List.flatten_append, List.getD, List.getElem?_eq_getElem h]
  simp
theorem flatten_length {ds : List (List UInt8)} (h : D32 ds) (k : Nat) (hk : k ≤ ds.length) : (ds.take k).flatten.length = 32 * k := by
  induction k with
  | zero => simp
  | succ k ih =>
    rw [flatten_snoc (by omega), List.length_append, ih (by omega), dc_getD h (by omega)]
    omega
theorem jbody_length {img : List UInt8} {ds : List (List UInt8)} (hi : img.length = 32) (h : D32 ds) : (jbody img ds).length = 40 + 32 * ds.length := by
  have := flatten_length h ds.length (Nat.le_refl _)
  rw [List.take_length] at this
  simp only [jbody, List.length_append, this, hi, le4_length, List.length_cons, List.length_nil]
theorem own_len {w : World} {b : Nat} {e : TypeId} {v : Value} {n : Nat} {l : List UInt8} (h : Own w b e 1 v n (b8s l)) : l.length = n := by
  have := h.1
  rw [b8s_length] at this
  omega
/-- what Write tells -/
theorem write (img : List UInt8) (A : Option Addr) (n c : Nat) (ds : List (List UInt8)) (w : World) (hi : img.length = 32) (hr : Rd w 32 A n (dc ds)) (hD : D32 ds) (hn : n ≤ 140737488351232) :
    Calls Try.prog 19 #[.agg (b8s img ++ [Value.slice A n c]).toArray] w fun e w' => (∃ v, e = .returned (.tuple #[v, .int .i64 (if JMay ds then 0 else 1)]) ∧ (JMay ds → Own w' w.heap.size 5 1 v ((jbody img ds).length + 4) (b8s (putL (jbody img ds)))) ∧ (¬ JMay ds → v = .slice none 0 0)) ∧ Fr No w w' := by
  have hl := dc_len hr hD
  have il : (b8s img).length = 32 := by rw [b8s_length]; exact hi
  refine enter (N := 42) Try.func19 rfl rfl (by simp) ?_
  refine cseq <| creg <| ?_
  refine nx (x_box rfl fun g1 w1 hg1 hf1 hb1 => ?_)
  rw [cells_agg] at hb1
  refine nq (y_assign rfl) <| nq (y_assign rfl) <| nend <| qthen <| cseq <| cseq <| creg <| nq (y_ldN rfl ag31 sz31 ((j_len hi)) hb1.cells0) <| ?_
  refine nx (x_call rfl Try.call39 (may img A n c ds w1 hi (hr.fr0 hf1) hD hn) ?_)
  rintro e_ w2 ⟨rfl, hf2⟩
  refine ⟨_, rfl, ?_⟩
  have b12 := hb1.fr0 hf2
  have hf := hf1.trans0 hf2
  refine nq ((y_notp rfl)) <| nend <| qsub (sub_cons (t := 10) rfl <| sub_cons (t := 3) rfl <| sub_cons (t := 2) rfl <| sub_cons (t := 1) rfl <| sub_cons (t := 0) rfl <| sub_nil) <| qthen <| ?_
  refine cif rfl (fun h => ?_) (fun h => ?_)
  · refine cseq <| creg <| nq (y_assign rfl) <| nq (y_assign rfl) <| nend <| qthen <| cret <| qthen_ret <| ?_
    exact ret2 trivial rfl rfl rfl ⟨⟨_, by rw [if_neg h], fun h' => absurd h' h, fun _ => rfl⟩, hf⟩
  · have hJ : JMay ds := Decidable.not_not.1 h
    have hn6 : n ≤ 4096 := by have := hJ.2; omega
    have l1 := b12.lt
    have s1 := hf1.size
    have s2 := hf2.size
    refine cskip <| qthen <| cseq <| creg <| ?_
    refine nx (x_bsl Try.underlying47 ti5 rfl rfl rfl (by simp [Value.cells, B8]) (by decide) (by decide) fun g3 w3 hg3 hf3 hb3 => ?_)
    refine nx (x_cvS rfl Try.underlying47 Try.underlying5 hb3 fun w4 hf4 hb4 hs4 => ?_)
    have f24 : Fr No w2 w4 := hf3.new hf4 (fun i hi => by omega)
    have ho4 : Own w4 w2.heap.size 5 1 (.slice (some ⟨g3, 0, none⟩) 4 4) 4 (b8s [76, 84, 74, 49]) := Own.made hb4 hg3 (Nat.le_refl _) (by decide) rfl
    have b14 := b12.fr0 f24
    have rimg : Rd w4 1 (some ((⟨g1, 0, none⟩ : Addr).add 0)) 32 (b8s img) := ⟨by rw [il], fun _ e => (by cases e), j_img b14⟩
    refine nq (y_fld rfl fa31_0 (by decide)) <| nq (y_slArr rfl Try.underlying23 sz5) <| ?_
    refine nx (x_app rfl rfl Try.underlying47 Try.underlying47 (by exact .inl rfl) ti5 rfl ho4 (Src.of_rd rimg) b8s_oneCell (by unfold maxLen; omega) (by omega) f24.size fun v5 w5 ho5 hf5 hv5 => ?_)
    rw [← b8s_append] at ho5
    have f25 : Fr No w2 w5 := f24.new hf5 (fun i hi => (ho4.from hi).1)
    have b15 := b12.fr0 f25
    refine nq (y_assign rfl) <| nend <| qsub (sub_cons (t := 4) rfl <| sub_cons (t := 10) rfl <| sub_cons (t := 3) rfl <| sub_cons (t := 2) rfl <| sub_cons (t := 1) rfl <| sub_cons (t := 0) rfl <| sub_nil) <| qthen <| cseq <| creg <| nq (y_fld rfl fa31_1 (by decide)) <| nq (y_ld1 rfl ag24 (j_s b15 hi)) <| nq (y_lenS rfl Try.underlying24) <| nq (y_assign rfl) <| nend <| qsub (sub_cons (t := 5) rfl <| sub_cons (t := 4) rfl <| sub_cons (t := 10) rfl <| sub_cons (t := 3) rfl <| sub_cons (t := 2) rfl <| sub_cons (t := 1) rfl <| sub_cons (t := 0) rfl <| sub_nil) <| qthen <| cseq <| cseq <| creg <| nq (y_move rfl) <| nend <| qthen <| cblock <| ?_
    refine cloop2 (fun k _ => 4 - k) (fun k v => [(1, .pointer (some ⟨g1, 0, none⟩)), (4, v), (5, .int .i64 (shr8 k n : Nat)), (19, .int .i64 (k : Nat))]) (fun k v w' => k ≤ 4 ∧ Own w' w2.heap.size 5 1 v (36 + k) (b8s ([76, 84, 74, 49] ++ img ++ lek k n)) ∧ Fr No w2 w') 0 v5 (⟨Nat.zero_le _, by simpa [lek] using ho5, f25⟩) (sub_cons (t := 1) rfl <| sub_cons (t := 4) rfl <| sub_cons (t := 5) rfl <| sub_cons (t := 19) rfl <| sub_nil) (fun k v w6 ⟨hk, ho6, f26⟩ => ?_)
    refine cseq <| creg <| nq (y_lss rfl rfl) <| nend <| qthen <| cseq <| ?_
    refine cif rfl (fun h2 => ?_) (fun h2 => ?_)
    · have hs8 := shr8_lt (n := n) (b := 4097) (by omega) k
      refine cskip <| qthen <| cseq <| cblock <| cseq <| creg <| nq (y_move rfl) <| nq (y_move rfl) <| nq (y_conv rfl Try.underlying3 Try.underlying5 ((u8mod _))) <| ?_
      refine nx (x_bsl Try.underlying47 ti5 rfl rfl rfl (by simp [Value.cells, B8]) (by decide) (by decide) fun g7 w7 hg7 hf7 hb7 => ?_)
      refine nx (x_app rfl rfl Try.underlying47 Try.underlying47 (by exact .inl rfl) ti5 rfl (ho6.fr0 hf7) (Src.of_blk hb7 rfl) (b8s_one (l := [_])) (by unfold maxLen; omega) (by omega) (f26.trans0 hf7).size fun v8 w8 ho8 hf8 hv8 => ?_)
      refine nq (y_assign rfl) <| nend <| qsub (sub_cons (t := 4) rfl <| sub_cons (t := 20) rfl <| sub_cons (t := 1) rfl <| sub_cons (t := 5) rfl <| sub_cons (t := 19) rfl <| sub_nil) <| qthen <| creg <| nq (y_move rfl) <| nq (y_shr (p := 256) rfl rfl (by decide) (by decide) (by decide)) <| nq (y_assign rfl) <| nend <| qsub (sub_cons (t := 5) rfl <| sub_cons (t := 4) rfl <| sub_cons (t := 20) rfl <| sub_cons (t := 1) rfl <| sub_cons (t := 19) rfl <| sub_nil) <| qblock <| qthen <| creg <| nq (y_add rfl rfl (w64 (by omega) (by omega))) <| nq (y_move rfl) <| nend <| qsub (sub_cons (t := 19) rfl <| sub_cons (t := 5) rfl <| sub_cons (t := 4) rfl <| sub_cons (t := 20) rfl <| sub_cons (t := 1) rfl <| sub_nil) <| ?_
      refine qloop2 (k + 1) v8 (sub_cons (t := 1) rfl <| sub_cons (t := 4) rfl <| sub_cons (t := 5) rfl <| sub_cons (t := 19) rfl <| sub_nil) (⟨by omega, by rw [lek_succ, ← List.append_assoc, b8s_append]; exact ho8, (f26.trans0 hf7).new hf8 (fun i hi => (ho6.from hi).1)⟩) (by omega)
    · obtain rfl : k = 4 := by omega
      rw [lek_four] at ho6
      generalize hpre : [76, 84, 74, 49] ++ img ++ le4 n = pre at ho6
      refine cexit <| qthen_exit <| qthen_exit <| qblock_exit <| qthen <| cseq <| cseq <| creg <| nq (y_fld rfl fa31_1 (by decide)) <| nq (y_ld1 rfl ag24 ((j_s (b12.fr0 f26) hi))) <| nq (y_lenS rfl Try.underlying24) <| nq (y_move rfl) <| nend <| qsub (sub_cons (t := 32) rfl <| sub_cons (t := 31) rfl <| sub_cons (t := 30) rfl <| sub_cons (t := 20) rfl <| sub_cons (t := 1) rfl <| sub_cons (t := 4) rfl <| sub_cons (t := 5) rfl <| sub_cons (t := 19) rfl <| sub_nil) <| qthen <| cblock <| ?_
      refine cloop2 (fun k _ => n - k) (fun k v => [(1, .pointer (some ⟨g1, 0, none⟩)), (4, v), (30, .slice A n c), (31, .int .i64 (n : Int)), (32, .int .i64 (k : Nat))]) (fun k v w' => k ≤ n ∧ Own w' w2.heap.size 5 1 v (40 + 32 * k) (b8s (pre ++ (ds.take k).flatten)) ∧ Fr No w2 w') 0 v (⟨Nat.zero_le _, by simpa using ho6, f26⟩) (sub_cons (t := 1) rfl <| sub_cons (t := 4) rfl <| sub_cons (t := 30) rfl <| sub_cons (t := 31) rfl <| sub_cons (t := 32) rfl <| sub_nil) (fun q v9 w9 ⟨hq, ho9, f29⟩ => ?_)
      refine cseq <| creg <| nq (y_lss rfl rfl) <| nend <| qthen <| cseq <| ?_
      refine cif rfl (fun h3 => ?_) (fun h3 => ?_)
      · have hkl : q < ds.length := by omega
        have hdk := dc_getD hD hkl
        have hdl : (b8s (ds.getD q [])).length = 32 := by rw [b8s_length]; exact hdk
        refine cskip <| qthen <| cseq <| cblock <| cseq <| creg <| nq (y_idxS rfl rfl Try.underlying24 sz23 hr.2.1 rfl (by omega)) <| nq (y_ldN rfl ag23 sz23 hdl ((((hr.fr0 hf).fr0 f29).dig hD hkl))) <| ?_
        refine nx (x_alloc ti23 fun g10 w10 hg10 hf10 hb10 => ?_)
        refine nx0 (x_stD rfl rfl sz23 hdk hb10 rfl fun w11 hf11 hb11 hs11 => ?_)
        have f911 : Fr No w9 w11 := hf10.new hf11 (fun i hi => by omega)
        have rd11 : Rd w11 1 (some (⟨g10, 0, none⟩ : Addr)) 32 (b8s (ds.getD q [])) := Rd.of_blk hb11 (by rw [hdl])
        refine nend <| qsub (sub_cons (t := 7) rfl <| sub_cons (t := 33) rfl <| sub_cons (t := 1) rfl <| sub_cons (t := 4) rfl <| sub_cons (t := 30) rfl <| sub_cons (t := 31) rfl <| sub_cons (t := 32) rfl <| sub_nil) <| qthen <| creg <| nq (y_move rfl) <| nq (y_slArr rfl Try.underlying23 sz5) <| ?_
        refine nx (x_app rfl rfl Try.underlying47 Try.underlying47 (by exact .inl rfl) ti5 rfl (ho9.fr0 f911) (Src.of_rd rd11) b8s_oneCell (by unfold maxLen; omega) (by omega) (f29.trans0 f911).size fun v12 w12 ho12 hf12 hv12 => ?_)
        rw [← b8s_append, List.append_assoc, ← flatten_snoc hkl] at ho12
        refine nq (y_assign rfl) <| nend <| qsub (sub_cons (t := 4) rfl <| sub_cons (t := 7) rfl <| sub_cons (t := 33) rfl <| sub_cons (t := 1) rfl <| sub_cons (t := 30) rfl <| sub_cons (t := 31) rfl <| sub_cons (t := 32) rfl <| sub_nil) <| qblock <| qthen <| creg <| nq (y_add rfl rfl (w64 (by omega) (by omega))) <| nq (y_move rfl) <| nend <| qsub (sub_cons (t := 32) rfl <| sub_cons (t := 4) rfl <| sub_cons (t := 7) rfl <| sub_cons (t := 33) rfl <| sub_cons (t := 1) rfl <| sub_cons (t := 30) rfl <| sub_cons (t := 31) rfl <| sub_nil) <| ?_
        refine qloop2 (q + 1) v12 (sub_cons (t := 1) rfl <| sub_cons (t := 4) rfl <| sub_cons (t := 30) rfl <| sub_cons (t := 31) rfl <| sub_cons (t := 32) rfl <| sub_nil) (⟨by omega, (show 40 + 32 * q + 32 = 40 + 32 * (q + 1) by omega) ▸ ho12, (f29.trans0 f911).new hf12 (fun i hi => (ho9.from hi).1)⟩) (by omega)
      · obtain rfl : q = n := by omega
        rw [List.take_of_length_le (by omega)] at ho9
        have hjb : pre ++ ds.flatten = jbody img ds := by rw [← hpre, jbody, hl]
        rw [hjb] at ho9
        have hjl := own_len ho9
        obtain ⟨A9, c9, rfl, hc9⟩ := ho9.slice
        refine cexit <| qthen_exit <| qthen_exit <| qblock_exit <| qthen <| cseq <| creg <| nq (y_move rfl) <| ?_
        refine nx (x_call rfl Try.call40 (crcPut A9 _ c9 _ _ (Own.rd ho9).2.2 (by omega)) ?_)
        rintro e_ w10 ⟨v10, rfl, ho10, hf10⟩
        refine ⟨_, rfl, ?_⟩
        refine nq (y_assign rfl) <| nq (y_assign rfl) <| nend <| qsub (sub_cons (t := 3) rfl <| sub_cons (t := 2) rfl <| sub_cons (t := 33) rfl <| sub_cons (t := 1) rfl <| sub_cons (t := 4) rfl <| sub_cons (t := 30) rfl <| sub_cons (t := 31) rfl <| sub_cons (t := 32) rfl <| sub_nil) <| qthen <| cret <| ?_
        refine ret2 trivial rfl rfl rfl ⟨⟨v10, by rw [if_pos hJ], fun _ => ?_, fun h' => absurd hJ h'⟩, (hf.trans0 f29).trans0 hf10⟩
        rw [hjl]
        exact ho10.wide ((hf.trans0 f29).size)
end Go.Proofs.Ytlbecpekemlllaa
end
section
/- The disk's example (lives of layer 12), computed. -/
set_option linter.unusedVariables false
set_option linter.unusedSimpArgs false
set_option maxRecDepth 20000
namespace Go.Proofs.Ytlbecpekemlllaa
open Go.Eng Go.Hx
theorem named1 {x : UInt8} (h : x ≠ 0) : Named [x] := ⟨by simp, by simp, by simp; exact fun e => h e.symm⟩
end Go.Proofs.Ytlbecpekemlllaa
end
section
/- From a row's readings to what my contracts ask. No statement is proved here. -/
set_option linter.unusedVariables false
set_option linter.unusedSimpArgs false
namespace Go.Eng
open Go.RowKit Go.ChangeShapes Go.WideShapes
/-- bytes in an array that came in -/
theorem open_digest {H : Type} {enc : TypeId × Value → H} {P : Program} {w : World} {base : Nat} {spare : Nat → Bool} {held : Bool} {r : Reach} {b0 : Nat} {t e : TypeId} {v : Value} {d : DataW H} {ps : List MemPlace} {n : Nat} (ht : P.underlying t = some (.array n e)) (he : P.underlying e = some (.int .u8)) (hc : P.cellsOf e = 1) (hct : P.cellsOf t = n) (hval : Value.okWide P w r b0 t v) (hd : DataW.Trod enc P w base spare held t v d ps) :
    ∃ l : List UInt8, v = .agg (b8s l).toArray ∧ l.length = n := by
  simp only [Value.okWide, ht] at hval
  obtain ⟨cs, rfl, _, _⟩ := hval
  obtain ⟨fuel, hf⟩ := hd
  obtain ⟨xs, m, _, _, hlen, hxl, hel⟩ := DataW.trod_array ht hf
  simp only [Value.cells] at hlen hel
  rw [hct] at hlen
  have hcell : ∀ i, i < n → ∃ c : UInt8, cs.toList[i]? = some (B8 c) := by
    intro i hi
    have h1 := hel i hi
    rw [List.getElem?_eq_getElem (by omega), hc, Nat.mul_one] at h1
    obtain ⟨z, hz, _, hw⟩ := DataW.trod_int he h1
    have hb := bounds_u8 hw
    refine ⟨UInt8.ofNat z.toNat, ?_⟩
    have h2 : ((cs.toList.drop i).take 1)[0]? = some (.int .u8 z) := by rw [hz]; rfl
    rw [List.getElem?_take, if_pos (by omega), List.getElem?_drop, Nat.add_zero] at h2
    rw [h2, B8, UInt8.toNat_ofNat', Nat.mod_eq_of_lt (by omega)]
    congr 2
    omega
  refine ⟨cs.toList.map fun v => match v with | .int _ z => UInt8.ofNat z.toNat | _ => 0, ?_, by simpa using hlen⟩
  congr 1
  apply Array.toList_inj.1
  apply List.ext_getElem?
  intro i
  simp only [b8s, List.map_map, List.getElem?_map]
  by_cases hi : i < n
  · obtain ⟨c, hc⟩ := hcell i hi
    rw [hc]
    simp [B8]
  · rw [List.getElem?_eq_none (by omega)]
    rfl
end Go.Eng
end
section
/- Values that came in, with all that is read through them: cells. No statement is proved here. -/
set_option linter.unusedVariables false
set_option linter.unusedSimpArgs false
namespace Go.Eng
open Go.RowKit Go.ChangeShapes Go.WideShapes
inductive Cell
  | v (x : Value)
  | s (sz : Nat) (A : Option Addr) (n c : Nat) (xs : List Cell)
def Cell.val : Cell → Value
  | .v x => x
  | .s _ A n c _ => .slice A n c
mutual
def Cell.foot : Cell → Nat → Prop
  | .v _ => fun _ => False
  | .s _ A _ _ xs => fun k => (xs ≠ [] ∧ ∃ a, A = some a ∧ k = a.block) ∨ feetC xs k
def feetC : List Cell → Nat → Prop
  | [] => fun _ => False
  | x :: r => fun k => x.foot k ∨ feetC r k
end
mutual
def Cell.holds (w : World) : Cell → Prop
  | .v _ => True
  | .s sz A n c xs => Rd w sz A n (xs.map Cell.val) ∧ n ≤ c ∧ holdC w xs
def holdC (w : World) : List Cell → Prop
  | [] => True
  | x :: r => x.holds w ∧ holdC w r
end
theorem feetC_iff {k : Nat} : ∀ {xs : List Cell}, feetC xs k ↔ ∃ x ∈ xs, x.foot k
  | [] => by simp [feetC]
  | x :: r => by simp only [feetC, feetC_iff (xs := r), List.mem_cons, exists_eq_or_imp]
theorem holdC_iff {w : World} : ∀ {xs : List Cell}, holdC w xs ↔ ∀ x ∈ xs, x.holds w
  | [] => by simp [holdC]
  | x :: r => by simp only [holdC, holdC_iff (xs := r), List.mem_cons, forall_eq_or_imp]
mutual
theorem Cell.keep {S : Nat → Prop} {w w' : World} (f : Fr S w w') : ∀ (c : Cell), (∀ k, c.foot k → ¬ S k) → c.holds w → c.holds w'
  | .v _, _, _ => trivial
  | .s sz A n c xs, h, hh => by
    obtain ⟨h1, h2, h3⟩ := hh
    refine ⟨Rd.keep h1 f (fun k hk => h k ?_), h2, keepC f xs (fun k hk => h k (.inr hk)) h3⟩
    obtain ⟨hne, a, ha, hk⟩ := hk
    exact .inl ⟨fun e => hne (by rw [e]; rfl), a, ha, hk⟩
theorem keepC {S : Nat → Prop} {w w' : World} (f : Fr S w w') : ∀ (xs : List Cell), (∀ k, feetC xs k → ¬ S k) → holdC w xs → holdC w' xs
  | [], _, _ => trivial
  | x :: r, h, hh => ⟨Cell.keep f x (fun k hk => h k (.inl hk)) hh.1, keepC f r (fun k hk => h k (.inr hk)) hh.2⟩
end
mutual
theorem Cell.low {w : World} : ∀ (c : Cell) {k : Nat}, c.holds w → c.foot k → k < w.heap.size
  | .v _, _, _, h => h.elim
  | .s sz A n c xs, k, hh, hk => by
    obtain ⟨h1, h2, h3⟩ := hh
    rcases hk with ⟨hne, a, ha, hk⟩ | hk
    · exact (RRd sz A n (xs.map Cell.val)).low h1 ⟨fun e => hne (List.map_eq_nil_iff.1 e), a, ha, hk⟩
    · exact lowC xs h3 hk
theorem lowC {w : World} : ∀ (xs : List Cell) {k : Nat}, holdC w xs → feetC xs k → k < w.heap.size
  | [], _, _, h => h.elim
  | x :: r, k, hh, hk => by
    rcases hk with hk | hk
    · exact Cell.low x hh.1 hk
    · exact lowC r hh.2 hk
end
def RCell (c : Cell) : Res := ⟨c.foot, fun w => c.holds w, fun f h x => c.keep f h x, fun x hk => c.low x hk⟩
/-- the row itself -/
theorem View.row0 {sz n c : Nat} {A : Option Addr} {xs : List Cell} : View (RCell (.s sz A n c xs)) (RRd sz A n (xs.map Cell.val)) :=
  .of (fun w h => h.1) (fun k hk => by
    obtain ⟨hne, a, ha, hk⟩ := hk
    exact .inl ⟨fun e => hne (by rw [e]; rfl), a, ha, hk⟩)
/-- what is read through one of its cells -/
theorem View.cell {sz n c j : Nat} {A : Option Addr} {xs : List Cell} {y : Cell} (h : xs[j]? = some y) : View (RCell (.s sz A n c xs)) (RCell y) :=
  .of (fun w hh => holdC_iff.1 hh.2.2 y (List.mem_of_getElem? h)) (fun k hk => .inr (feetC_iff.2 ⟨y, List.mem_of_getElem? h, hk⟩))
/-- what types say of cells -/
inductive Ty (P : Program) : TypeId → List Cell → Prop
  | int {t : TypeId} {k : IntKind} {z : Int} (ht : P.underlying t = some (.int k)) (hw : (Lit.int k z).wf = true) : Ty P t [.v (.int k z)]
  | bool {t : TypeId} {b : Bool} (ht : P.underlying t = some .bool) : Ty P t [.v (.bool b)]
  | str {t : TypeId} {s : List UInt8} (ht : P.underlying t = some .string) (hs : s.length ≤ 140737488351232) : Ty P t [.v (.string (strOf s))]
  | slice {t e : TypeId} {A : Option Addr} {n c : Nat} {xs : List Cell} (ht : P.underlying t = some (.slice e)) (hc : n ≤ c) (hn : n * P.bytesOf e ≤ 140737488351232) (hl : xs.length = n * P.cellsOf e)
      (h : ∀ i, i < n → Ty P e ((xs.drop (i * P.cellsOf e)).take (P.cellsOf e))) : Ty P t [.s (P.cellsOf e) A n c xs]
  | arr {t e : TypeId} {n : Nat} {xs : List Cell} (ht : P.underlying t = some (.array n e)) (hl : xs.length = P.cellsOf t) (h : ∀ i, i < n → Ty P e ((xs.drop (i * P.cellsOf e)).take (P.cellsOf e))) : Ty P t xs
  | struct {t : TypeId} {fs : Array Field} {xs : List Cell} (ht : P.underlying t = some (.struct fs)) (hl : xs.length = P.cellsOf t) (h : ∀ (i : Nat) (f : Field), fs[i]? = some f → Ty P f.type ((xs.drop f.offset).take (P.cellsOf f.type))) : Ty P t xs
/-- fields one behind the other -/
def contig (P : Program) : List Field → Nat → Nat → Bool
  | [], o, e => o == e
  | f :: r, o, e => f.offset == o && contig P r (o + P.cellsOf f.type) e
/-- types of whole numbers, bools, texts, slices, arrays, structs, all the way down -/
def parts (P : Program) : Nat → TypeId → Bool
  | 0, _ => false
  | n + 1, t => match P.underlying t with
    | some (.int _) | some .bool | some .string => true
    | some (.slice e) => parts P n e && decide (0 < P.cellsOf e)
    | some (.array m e) => parts P n e && (P.cellsOf t == m * P.cellsOf e)
    | some (.struct fs) => fs.toList.all (fun f => parts P n f.type) && contig P fs.toList 0 (P.cellsOf t)
    | _ => false
section
variable {H : Type} {enc : TypeId × Value → H} {P : Program} {w : World} {base : Nat} {spare : Nat → Bool} {held : Bool}
theorem cells_at' {b : Nat} {a : Addr} {n : Nat} {cs : List Value} (h : w.cells? b a n = some cs) : cs.length = n ∧ ∀ j u, cs[j]? = some u → w.cell? (a.add j) = some u := by
  obtain ⟨hb, hl, hcell⟩ := World.cells?_some h
  refine ⟨hl, fun j u hu => ?_⟩
  have hj : j < n := by rw [← hl]; exact (List.getElem?_eq_some_iff.1 hu).1
  rw [hcell j hj, hu]
theorem weightsAll_mem {e : TypeId} {d : DataW H} {n : Nat} : ∀ {ds : List (DataW H)}, d ∈ ds → n ∈ d.weights P e → n ∈ DataW.weightsAll P e ds
  | [], h, _ => by cases h
  | a :: r, h, hn => by
    simp only [DataW.weightsAll, List.mem_append]
    rcases List.mem_cons.1 h with rfl | h
    · exact .inl hn
    · exact .inr (weightsAll_mem h hn)
/-- pieces one behind the other -/
theorem pieces {sz : Nat} {Q : List Cell → Prop} {R : Nat → List Value → Prop} : ∀ (m : Nat), (∀ i, i < m → ∃ ys : List Cell, ys.length = sz ∧ Q ys ∧ R i (ys.map Cell.val) ∧ holdC w ys) →
    ∃ xs : List Cell, xs.length = m * sz ∧ (∀ i, i < m → Q ((xs.drop (i * sz)).take sz) ∧ R i (((xs.drop (i * sz)).take sz).map Cell.val)) ∧ holdC w xs
  | 0, _ => ⟨[], by simp, fun i hi => absurd hi (by omega), trivial⟩
  | m + 1, h => by
    obtain ⟨xs, h1, h2, h3⟩ := pieces m (fun i hi => h i (by omega))
    obtain ⟨ys, h4, h5, h6, h7⟩ := h m (by omega)
    have hlen : (m + 1) * sz = m * sz + sz := by rw [Nat.add_mul, Nat.one_mul]
    refine ⟨xs ++ ys, by rw [List.length_append, h1, h4, hlen], fun i hi => ?_, holdC_iff.2 fun x hx => ?_⟩
    · by_cases hm : i = m
      · subst hm
        have e : ((xs ++ ys).drop (i * sz)).take sz = ys := by
          rw [← h1, List.drop_left, List.take_of_length_le (by omega)]
        rw [e]
        exact ⟨h5, h6⟩
      · have hi' : i < m := by omega
        have hle : i * sz + sz ≤ m * sz := by
          have := Nat.mul_le_mul_right sz (show i + 1 ≤ m by omega)
          rwa [Nat.add_mul, Nat.one_mul] at this
        have e : ((xs ++ ys).drop (i * sz)).take sz = (xs.drop (i * sz)).take sz := by
          rw [List.drop_append_of_le_length (by omega), List.take_append_of_le_length (by rw [List.length_drop]; omega)]
        rw [e]
        exact h2 i hi'
    · rcases List.mem_append.1 hx with hx | hx
      · exact holdC_iff.1 h3 x hx
      · exact holdC_iff.1 h7 x hx
theorem get_piece {xs : List Value} {sz i j : Nat} (hj : j < sz) : ((xs.drop (i * sz)).take sz)[j]? = xs[i * sz + j]? := by
  rw [List.getElem?_take, if_pos hj, List.getElem?_drop]
theorem structPieces {cs : List Value} : ∀ (fs : List Field) (o e : Nat), contig P fs o e = true → (∀ f ∈ fs, ∃ ys : List Cell, ys.length = P.cellsOf f.type ∧ Ty P f.type ys ∧ ys.map Cell.val = (cs.drop f.offset).take (P.cellsOf f.type) ∧ holdC w ys) →
    o ≤ e ∧ ∃ xs : List Cell, xs.length = e - o ∧ xs.map Cell.val = (cs.drop o).take (e - o) ∧ holdC w xs ∧ ∀ f ∈ fs, o ≤ f.offset ∧ Ty P f.type ((xs.drop (f.offset - o)).take (P.cellsOf f.type))
  | [], o, e, hc, _ => by
    have : o = e := by simpa [contig] using hc
    subst this
    exact ⟨Nat.le_refl _, [], by simp, by simp, trivial, by simp⟩
  | f :: r, o, e, hc, h => by
    simp only [contig, Bool.and_eq_true, beq_iff_eq] at hc
    obtain ⟨h0, hc⟩ := hc
    obtain ⟨hle, xs, h1, h2, h3, h4⟩ := structPieces r _ e hc (fun g hg => h g (List.mem_cons_of_mem _ hg))
    obtain ⟨ys, h5, h6, h7, h8⟩ := h f (List.mem_cons_self ..)
    rw [h0] at h7
    refine ⟨by omega, ys ++ xs, by rw [List.length_append, h1, h5]; omega, ?_, holdC_iff.2 fun x hx => ?_, fun g hg => ?_⟩
    · rw [List.map_append, h7, h2, ← List.drop_drop, show e - o = P.cellsOf f.type + (e - (o + P.cellsOf f.type)) by omega, List.take_add]
    · rcases List.mem_append.1 hx with hx | hx
      · exact holdC_iff.1 h8 x hx
      · exact holdC_iff.1 h3 x hx
    · rcases List.mem_cons.1 hg with rfl | hg
      · refine ⟨by omega, ?_⟩
        rw [h0, Nat.sub_self, List.drop_zero, ← h5, List.take_left]
        exact h6
      · obtain ⟨h9, h10⟩ := h4 g hg
        refine ⟨by omega, ?_⟩
        have e1 : (ys ++ xs).drop (g.offset - o) = xs.drop (g.offset - (o + P.cellsOf f.type)) := by
          rw [List.drop_append, List.drop_of_length_le (by omega), List.nil_append]
          congr 1
          omega
        rw [e1]
        exact h10
theorem open_cells : ∀ (k fuel : Nat) (t : TypeId) (cs : List Value) (x : DataW H × List MemPlace), parts P k t = true → DataW.trod enc P w 0 spare held fuel t cs = some x → (∀ q ∈ DataW.weights P t x.1, q ≤ 140737488351232) → ∃ xs : List Cell, xs.map Cell.val = cs ∧ holdC w xs ∧ Ty P t xs
  | 0, fuel, t, cs, x, hp, _, _ => by simp [parts] at hp
  | k + 1, fuel, t, cs, x, hp, h, hw => by
    unfold parts at hp
    split at hp
    · rename_i q ht
      obtain ⟨z, rfl, _, hz⟩ := DataW.trod_int ht h
      exact ⟨[.v (.int q z)], rfl, ⟨trivial, trivial⟩, .int ht hz⟩
    · rename_i ht
      obtain ⟨b, rfl, _⟩ := DataW.trod_bool ht h
      exact ⟨[.v (.bool b)], rfl, ⟨trivial, trivial⟩, .bool ht⟩
    · rename_i ht
      obtain ⟨s, rfl, hx, _⟩ := DataW.trod_string ht h
      have h1 := hw s.data.toList.length (by rw [hx]; simp [DataW.weights])
      exact ⟨[.v (.string s)], rfl, ⟨trivial, trivial⟩, .str (s := bytesOf s) ht h1⟩
    · rename_i e ht
      simp only [Bool.and_eq_true, decide_eq_true_eq] at hp
      rcases DataW.trod_slice ht h with ⟨rfl, rfl⟩ | ⟨a, len, cap, elems, rest, m, _, rfl, hx, hb, hl, hm, hlen, hel, _, _⟩
      · exact ⟨[.s (P.cellsOf e) none 0 0 []], rfl, ⟨⟨Rd.nil _ _ _, Nat.le_refl _, trivial⟩, trivial⟩, .slice ht (Nat.le_refl _) (by simp) (by simp) (fun i hi => absurd hi (by omega))⟩
      · have hwe : ∀ d ∈ elems.map (·.1), ∀ q ∈ DataW.weights P e d, q ≤ 140737488351232 := fun d hd q hq => hw q (by
          rw [hx]
          simp only [DataW.weights, ht, List.mem_cons, List.mem_append]
          exact .inr (.inl (weightsAll_mem hd hq)))
        obtain ⟨xs, h1, h2, h3⟩ := pieces (w := w) (sz := P.cellsOf e) (Q := Ty P e) (R := fun i vs => ∀ j u, vs[j]? = some u → w.cell? (a.add (i * P.cellsOf e + j)) = some u) len (fun i hi => by
          have h1 := hel i hi
          rw [List.getElem?_eq_getElem (by omega)] at h1
          obtain ⟨c, hc1, hc2⟩ := Option.bind_eq_some_iff.1 h1
          obtain ⟨hcl, hcc⟩ := cells_at' hc1
          obtain ⟨ys, h4, h5, h6⟩ := open_cells k _ e c _ hp.1 hc2 (fun q hq => hwe _ (List.mem_map.2 ⟨_, List.getElem_mem _, rfl⟩) q hq)
          refine ⟨ys, by rw [← hcl, ← h4, List.length_map], h6, fun j u hu => ?_, h5⟩
          rw [h4] at hu
          have := hcc j u hu
          rwa [add_add] at this)
        have hR : Rd w (P.cellsOf e) (some a) len (xs.map Cell.val) := ⟨by rw [List.length_map, h1], fun _ e => (by cases e), fun q u hu => by
          have hq : q < len * P.cellsOf e := by
            have := (List.getElem?_eq_some_iff.1 hu).1
            rwa [List.length_map, h1] at this
          have hd : q / P.cellsOf e < len := (Nat.div_lt_iff_lt_mul hp.2).2 hq
          have hmod := Nat.mod_lt q hp.2
          have hqe : q / P.cellsOf e * P.cellsOf e + q % P.cellsOf e = q := by
            have := Nat.div_add_mod q (P.cellsOf e)
            rw [Nat.mul_comm] at this
            exact this
          have := (h2 _ hd).2 (q % P.cellsOf e) u (by rw [List.map_take, List.map_drop, get_piece hmod, hqe]; exact hu)
          rw [hqe] at this
          simpa using this⟩
        have hn : len * P.bytesOf e ≤ 140737488351232 := by
          have := hw ((elems.length + rest.length) * P.bytesOf e) (by rw [hx]; simp [DataW.weights, ht])
          rw [hlen, Nat.add_mul] at this
          omega
        exact ⟨[.s (P.cellsOf e) (some a) len cap xs], rfl, ⟨⟨hR, hl, h3⟩, trivial⟩, .slice ht hl hn h1 (fun i hi => (h2 i hi).1)⟩
    · rename_i m e ht
      simp only [Bool.and_eq_true, beq_iff_eq] at hp
      obtain ⟨ys, n, _, hx, hlen, hyl, hel⟩ := DataW.trod_array ht h
      have hwe : ∀ d ∈ ys.map (·.1), ∀ q ∈ DataW.weights P e d, q ≤ 140737488351232 := fun d hd q hq => hw q (by
        rw [hx]
        simp only [DataW.weights, ht]
        exact weightsAll_mem hd hq)
      obtain ⟨xs, h1, h2, h3⟩ := pieces (w := w) (sz := P.cellsOf e) (Q := Ty P e) (R := fun i vs => vs = (cs.drop (i * P.cellsOf e)).take (P.cellsOf e)) m (fun i hi => by
        have h1 := hel i hi
        rw [List.getElem?_eq_getElem (by omega)] at h1
        obtain ⟨zs, h4, h5, h6⟩ := open_cells k _ e _ _ hp.1 h1 (fun q hq => hwe _ (List.mem_map.2 ⟨_, List.getElem_mem _, rfl⟩) q hq)
        refine ⟨zs, ?_, h6, h4, h5⟩
        have := congrArg List.length h4
        rw [List.length_map, List.length_take, List.length_drop, hlen, hp.2] at this
        have hle : i * P.cellsOf e + P.cellsOf e ≤ m * P.cellsOf e := by
          have := Nat.mul_le_mul_right (P.cellsOf e) (show i + 1 ≤ m by omega)
          rwa [Nat.add_mul, Nat.one_mul] at this
        omega)
      refine ⟨xs, ?_, h3, .arr ht (by rw [h1, hp.2]) (fun i hi => (h2 i hi).1)⟩
      apply List.ext_getElem?
      intro q
      by_cases hq : q < m * P.cellsOf e
      · have hpos : 0 < P.cellsOf e := by
          rcases Nat.eq_zero_or_pos (P.cellsOf e) with h0 | h0
          · rw [h0, Nat.mul_zero] at hq; omega
          · exact h0
        have hd : q / P.cellsOf e < m := (Nat.div_lt_iff_lt_mul hpos).2 hq
        have hmod := Nat.mod_lt q hpos
        have hqe : q / P.cellsOf e * P.cellsOf e + q % P.cellsOf e = q := by
          have := Nat.div_add_mod q (P.cellsOf e)
          rw [Nat.mul_comm] at this
          exact this
        have h4 := congrArg (fun l : List Value => l[q % P.cellsOf e]?) (h2 _ hd).2
        simp only [List.map_take, List.map_drop] at h4
        rwa [get_piece hmod, get_piece hmod, hqe] at h4
      · rw [List.getElem?_eq_none (by rw [List.length_map, h1]; omega), List.getElem?_eq_none (by rw [hlen, hp.2]; omega)]
    · rename_i fs ht
      simp only [Bool.and_eq_true, List.all_eq_true] at hp
      obtain ⟨ys, n, _, hx, hlen, hyl, hel⟩ := DataW.trod_struct ht h
      have hw2 : ∀ (i : Nat) (f : Field) (d : DataW H), fs[i]? = some f → (ys.map (·.1))[i]? = some d → ∀ q ∈ DataW.weights P f.type d, q ≤ 140737488351232 := fun i f d hf hd q hq => hw q (by
        rw [hx]
        simp only [DataW.weights, ht]
        exact DataW.weights_mem_each (j := i) (t := f.type) (d := d) (by simp [hf]) hd q hq)
      obtain ⟨_, xs, h1, h2, h3, h4⟩ := structPieces (P := P) (w := w) (cs := cs) fs.toList 0 (P.cellsOf t) hp.2 (fun f hf => by
        obtain ⟨i, hi⟩ := List.mem_iff_getElem?.1 hf
        have hi' : fs[i]? = some f := by simpa using hi
        have h1 := hel i f hi'
        have hlt : i < ys.length := by
          rw [hyl]
          exact (Array.getElem?_eq_some_iff.1 hi').1
        rw [List.getElem?_eq_getElem hlt] at h1
        obtain ⟨zs, h5, h6, h7⟩ := open_cells k _ f.type _ _ (hp.1 f hf) h1 (fun q hq => hw2 i f _ hi' (by rw [List.getElem?_map, List.getElem?_eq_getElem hlt]; rfl) q hq)
        have hz : zs.length = P.cellsOf f.type := by
          have hz := congrArg List.length h5
          rw [List.length_map, List.length_take, List.length_drop, hlen] at hz
          have hin : ∀ (l : List Field) (o e : Nat), contig P l o e = true → f ∈ l → f.offset + P.cellsOf f.type ≤ e ∧ o ≤ e := by
            intro l
            induction l with
            | nil => intro o e _ hm; cases hm
            | cons g r ih =>
              intro o e hc hm
              simp only [contig, Bool.and_eq_true, beq_iff_eq] at hc
              have hge : ∀ (l : List Field) (o e : Nat), contig P l o e = true → o ≤ e := by
                intro l
                induction l with
                | nil => intro o e hc; simp [contig] at hc; omega
                | cons g r ih => intro o e hc; simp only [contig, Bool.and_eq_true, beq_iff_eq] at hc; have := ih _ _ hc.2; omega
              rcases List.mem_cons.1 hm with rfl | hm
              · have := hge _ _ _ hc.2
                omega
              · have := ih _ _ hc.2 hm
                omega
          have := hin _ _ _ hp.2 hf
          omega
        exact ⟨zs, hz, h7, h5, h6⟩)
      refine ⟨xs, ?_, h3, .struct ht (by rw [h1]; omega) (fun i f hf => ?_)⟩
      · rw [h2, List.drop_zero, Nat.sub_zero, ← hlen, List.take_length]
      · have := (h4 f (by rw [Array.mem_toList_iff]; exact Array.mem_of_getElem? hf)).2
        rwa [Nat.sub_zero] at this
    · cases hp
end
/-! ### what a type says, read back -/
section
variable {P : Program} {t e : TypeId} {xs : List Cell}
theorem ty_bool (ht : P.underlying t = some .bool) (h : Ty P t xs) : ∃ b, xs = [.v (.bool b)] := by
  cases h with
  | int ht' => rw [ht] at ht'; cases ht'
  | bool ht' => exact ⟨_, rfl⟩
  | str ht' => rw [ht] at ht'; cases ht'
  | slice ht' => rw [ht] at ht'; cases ht'
  | arr ht' => rw [ht] at ht'; cases ht'
  | struct ht' => rw [ht] at ht'; cases ht'
theorem ty_slice (ht : P.underlying t = some (.slice e)) (h : Ty P t xs) : ∃ A n c ys, xs = [.s (P.cellsOf e) A n c ys] ∧ n ≤ c ∧ n * P.bytesOf e ≤ 140737488351232 ∧ ys.length = n * P.cellsOf e ∧ ∀ i, i < n → Ty P e ((ys.drop (i * P.cellsOf e)).take (P.cellsOf e)) := by
  cases h with
  | int ht' => rw [ht] at ht'; cases ht'
  | bool ht' => rw [ht] at ht'; cases ht'
  | str ht' => rw [ht] at ht'; cases ht'
  | slice ht' hc hn hl h => rw [ht] at ht'; cases ht'; exact ⟨_, _, _, _, rfl, hc, hn, hl, h⟩
  | arr ht' => rw [ht] at ht'; cases ht'
  | struct ht' => rw [ht] at ht'; cases ht'
end
theorem View.rowOf {sz n c : Nat} {A : Option Addr} {xs : List Cell} {vs : List Value} (h : xs.map Cell.val = vs) : View (RCell (.s sz A n c xs)) (RRd sz A n vs) := h ▸ View.row0
section
variable {H : Type} {enc : TypeId × Value → H} {P : Program} {W : World} {spare : Nat → Bool} {held : Bool} {tss : List TypeId} {dss : List (DataW H)}
/-- a parameter that came in -/
theorem open_param {t : TypeId} {v : Value} {d : DataW H} {ps : List MemPlace} {j : Nat} (k : Nat) (hp : parts P k t = true) (h : DataW.Trod enc P W 0 spare held t v d ps) (hsz : (DataW.weightsEach P tss dss).all (· ≤ reachBytes) = true) (hjt : tss[j]? = some t) (hjd : dss[j]? = some d) :
    ∃ xs : List Cell, xs.map Cell.val = v.cells.toList ∧ holdC W xs ∧ Ty P t xs := by
  obtain ⟨fuel, hf⟩ := h
  refine open_cells k fuel t _ _ hp hf (fun q hq => ?_)
  have := List.all_eq_true.1 hsz q (DataW.weights_mem_each hjt hjd q hq)
  have hr : reachBytes = 140737488351232 := rfl
  simp at this
  omega
theorem open_sl {t e : TypeId} {A : Option Addr} {n c : Nat} {d : DataW H} {ps : List MemPlace} {j : Nat} (k : Nat) (hp : parts P k t = true) (ht : P.underlying t = some (.slice e)) (h : DataW.Trod enc P W 0 spare held t (.slice A n c) d ps) (hsz : (DataW.weightsEach P tss dss).all (· ≤ reachBytes) = true) (hjt : tss[j]? = some t) (hjd : dss[j]? = some d) :
    ∃ ys : List Cell, (RCell (.s (P.cellsOf e) A n c ys)).holds W ∧ Ty P t [.s (P.cellsOf e) A n c ys] := by
  obtain ⟨xs, h1, h2, h3⟩ := open_param k hp h hsz hjt hjd
  obtain ⟨A', n', c', ys, rfl, _⟩ := ty_slice ht h3
  have e1 : [Cell.val (.s (P.cellsOf e) A' n' c' ys)] = [Value.slice A n c] := h1
  simp only [Cell.val, List.cons.injEq, Value.slice.injEq, and_true] at e1
  obtain ⟨rfl, rfl, rfl⟩ := e1
  exact ⟨ys, h2.1, h3⟩
end
end Go.Eng
end
section
/- Contracts: the document's disk (layer 12): names, files, sums. -/
set_option linter.unusedVariables false
set_option linter.unusedSimpArgs false
set_option maxRecDepth 20000
namespace Go.Proofs.Ytlbecpekemlllaa
open Go.Eng Go.Hx
/-- a file: its name and its bytes -/
abbrev FP := List UInt8 × List UInt8
def fc (l : List FP) : List Value := l.flatMap fun x => [SV x.1, SV x.2]
/-- where a file stands -/
def findN (l : List FP) (p : List UInt8) : Nat := l.findIdx (fun x => decide (x.1 = p))
def totF (l : List FP) : Nat := (l.map fun x => x.2.length).sum
/-- a disk of the document, as a value -/
def dv (room : Int) (s l w : Value) (pw : Int) : List Value := [.int .i64 room, s, l, w, .int .i64 pw]
end Go.Proofs.Ytlbecpekemlllaa
end
section
/- Contracts: the document's disk (layer 12): files with one more, changes. -/
set_option linter.unusedVariables false
set_option linter.unusedSimpArgs false
set_option maxRecDepth 20000
namespace Go.Proofs.Ytlbecpekemlllaa
open Go.Eng Go.Hx
def sless (a b : List UInt8) : Bool := Op.bytesLess (strOf a).toList (strOf b).toList
def wstep (f : FP) (st : List FP × Bool) (x : FP) : List FP × Bool :=
  let s1 := if st.2 = false ∧ sless x.1 f.1 = false then (st.1 ++ [f], true) else st
  (if x.1 ≠ f.1 then s1.1 ++ [x] else s1.1, s1.2)
def wst (f : FP) (l : List FP) (i : Nat) : List FP × Bool := (l.take i).foldl (wstep f) ([], false)
def withF (l : List FP) (f : FP) : List FP := if (wst f l l.length).2 then (wst f l l.length).1 else (wst f l l.length).1 ++ [f]
end Go.Proofs.Ytlbecpekemlllaa
end
section
/- Contracts: the document's disk (layer 12): a change made, Read. -/
set_option linter.unusedVariables false
set_option linter.unusedSimpArgs false
set_option maxRecDepth 20000
namespace Go.Proofs.Ytlbecpekemlllaa
open Go.Eng Go.Hx
def withoutF (l : List FP) (p : List UInt8) : List FP := l.filter fun x => decide (x.1 ≠ p)
/-- a change of the document, as a value -/
def cv (k : Int) (p t b : List UInt8) : List Value := [.int .i64 k, SV p, SV t, SV b]
def makeF (l : List FP) (k : Int) (p t b : List UInt8) : List FP :=
  if k = 0 then withF l (p, b) else match l[findN l p]? with
    | none => l
    | some x => if k = 2 then withoutF l p else withF (withoutF l p) (t, x.2)
abbrev RC := Int × List UInt8 × List UInt8 × List UInt8
def wcs (l : List RC) : List Value := l.flatMap fun x => cv x.1 x.2.1 x.2.2.1 x.2.2.2
def lessP (pw : Int) : Int := if 0 < pw then pw - 1 else pw
end Go.Proofs.Ytlbecpekemlllaa
end
section
/- Contracts: the document's disk (layer 12): Write, Read. -/
set_option linter.unusedVariables false
set_option linter.unusedSimpArgs false
set_option maxRecDepth 20000
namespace Go.Proofs.Ytlbecpekemlllaa
open Go.Eng Go.Hx
/-- a disk of the document -/
structure RD where
  room : Int
  seen : List FP
  lasts : List FP
  waits : List RC
  pw : Int
def RD.sz (d : RD) (p : List UInt8) : Nat := ((d.seen[findN d.seen p]?).map (·.2.length)).getD 0
def RD.writeE (d : RD) (p bb : List UInt8) : Int := if ¬ Named p then 1 else if d.pw = 0 then 6 else if d.room < (totF d.seen : Int) + (bb.length : Nat) - (d.sz p : Nat) then 5 else 0
def RD.did (d : RD) (k : Int) (p t bb : List UInt8) : RD := { d with seen := makeF d.seen k p t bb, waits := d.waits ++ [(k, p, t, bb)], pw := lessP d.pw }
def RD.write (d : RD) (p bb : List UInt8) : RD := if d.writeE p bb = 0 then d.did 0 p [] bb else d
def rv (d : RD) (A : Option Addr) (n c : Nat) (Al : Option Addr) (nl cl : Nat) (A3 : Option Addr) (n3 c3 : Nat) : List Value := dv d.room (.slice A n c) (.slice Al nl cl) (.slice A3 n3 c3) d.pw
def RD.readE (d : RD) (p : List UInt8) : Int := if d.pw = 0 then 6 else if d.seen[findN d.seen p]? = none then 4 else 0
def RD.readB (d : RD) (p : List UInt8) : List UInt8 := if d.pw = 0 then [] else ((d.seen[findN d.seen p]?).map (·.2)).getD []
end Go.Proofs.Ytlbecpekemlllaa
end
section
/- The law DiskPower, computed. -/
set_option linter.unusedVariables false
set_option linter.unusedSimpArgs false
set_option maxRecDepth 20000
namespace Go.Proofs.Ytlbecpekemlllaa
open Go.Eng Go.Hx
def DSt.powered (st : DSt) (n : Int) : DSt := { st with power := max n (-1) }
theorem tot_aput' : ∀ (l : Files) (p : List UInt8) (r : BRow), tot (aput l p r) + ((aget l p).map (·.n)).getD 0 = tot l + r.n
  | [], p, r => by simp [aput, aget, tot]
  | (k, u) :: q, p, r => by
    have := tot_aput' q p r
    simp only [aput, aget]
    split
    · simp [tot]; omega
    · simp only [tot, List.map_cons, List.sum_cons] at this ⊢
      omega
def nn : List UInt8 := [110, 111, 110, 101]
def szA (st : DSt) : Nat := ((aget st.seen [97]).map (·.n)).getD 0
/-- what the loop keeps -/
structure PInv (st : DSt) (i k : Nat) : Prop where
  room : st.room = 100
  power : st.power = ((k - i : Nat) : Int)
  waits : st.waits.length = min i k
  wr : Wr st
  lasts : st.lasts = []
  nno : aget st.seen nn = none
  ttt : tot st.seen = szA st ∧ szA st ≤ 1
theorem PInv.init {k gs gl : Nat} : PInv ((dinit 100 gs gl).powered k) 0 k := ⟨rfl, by simp [DSt.powered]; omega, by simp [DSt.powered, dinit], fun c hc => (by cases hc), rfl, rfl, rfl, Nat.zero_le _⟩
theorem PInv.more {st : DSt} {i k : Nat} (h : PInv st i k) (hi : i < k) {r : BRow} (hr : r.n = 1) {A : Option Addr} {c : Nat} : PInv (st.wrote [97] r A c) (i + 1) k := by
  have h4 := tot_aput' st.seen [97] r
  have ht := h.ttt
  have hs : szA (st.wrote [97] r A c) = 1 := by
    show ((aget (aput st.seen [97] r) [97]).map (·.n)).getD 0 = 1
    rw [aget_aput, if_pos rfl]; exact hr
  refine ⟨h.room, ?_, ?_, ?_, h.lasts, ?_, ?_, by omega⟩
  · have := h.power
    show (if 0 < st.power then st.power - 1 else st.power) = _
    rw [if_pos (by omega)]; omega
  · have := h.waits
    show (st.waits ++ [Chg.written [97] r]).length = _
    rw [List.length_append]; simp; omega
  · intro c hc
    rcases List.mem_append.1 (show c ∈ st.waits ++ [Chg.written [97] r] from hc) with h' | h'
    · exact h.wr c h'
    · exact ⟨_, _, List.mem_singleton.1 h'⟩
  · show aget (aput st.seen [97] r) nn = _
    rw [aget_aput, if_neg (by decide)]; exact h.nno
  · rw [hs]
    show tot (aput st.seen [97] r) = 1
    have : ((aget st.seen [97]).map (·.n)).getD 0 = szA st := rfl
    omega
theorem PInv.write {st : DSt} {i k : Nat} (h : PInv st i k) : writeE st [97] 1 = if i < k then 0 else 6 := by
  have h1 := h.ttt
  have h2 := h.power
  have h3 := h.room
  have h4 : ((aget st.seen [97]).map (·.n)).getD 0 = szA st := rfl
  rw [writeE, if_neg (not_not_intro (named1 (by decide))), h4]
  by_cases hi : i < k
  · rw [if_neg (by omega), if_neg (by omega), if_pos hi]
  · rw [if_pos (by omega), if_neg hi]
theorem PInv.found {st : DSt} {i k : Nat} (h : PInv st i k) : foundE st nn = if i < k then 4 else 6 := by
  have h2 := h.power
  rw [foundE]
  by_cases hi : i < k
  · rw [if_neg (by omega), if_pos h.nno, if_pos hi]
  · rw [if_pos (by omega), if_neg hi]
theorem DOk.powered {st : DSt} {n k : Nat} (h : DOk st n) (hk : k ≤ 1000000) : DOk (st.powered k) n := ⟨by show max (k : Int) (-1) ≤ _; omega, h.room, h.seen, h.rest, h.small⟩
end Go.Proofs.Ytlbecpekemlllaa
end
section
/- Contracts: a disk's changes of every kind: Rename, Remove, Restart. -/
set_option linter.unusedVariables false
set_option linter.unusedSimpArgs false
set_option maxRecDepth 20000
namespace Go.Proofs.Ytlbecpekemlllaa
open Go.Eng Go.Hx
/-- files behind a change -/
def apl (l : Files) : Chg → Files
  | .written p r => aput l p r
  | .renamed a c => match aget l a with
    | none => l
    | some r => aput (adel l a) c r
  | .removed p => adel l p
theorem nmakeC {g : Nat} {l : Files} {a c : List UInt8} : Con Try.prog 91 [.agg [SV a, SV c].toArray, .map (some g)] [RMap SV g (vals l)] [] (fun v_ X_ S_ => v_ = (.tuple #[]) ∧ X_ = [RMap SV g (vals (apl l (.renamed a c)))] ∧ S_ = []) := by
  refine henter (N := 21) Try.func91 rfl rfl (by simp) fun b => ?_
  refine hseq <| hreg <| ?_
  refine hx (xh_box rfl (fun g2 => ?_))
  refine hmemL (fun w m => m.eqX 0 rfl (show _ = RBlk g2 89 [SV a, SV c] from congrArg (RBlk _ _) (cells_agg _))) ?_
  rcases aget_split (l := l) a with ⟨h1, h2⟩ | ⟨r, h1, h2⟩
  · refine hend <| hmemQ (X' := [_, _]) (S' := []) (fun _ m => m) <| hthen <| hseq <| hreg <| hy (fun _ => y_move rfl) <| hy (fun _ => y_fld rfl fa89_0 (by decide)) <| hy (fun m => y_ld1 rfl ag9 (ld_blk (m.blk 0 rfl) (i := 0) rfl)) <| hy (fun m => yV (y_lookM (enc := SV) rfl rfl Try.underlying58 ti47 (strKey Try.underlying9) (m.mapX 1 rfl)) ((show lookVal true (.slice none 0 0) (aget (vals l) a) = .tuple #[.slice none 0 0, .bool false] by rw [h2]; rfl))) <| hy (fun _ => y_move rfl) <| hy (fun _ => y_extract rfl rfl) <| hy (fun _ => y_extract rfl rfl) <| hy (fun _ => y_assign rfl) <| hy (fun _ => y_assign rfl) <| hend <| hsub (ρ' := [(5, _), (4, _), (2, _), (0, _), (1, _)]) ⟨rfl, rfl, rfl, rfl, rfl, trivial⟩ <| hthen <| hseq <| hreg <| hy (fun _ => y_move rfl) <| hend <| hthen <| ?_
    refine hiff rfl (rfl) ?_
    refine hcskip <| ?_
    have e : apl l (.renamed a c) = l := by rw [apl, h1]
    rw [e]
    exact hret0 trivial rfl [1] rfl [] rfl ⟨rfl, rfl, rfl⟩
  · refine hend <| hthen <| hseq <| hreg <| hy (fun _ => y_move rfl) <| hy (fun _ => y_fld rfl fa89_0 (by decide)) <| hy (fun m => y_ld1 rfl ag9 (ld_blk (m.blk 0 rfl) rfl)) <| hy (fun m => yV (y_lookM (enc := SV) rfl rfl Try.underlying58 ti47 (strKey Try.underlying9) (m.mapX 1 rfl)) ((show lookVal true (.slice none 0 0) (aget (vals l) a) = .tuple #[r.val, .bool true] by rw [h2]; rfl))) <| hy (fun _ => y_move rfl) <| hy (fun _ => y_extract rfl rfl) <| hy (fun _ => y_extract rfl rfl) <| hy (fun _ => y_assign rfl) <| hy (fun _ => y_assign rfl) <| hend <| hsub (ρ' := [(5, _), (4, _), (2, _), (0, _), (1, _)]) ⟨rfl, rfl, rfl, rfl, rfl, trivial⟩ <| hthen <| hseq <| hreg <| hy (fun _ => y_move rfl) <| hend <| hthen <| ?_
    refine hift rfl (rfl) ?_
    refine hseq <| hreg <| hy (fun _ => y_move rfl) <| hy (fun _ => y_fld rfl fa89_0 (by decide)) <| hy (fun m => y_ld1 rfl ag9 (ld_blk (m.blk 0 rfl) (i := 0) rfl)) <| ?_
    refine hx0 (xh_mapdel (enc := SV) 1 rfl rfl rfl Try.underlying58 (strKey Try.underlying9) ?_)
    refine hend <| hsub (ρ' := [(13, _), (5, _), (4, _), (2, _), (0, _), (1, _)]) ⟨rfl, rfl, rfl, rfl, rfl, rfl, trivial⟩ <| hmemQ (X' := [_, _]) (S' := []) (fun _ m => m) <| hthen <| hreg <| hy (fun _ => y_move rfl) <| hy (fun _ => y_fld rfl fa89_1 (by decide)) <| hy (fun m => y_ld1 rfl ag9 (ld_blk (m.blk 1 rfl) (i := 1) rfl)) <| hy (fun _ => y_move rfl) <| ?_
    refine hx0 (xh_mapup (enc := SV) 0 rfl rfl rfl rfl Try.underlying58 (strKey Try.underlying9) ?_)
    refine hend <| hsub (ρ' := [(13, _), (5, _), (4, _), (2, _), (0, _), (1, _)]) ⟨rfl, rfl, rfl, rfl, rfl, rfl, trivial⟩ <| hmemQ (X' := [_, _]) (S' := []) (fun _ m => m) <| ?_
    have e : aput (adel (vals l) a) c r.val = vals (apl l (.renamed a c)) := by rw [apl, h1, vals_del, vals_put]
    refine hmemQ (fun w m => m.eqX 0 rfl (show _ = RMap SV g (vals (apl l (.renamed a c))) from congrArg (RMap SV g) e)) ?_
    exact hret0 trivial rfl [0] rfl [] rfl ⟨rfl, rfl, rfl⟩
theorem vmakeC {g : Nat} {l : Files} {p : List UInt8} : Con Try.prog 92 [.agg [SV p].toArray, .map (some g)] [RMap SV g (vals l)] [] (fun v_ X_ S_ => v_ = (.tuple #[]) ∧ X_ = [RMap SV g (vals (apl l (.removed p)))] ∧ S_ = []) := by
  refine henter (N := 7) Try.func92 rfl rfl (by simp) fun b => ?_
  refine hseq <| hreg <| ?_
  refine hx (xh_box rfl (fun g2 => ?_))
  refine hmemL (fun w m => m.eqX 0 rfl (show _ = RBlk g2 92 [SV p] from congrArg (RBlk _ _) (cells_agg _))) ?_
  refine hend <| hmemQ (X' := [_, _]) (S' := []) (fun _ m => m) <| hthen <| hreg <| hy (fun _ => y_move rfl) <| hy (fun _ => y_fld rfl fa92_0 (by decide)) <| hy (fun m => y_ld1 rfl ag9 (ld_blk (m.blk 0 rfl) (i := 0) rfl)) <| ?_
  refine hx0 (xh_mapdel (enc := SV) 1 rfl rfl rfl Try.underlying58 (strKey Try.underlying9) ?_)
  refine hend <| hsub (ρ' := [(2, _), (0, _), (1, _)]) ⟨rfl, rfl, rfl, trivial⟩ <| hmemQ (X' := [_, _]) (S' := []) (fun _ m => m) <| ?_
  rw [vals_del]
  exact hret0 trivial rfl [0] rfl [] rfl ⟨rfl, rfl, rfl⟩
/-- behind a change -/
def DSt.did (st : DSt) (c : Chg) (A : Option Addr) (k : Nat) : DSt := { st.spent with seen := apl st.seen c, waits := st.waits ++ [c], wA := A, wc := k }
theorem adel_vals {l : Files} {p : List UInt8} {x : BRow} (h : x ∈ (adel l p).map (·.2)) : x ∈ l.map (·.2) := by
  induction l with
  | nil => exact h
  | cons a q ih =>
    obtain ⟨k, u⟩ := a
    simp only [adel] at h
    split at h
    · exact List.mem_cons_of_mem _ h
    · simp only [List.map_cons, List.mem_cons] at h ⊢
      rcases h with rfl | h
      · exact .inl rfl
      · exact .inr (ih h)
theorem apl_rows {l : Files} {c : Chg} (hc : c.row = none) {x : BRow} (h : x ∈ (apl l c).map (·.2)) : x ∈ l.map (·.2) := by
  cases c with
  | written p r => cases hc
  | renamed a b =>
    simp only [apl] at h
    split at h
    · exact h
    · rename_i r hr
      rcases aput_vals h with h | h
      · exact adel_vals h
      · exact h ▸ List.mem_map.2 ⟨_, aget_mem hr, rfl⟩
  | removed p => exact adel_vals h
theorem apl_len (l : Files) (c : Chg) : (apl l c).length ≤ l.length + 1 := by
  cases c with
  | written p r => exact aput_len l p r
  | renamed a b =>
    simp only [apl]
    split
    · omega
    · rename_i r hr
      have h1 := aput_len (adel l a) b r
      have h2 := adel_len l a
      omega
  | removed p => have h2 := adel_len l p; show (adel l p).length ≤ _; omega
theorem rows_did {st : DSt} {c : Chg} {A : Option Addr} {k : Nat} (hc : c.row = none) : ∀ x ∈ rowsOf (st.did c A k), x ∈ rowsOf st := by
  intro x hx
  unfold rowsOf DSt.did at hx
  simp only [DSt.spent, List.mem_append, List.filterMap_append] at hx
  unfold rowsOf
  simp only [List.mem_append]
  rcases hx with (h | h) | h | h
  · exact .inl (.inl (apl_rows hc h))
  · exact .inl (.inr h)
  · exact .inr h
  · simp [hc] at h
theorem DOk.did {st : DSt} {k : Nat} (h : DOk st k) {c : Chg} (hc : c.row = none) (A : Option Addr) (j : Nat) : DOk (st.did c A j) (k + 1) := by
  refine ⟨spent_power h.power, h.room, ?_, ?_, fun x hx => h.small x (rows_did hc x hx)⟩
  · have := apl_len st.seen c
    have := h.seen
    show (apl st.seen c).length ≤ k + 1
    omega
  · have := h.rest
    show st.lasts.length + (st.waits ++ [c]).length ≤ k + 1
    simp only [List.length_append, List.length_cons, List.length_nil]
    omega
theorem doNC {g : Nat} {st : DSt} {a c : List UInt8} (hp : st.power ≤ 1000000000000) (hw : st.waits.length ≤ 1000000) : Con Try.prog 45 [.pointer (some ⟨g, 0, none⟩), (Chg.renamed a c).val] [RDisk g st] [] (fun v_ X_ S_ => ∃ A k, v_ = (.tuple #[]) ∧ X_ = [RDisk g (st.did (.renamed a c) A k)] ∧ S_ = []) := by
  have hsw : st.spent.waits.length = st.waits.length := rfl
  refine henter (N := 25) Try.func45 rfl rfl (by simp) fun b => ?_
  refine hseq <| hreg <| hy (fun _ => y_move rfl) <| ?_
  refine hx (xh_call rfl Try.call46 (spendC (by omega)) [0] rfl [] rfl ?_)
  rintro _ _ _ ⟨rfl, rfl, rfl⟩
  refine hmemL (fun w m => (m.perm (takeR_perm [0] _ [_] _ rfl)).unpack) ?_
  refine hend <| hsub (ρ' := [(0, _), (1, _)]) ⟨rfl, rfl, trivial⟩ <| hmemQ (X' := [_, _, _, _, _]) (S' := []) (fun _ m => m) <| hthen <| hseq <| hdrw [8] [(0, some 0), (1, some 0), (2, some 0), (3, some 0), (4, some 0), (5, some 0), (6, some 0), (7, some 0), (8, none)] (by kernel_rfl) (by kernel_rfl) rfl 0 <| htyU (y_move rfl) <| htyU (y_move rfl) <| htyU (y_nilp rfl) <| htyU (y_fld rfl fa61_1 (by decide)) <| hty (fun m => y_ld1 rfl ag58 (ld_blk (m.blk 0 rfl) rfl)) <| htyU (y_mkf rfl rfl) <| htyU (y_nilm rfl (by kernel_rfl)) <| htyU (y_move rfl) <| ?_
  refine htx (xh_inv rfl rfl (fun w => by kernel_rfl) Try.call91 (nmakeC) [1] rfl [] rfl ?_)
  rintro _ _ _ ⟨rfl, rfl, rfl⟩
  refine ⟨(fun h => absurd h (by decide)), ?_⟩
  refine htend <| hsub (ρ' := [(0, _), (1, _)]) ⟨rfl, rfl, trivial⟩ <| hmemQ (X' := [_, _, _, _, _]) (S' := []) (fun _ m => m) <| hthen <| hreg <| hy (fun _ => y_move rfl) <| hy (fun _ => y_move rfl) <| hy (fun _ => y_nilp rfl) <| hy (fun _ => y_fld rfl fa61_3 (by decide)) <| hy (fun m => y_ld1 rfl ag59 (ld_blk (m.blk 1 rfl) rfl)) <| hy (fun _ => y_move rfl) <| ?_
  refine hx (xh_bsl Try.underlying59 ti63 rfl rfl rfl (by simp [Value.cells, Chg.val]) (by decide) (by decide) (fun g21 => ?_))
  have hA_b21 : 0 < 1 → (some (⟨g21, 0, none⟩ : Addr)) ≠ none := fun _ h => by cases h
  refine hmemL (fun w m => m.eqX 0 rfl (show _ = ROwn 63 1 (.slice (some ⟨g21, 0, none⟩) 1 1) 1 [((Chg.renamed a c)).val] from rfl)) ?_
  refine hx (xh_app 4 rfl rfl rfl Try.underlying59 Try.underlying59 (by exact .inl rfl) ti63 rfl (fun m => Src.of_rd (m.ord 0 rfl)) (by simp [Chg.val, Value.oneCell']) (by unfold maxLen; omega) (by omega) (fun u => ?_))
  refine hfactL (fun m => (m.own 0 rfl).slice) ?_
  rintro ⟨A_d3, c_d3, rfl, hc_d3⟩
  refine hfactL (fun m => (m.ord 0 rfl).2.1) fun hA_d3 => ?_
  refine hy (fun _ => y_nilp rfl) <| hy (fun _ => y_fld rfl fa61_3 (by decide)) <| ?_
  refine hx0 (xh_st1a 3 rfl rfl rfl sz59 rfl (by first | exact Nat.le_of_ble_eq_true rfl | simp) ?_)
  refine hend <| hsub (ρ' := [(0, _), (1, _)]) ⟨rfl, rfl, trivial⟩ <| hmemQ (X' := [_, _, _, _, _, _]) (S' := []) (fun _ m => m) <| ?_
  refine hmemQ (fun w m => m.eqX 0 rfl (show _ = RBlk g 61 (dcells (st.did ((Chg.renamed a c)) A_d3 c_d3)) from by simp [dcells, DSt.did, DSt.spent])) ?_
  refine hmemQ (fun w m => m.eqX 3 rfl (show _ = RMap SV st.gs (vals (st.did ((Chg.renamed a c)) A_d3 c_d3).seen) from rfl)) ?_
  refine hmemQ (fun w m => m.eqX 2 rfl (show _ = ROwn 63 1 (.slice A_d3 (st.did ((Chg.renamed a c)) A_d3 c_d3).waits.length c_d3) (st.did ((Chg.renamed a c)) A_d3 c_d3).waits.length ((st.did ((Chg.renamed a c)) A_d3 c_d3).waits.map Chg.val) from by simp [DSt.did, DSt.spent])) ?_
  refine hmemQ (X' := RRows (rowsOf (st.did ((Chg.renamed a c)) A_d3 c_d3)) :: _) (fun w m => (m.perm (takeR_perm [5] _ [_] _ rfl)).rowSub ((rows_did rfl))) ?_
  refine hmemQ (X' := RDisk g (st.did ((Chg.renamed a c)) A_d3 c_d3) :: _) (fun w m => (m.perm (takeR_perm [3, 2, 3, 1, 0] _ [_, _, _, _, _] _ rfl)).pack) ?_
  exact hret0 trivial rfl [0] rfl [] rfl ⟨_, _, rfl, rfl, rfl⟩
theorem doVC {g : Nat} {st : DSt} {p : List UInt8} (hp : st.power ≤ 1000000000000) (hw : st.waits.length ≤ 1000000) : Con Try.prog 45 [.pointer (some ⟨g, 0, none⟩), (Chg.removed p).val] [RDisk g st] [] (fun v_ X_ S_ => ∃ A k, v_ = (.tuple #[]) ∧ X_ = [RDisk g (st.did (.removed p) A k)] ∧ S_ = []) := by
  have hsw : st.spent.waits.length = st.waits.length := rfl
  refine henter (N := 25) Try.func45 rfl rfl (by simp) fun b => ?_
  refine hseq <| hreg <| hy (fun _ => y_move rfl) <| ?_
  refine hx (xh_call rfl Try.call46 (spendC (by omega)) [0] rfl [] rfl ?_)
  rintro _ _ _ ⟨rfl, rfl, rfl⟩
  refine hmemL (fun w m => (m.perm (takeR_perm [0] _ [_] _ rfl)).unpack) ?_
  refine hend <| hsub (ρ' := [(0, _), (1, _)]) ⟨rfl, rfl, trivial⟩ <| hmemQ (X' := [_, _, _, _, _]) (S' := []) (fun _ m => m) <| hthen <| hseq <| hdrw [8] [(0, some 0), (1, some 0), (2, some 0), (3, some 0), (4, some 0), (5, some 0), (6, some 0), (7, some 0), (8, none)] (by kernel_rfl) (by kernel_rfl) rfl 0 <| htyU (y_move rfl) <| htyU (y_move rfl) <| htyU (y_nilp rfl) <| htyU (y_fld rfl fa61_1 (by decide)) <| hty (fun m => y_ld1 rfl ag58 (ld_blk (m.blk 0 rfl) rfl)) <| htyU (y_mkf rfl rfl) <| htyU (y_nilm rfl (by kernel_rfl)) <| htyU (y_move rfl) <| ?_
  refine htx (xh_inv rfl rfl (fun w => by kernel_rfl) Try.call92 (vmakeC) [1] rfl [] rfl ?_)
  rintro _ _ _ ⟨rfl, rfl, rfl⟩
  refine ⟨(fun h => absurd h (by decide)), ?_⟩
  refine htend <| hsub (ρ' := [(0, _), (1, _)]) ⟨rfl, rfl, trivial⟩ <| hmemQ (X' := [_, _, _, _, _]) (S' := []) (fun _ m => m) <| hthen <| hreg <| hy (fun _ => y_move rfl) <| hy (fun _ => y_move rfl) <| hy (fun _ => y_nilp rfl) <| hy (fun _ => y_fld rfl fa61_3 (by decide)) <| hy (fun m => y_ld1 rfl ag59 (ld_blk (m.blk 1 rfl) rfl)) <| hy (fun _ => y_move rfl) <| ?_
  refine hx (xh_bsl Try.underlying59 ti63 rfl rfl rfl (by simp [Value.cells, Chg.val]) (by decide) (by decide) (fun g21 => ?_))
  have hA_b21 : 0 < 1 → (some (⟨g21, 0, none⟩ : Addr)) ≠ none := fun _ h => by cases h
  refine hmemL (fun w m => m.eqX 0 rfl (show _ = ROwn 63 1 (.slice (some ⟨g21, 0, none⟩) 1 1) 1 [((Chg.removed p)).val] from rfl)) ?_
  refine hx (xh_app 4 rfl rfl rfl Try.underlying59 Try.underlying59 (by exact .inl rfl) ti63 rfl (fun m => Src.of_rd (m.ord 0 rfl)) (by simp [Chg.val, Value.oneCell']) (by unfold maxLen; omega) (by omega) (fun u => ?_))
  refine hfactL (fun m => (m.own 0 rfl).slice) ?_
  rintro ⟨A_d3, c_d3, rfl, hc_d3⟩
  refine hfactL (fun m => (m.ord 0 rfl).2.1) fun hA_d3 => ?_
  refine hy (fun _ => y_nilp rfl) <| hy (fun _ => y_fld rfl fa61_3 (by decide)) <| ?_
  refine hx0 (xh_st1a 3 rfl rfl rfl sz59 rfl (by first | exact Nat.le_of_ble_eq_true rfl | simp) ?_)
  refine hend <| hsub (ρ' := [(0, _), (1, _)]) ⟨rfl, rfl, trivial⟩ <| hmemQ (X' := [_, _, _, _, _, _]) (S' := []) (fun _ m => m) <| ?_
  refine hmemQ (fun w m => m.eqX 0 rfl (show _ = RBlk g 61 (dcells (st.did ((Chg.removed p)) A_d3 c_d3)) from by simp [dcells, DSt.did, DSt.spent])) ?_
  refine hmemQ (fun w m => m.eqX 3 rfl (show _ = RMap SV st.gs (vals (st.did ((Chg.removed p)) A_d3 c_d3).seen) from rfl)) ?_
  refine hmemQ (fun w m => m.eqX 2 rfl (show _ = ROwn 63 1 (.slice A_d3 (st.did ((Chg.removed p)) A_d3 c_d3).waits.length c_d3) (st.did ((Chg.removed p)) A_d3 c_d3).waits.length ((st.did ((Chg.removed p)) A_d3 c_d3).waits.map Chg.val) from by simp [DSt.did, DSt.spent])) ?_
  refine hmemQ (X' := RRows (rowsOf (st.did ((Chg.removed p)) A_d3 c_d3)) :: _) (fun w m => (m.perm (takeR_perm [5] _ [_] _ rfl)).rowSub ((rows_did rfl))) ?_
  refine hmemQ (X' := RDisk g (st.did ((Chg.removed p)) A_d3 c_d3) :: _) (fun w m => (m.perm (takeR_perm [3, 2, 3, 1, 0] _ [_, _, _, _, _] _ rfl)).pack) ?_
  exact hret0 trivial rfl [0] rfl [] rfl ⟨_, _, rfl, rfl, rfl⟩
/-- what is told of a Rename -/
def renameE (st : DSt) (a c : List UInt8) : Int := if ¬ Named c then 1 else foundE st a
theorem renameC {g : Nat} {st : DSt} {a c : List UInt8} {k : Nat} (ok : DOk st k) (hk : k ≤ 100000) : Con Try.prog 25 [.pointer (some ⟨g, 0, none⟩), .string (strOf a), .string (strOf c)] [RDisk g st] [] (fun v_ X_ S_ => ∃ st1 A j, v_ = (.int .i64 (renameE st a c)) ∧ X_ = [RDisk g st1] ∧ S_ = [] ∧ ((renameE st a c ≠ 0 ∧ st1 = st) ∨ (renameE st a c = 0 ∧ st1 = st.did (.renamed a c) A j))) := by
  have hp := ok.power
  have hw : st.waits.length ≤ 1000000 := by have := ok.rest; omega
  refine henter (N := 23) Try.func25 rfl rfl (by simp) fun b => ?_
  refine hseq <| hreg <| hy (fun _ => y_assign rfl) <| hend <| hthen <| hseq <| hseq <| hreg <| hy (fun _ => y_move rfl) <| ?_
  refine hx (xh_call rfl Try.call42 (namedC) [] rfl [] rfl ?_)
  rintro _ _ _ ⟨rfl, rfl, rfl⟩
  refine hy (fun _ => y_notp rfl) <| hend <| hsub (ρ' := [(10, _), (6, _), (0, _), (1, _), (2, _)]) ⟨rfl, rfl, rfl, rfl, rfl, trivial⟩ <| hmemQ (X' := [_]) (S' := []) (fun _ m => m) <| hthen <| ?_
  refine hif rfl (fun h1 => ?_) (fun h1 => ?_)
  · have e : renameE st a c = 1 := by rw [renameE, if_pos h1]
    rw [e]
    refine hseq <| hreg <| hy (fun _ => y_assign rfl) <| hend <| hthen <| hret <| hthen_ret <| ?_
    exact hret1 trivial rfl rfl [0] rfl [] rfl ⟨_, none, 0, rfl, rfl, rfl, .inl ⟨by decide, rfl⟩⟩
  · have e : renameE st a c = foundE st a := by rw [renameE, if_neg h1]
    rw [e]
    refine hcskip <| hthen <| hseq <| hseq <| hreg <| hy (fun _ => y_move rfl) <| hy (fun _ => y_move rfl) <| ?_
    refine hx (xh_call rfl Try.call35 (foundC) [0] rfl [] rfl ?_)
    rintro _ _ _ ⟨rfl, rfl, rfl⟩
    refine hy (fun _ => y_assign rfl) <| hend <| hsub (ρ' := [(7, _), (10, _), (6, _), (0, _), (1, _), (2, _)]) ⟨rfl, rfl, rfl, rfl, rfl, rfl, trivial⟩ <| hmemQ (X' := [_]) (S' := []) (fun _ m => m) <| hthen <| hseq <| hreg <| hy (fun _ => y_move rfl) <| hy (fun _ => y_neq rfl rfl) <| hend <| hsub (ρ' := [(15, _), (7, _), (10, _), (6, _), (0, _), (1, _), (2, _)]) ⟨rfl, rfl, rfl, rfl, rfl, rfl, rfl, trivial⟩ <| hthen <| ?_
    refine hif rfl (fun h2 => ?_) (fun h2 => ?_)
    · refine hseq <| hreg <| hy (fun _ => y_move rfl) <| hy (fun _ => y_assign rfl) <| hend <| hsub (ρ' := [(6, _), (15, _), (7, _), (10, _), (0, _), (1, _), (2, _)]) ⟨rfl, rfl, rfl, rfl, rfl, rfl, rfl, trivial⟩ <| hthen <| hret <| hthen_ret <| ?_
      exact hret1 trivial rfl rfl [0] rfl [] rfl ⟨_, none, 0, rfl, rfl, rfl, .inl ⟨h2, rfl⟩⟩
    · have h0 := Decidable.not_not.1 h2
      rw [h0]
      refine hcskip <| hthen <| hseq <| hreg <| hy (fun _ => y_move rfl) <| hy (fun _ => y_move rfl) <| hy (fun _ => y_move rfl) <| hy (fun _ => yV (y_build ti89 rfl rfl (by kernel_rfl) (.cons (o := 0) (sz := 1) (by kernel_rfl) rfl rfl (Nat.le_of_ble_eq_true rfl) (.cons (o := 1) (sz := 1) (by kernel_rfl) rfl rfl (Nat.le_of_ble_eq_true rfl) .nil))) ((rfl : _ = Value.agg [SV a, SV c].toArray))) <| hy (fun _ => yV (y_mki rfl Try.underlying89 (fun _ h => by cases h)) ((rfl : _ = (Chg.renamed a c).val))) <| ?_
      refine hx (xh_call rfl Try.call45 (doNC (by omega) (by omega)) [0] rfl [] rfl ?_)
      rintro _ _ _ ⟨A, k2, rfl, rfl, rfl⟩
      refine hend <| hsub (ρ' := [(15, _), (7, _), (10, _), (6, _), (0, _), (1, _), (2, _)]) ⟨rfl, rfl, rfl, rfl, rfl, rfl, rfl, trivial⟩ <| hmemQ (X' := [_]) (S' := []) (fun _ m => m) <| hthen <| hseq <| hreg <| hy (fun _ => y_assign rfl) <| hend <| hthen <| hret <| ?_
      exact hret1 trivial rfl rfl [0] rfl [] rfl ⟨_, _, _, rfl, rfl, rfl, .inr ⟨rfl, rfl⟩⟩
theorem removeC {g : Nat} {st : DSt} {p : List UInt8} {k : Nat} (ok : DOk st k) (hk : k ≤ 100000) : Con Try.prog 31 [.pointer (some ⟨g, 0, none⟩), .string (strOf p)] [RDisk g st] [] (fun v_ X_ S_ => ∃ st1 A j, v_ = (.int .i64 (foundE st p)) ∧ X_ = [RDisk g st1] ∧ S_ = [] ∧ ((foundE st p ≠ 0 ∧ st1 = st) ∨ (foundE st p = 0 ∧ st1 = st.did (.removed p) A j))) := by
  have hp := ok.power
  have hw : st.waits.length ≤ 1000000 := by have := ok.rest; omega
  refine henter (N := 17) Try.func31 rfl rfl (by simp) fun b => ?_
  refine hseq <| hreg <| hy (fun _ => y_assign rfl) <| hend <| hthen <| hseq <| hseq <| hreg <| hy (fun _ => y_move rfl) <| hy (fun _ => y_move rfl) <| ?_
  refine hx (xh_call rfl Try.call35 (foundC) [0] rfl [] rfl ?_)
  rintro _ _ _ ⟨rfl, rfl, rfl⟩
  refine hy (fun _ => y_assign rfl) <| hend <| hsub (ρ' := [(5, _), (4, _), (0, _), (1, _)]) ⟨rfl, rfl, rfl, rfl, trivial⟩ <| hmemQ (X' := [_]) (S' := []) (fun _ m => m) <| hthen <| hseq <| hreg <| hy (fun _ => y_move rfl) <| hy (fun _ => y_neq rfl rfl) <| hend <| hsub (ρ' := [(10, _), (5, _), (4, _), (0, _), (1, _)]) ⟨rfl, rfl, rfl, rfl, rfl, trivial⟩ <| hthen <| ?_
  refine hif rfl (fun h2 => ?_) (fun h2 => ?_)
  · refine hseq <| hreg <| hy (fun _ => y_move rfl) <| hy (fun _ => y_assign rfl) <| hend <| hsub (ρ' := [(4, _), (10, _), (5, _), (0, _), (1, _)]) ⟨rfl, rfl, rfl, rfl, rfl, trivial⟩ <| hthen <| hret <| hthen_ret <| ?_
    exact hret1 trivial rfl rfl [0] rfl [] rfl ⟨_, none, 0, rfl, rfl, rfl, .inl ⟨h2, rfl⟩⟩
  · have h0 := Decidable.not_not.1 h2
    rw [h0]
    refine hcskip <| hthen <| hseq <| hreg <| hy (fun _ => y_move rfl) <| hy (fun _ => y_move rfl) <| hy (fun _ => yV (y_build ti92 rfl rfl (by kernel_rfl) (.cons (o := 0) (sz := 1) (by kernel_rfl) rfl rfl (Nat.le_of_ble_eq_true rfl) .nil)) ((rfl : _ = Value.agg [SV p].toArray))) <| hy (fun _ => yV (y_mki rfl Try.underlying92 (fun _ h => by cases h)) ((rfl : _ = (Chg.removed p).val))) <| ?_
    refine hx (xh_call rfl Try.call45 (doVC (by omega) (by omega)) [0] rfl [] rfl ?_)
    rintro _ _ _ ⟨A, k2, rfl, rfl, rfl⟩
    refine hend <| hsub (ρ' := [(10, _), (5, _), (4, _), (0, _), (1, _)]) ⟨rfl, rfl, rfl, rfl, rfl, trivial⟩ <| hmemQ (X' := [_]) (S' := []) (fun _ m => m) <| hthen <| hseq <| hreg <| hy (fun _ => y_assign rfl) <| hend <| hthen <| hret <| ?_
    exact hret1 trivial rfl rfl [0] rfl [] rfl ⟨_, _, _, rfl, rfl, rfl, .inr ⟨rfl, rfl⟩⟩
end Go.Proofs.Ytlbecpekemlllaa
end
section
/- The document's files and a map's files, over plain lists. No program walked. -/
set_option linter.unusedVariables false
set_option linter.unusedSimpArgs false
namespace Go.Proofs.Ytlbecpekemlllaa
open Go.Eng Go.Hx
theorem bl_eq : ∀ (x y : List UInt8), Op.bytesLess x y = decide (x < y)
  | [], [] => by simp [Op.bytesLess]
  | _ :: _, [] => by simp [Op.bytesLess]
  | [], _ :: _ => by simp [Op.bytesLess]
  | a :: x, b :: y => by
    rw [Op.bytesLess, bl_eq x y]
    simp only [List.cons_lt_cons_iff]
    by_cases h1 : a < b <;> by_cases h2 : a = b <;> by_cases h3 : x < y <;> simp [h1, h2, h3]
theorem sless_iff {a b : List UInt8} : sless a b = decide (a < b) := by
  unfold sless
  rw [bl_eq, Lib.toList_data, Lib.toList_data]
  rfl
def insF : List FP → FP → List FP
  | [], f => [f]
  | x :: r, f => if x.1 < f.1 then x :: insF r f else f :: (x :: r).filter fun y => decide (y.1 ≠ f.1)
theorem fold_true (f : FP) : ∀ (l acc : List FP), l.foldl (wstep f) (acc, true) = (acc ++ l.filter (fun y => decide (y.1 ≠ f.1)), true)
  | [], acc => by simp
  | x :: r, acc => by
    rw [List.foldl_cons]
    by_cases h : x.1 = f.1
    · have : wstep f (acc, true) x = (acc, true) := by simp [wstep, h]
      rw [this, fold_true f r acc]; simp [h]
    · have : wstep f (acc, true) x = (acc ++ [x], true) := by simp [wstep, h]
      rw [this, fold_true f r (acc ++ [x])]; simp [h]
def wfin (f : FP) (st : List FP × Bool) : List FP := if st.2 then st.1 else st.1 ++ [f]
theorem fold_false (f : FP) : ∀ (l acc : List FP), wfin f (l.foldl (wstep f) (acc, false)) = acc ++ insF l f
  | [], acc => by simp [insF, wfin]
  | x :: r, acc => by
    rw [List.foldl_cons]
    by_cases h : x.1 < f.1
    · have hne : x.1 ≠ f.1 := fun e => by rw [e] at h; exact List.lt_irrefl _ h
      have : wstep f (acc, false) x = (acc ++ [x], false) := by simp [wstep, sless_iff, h, hne]
      rw [this, fold_false f r (acc ++ [x]), insF, if_pos h]; simp
    · have hs : sless x.1 f.1 = false := by rw [sless_iff]; simpa using h
      rw [insF, if_neg h]
      by_cases he : x.1 = f.1
      · have hs' : sless f.1 f.1 = false := he ▸ hs
        have : wstep f (acc, false) x = (acc ++ [f], true) := by simp [wstep, hs', he]
        rw [this, fold_true]; simp [he, wfin]
      · have : wstep f (acc, false) x = (acc ++ [f] ++ [x], true) := by simp [wstep, hs, he]
        rw [this, fold_true]; simp [he, wfin]
theorem withF_ins (l : List FP) (f : FP) : withF l f = insF l f := by
  have := fold_false f l []
  rw [List.nil_append] at this
  rw [← this]
  unfold withF wst wfin
  rw [List.take_of_length_le (Nat.le_refl _)]
/-- what stands under a name -/
def lk : List FP → List UInt8 → Option (List UInt8)
  | [], _ => none
  | x :: r, p => if x.1 = p then some x.2 else lk r p
theorem lk_find : ∀ (l : List FP) (p : List UInt8), (l[findN l p]?).map (·.2) = lk l p
  | [], p => rfl
  | x :: r, p => by
    have := lk_find r p
    unfold findN at this ⊢
    rw [List.findIdx_cons]
    by_cases h : x.1 = p
    · simp [h, lk]
    · simp [h, lk, this]
theorem lk_filter (q : List UInt8) : ∀ (l : List FP) (p : List UInt8), lk (l.filter fun y => decide (y.1 ≠ q)) p = if p = q then none else lk l p
  | [], p => by simp [lk]
  | x :: r, p => by
    have ih := lk_filter q r p
    by_cases h : x.1 = q
    · rw [List.filter_cons, if_neg (by simp [h]), ih]
      by_cases hp : p = q
      · simp [hp]
      · rw [if_neg hp, if_neg hp, lk, if_neg (fun e => hp (e.symm.trans h))]
    · rw [List.filter_cons, if_pos (by simp [h]), lk, ih]
      by_cases hp : p = q
      · rw [if_pos hp, if_pos hp, if_neg (fun e => h (e.trans hp))]
      · rw [if_neg hp, if_neg hp, lk]
theorem lk_ins : ∀ (l : List FP) (f : FP) (p : List UInt8), lk (insF l f) p = if p = f.1 then some f.2 else lk l p
  | [], f, p => by simp only [insF, lk, eq_comm]
  | x :: r, f, p => by
    unfold insF
    by_cases h : x.1 < f.1
    · rw [if_pos h, lk, lk_ins r f p, lk]
      have hne : x.1 ≠ f.1 := fun e => by rw [e] at h; exact List.lt_irrefl _ h
      by_cases hp : p = f.1
      · rw [if_pos hp, if_pos hp, if_neg (fun e => hne (e.trans hp))]
      · rw [if_neg hp, if_neg hp]
    · rw [if_neg h, lk, lk_filter]
      by_cases hp : p = f.1
      · rw [if_pos hp.symm, if_pos hp]
      · rw [if_neg (fun e => hp e.symm), if_neg hp, if_neg hp]
/-- in order, each name once -/
def Srtd (l : List FP) : Prop := (l.map (·.1)).Pairwise (· < ·)
theorem srtd_filter {l : List FP} (q : FP → Bool) (h : Srtd l) : Srtd (l.filter q) := List.Pairwise.sublist (List.Sublist.map _ List.filter_sublist) h
theorem mem_ins {l : List FP} {f y : FP} (h : y ∈ insF l f) : y = f ∨ y ∈ l := by
  induction l with
  | nil => exact .inl (by simpa [insF] using h)
  | cons x r ih =>
    unfold insF at h
    split at h
    · rcases List.mem_cons.1 h with h | h
      · exact .inr (by rw [h]; exact List.mem_cons_self ..)
      · rcases ih h with h | h
        · exact .inl h
        · exact .inr (List.mem_cons_of_mem _ h)
    · rcases List.mem_cons.1 h with h | h
      · exact .inl h
      · exact .inr ((List.mem_filter.1 h).1)
theorem srtd_ins {l : List FP} {f : FP} (h : Srtd l) : Srtd (insF l f) := by
  induction l with
  | nil => simp [Srtd, insF]
  | cons x r ih =>
    have hx : ∀ y ∈ r, x.1 < y.1 := by
      intro y hy
      exact (List.pairwise_cons.1 h).1 _ (List.mem_map.2 ⟨y, hy, rfl⟩)
    have hr : Srtd r := (List.pairwise_cons.1 h).2
    unfold insF
    by_cases hlt : x.1 < f.1
    · rw [if_pos hlt]
      refine List.pairwise_cons.2 ⟨?_, ih hr⟩
      intro a ha
      obtain ⟨y, hy, rfl⟩ := List.mem_map.1 ha
      rcases mem_ins hy with rfl | hy
      · exact hlt
      · exact hx y hy
    · rw [if_neg hlt]
      refine List.pairwise_cons.2 ⟨?_, srtd_filter _ h⟩
      intro a ha
      obtain ⟨y, hy, rfl⟩ := List.mem_map.1 ha
      have hy1 := (List.mem_filter.1 hy).1
      have hy2 : y.1 ≠ f.1 := by simpa using (List.mem_filter.1 hy).2
      have hge : ¬ y.1 < f.1 := by
        rcases List.mem_cons.1 hy1 with rfl | h1
        · exact hlt
        · exact fun e => hlt (List.lt_trans (hx y h1) e)
      exact Decidable.byContradiction fun hn => hy2 (List.le_antisymm (List.not_lt.1 hn) (List.not_lt.1 hge))
/-- a map's files are the document's -/
structure FSim (fs : Files) (l : List FP) : Prop where
  ord : Srtd l
  nd : (akeys fs).Nodup
  look : ∀ p, (aget fs p).map (·.l) = lk l p
  len : ∀ x ∈ fs, x.2.n = x.2.l.length
theorem FSim.nil : FSim [] [] := ⟨by simp [Srtd], by simp [akeys], fun p => rfl, fun x h => by cases h⟩
theorem lk_mem {l : List FP} {p : List UInt8} : lk l p ≠ none ↔ p ∈ l.map (·.1) := by
  induction l with
  | nil => simp [lk]
  | cons x r ih =>
    unfold lk
    by_cases h : x.1 = p
    · simp [h]
    · rw [if_neg h, ih]; simp [Ne.symm h]
theorem FSim.keys {fs : Files} {l : List FP} (h : FSim fs l) : (akeys fs).Perm (l.map (·.1)) := by
  have hn : (l.map (·.1)).Nodup := List.Pairwise.imp (fun hlt e => by rw [e] at hlt; exact List.lt_irrefl _ hlt) h.ord
  refine (List.perm_ext_iff_of_nodup h.nd hn).2 fun p => ?_
  rw [← lk_mem, ← h.look p]
  have := @aget_none (List UInt8) BRow _ fs p
  cases hq : aget fs p with
  | none => simp [this.1 hq]
  | some r => simp; exact Decidable.byContradiction fun hm => by rw [this.2 hm] at hq; cases hq
theorem FSim.put {fs : Files} {l : List FP} (h : FSim fs l) {p : List UInt8} {r : BRow} (hr : r.n = r.l.length) : FSim (aput fs p r) (withF l (p, r.l)) := by
  rw [withF_ins]
  refine ⟨srtd_ins h.ord, aput_nodup h.nd, fun q => ?_, fun x hx => ?_⟩
  · rw [aget_aput, lk_ins]
    by_cases hq : p = q
    · rw [if_pos hq, if_pos hq.symm]; rfl
    · rw [if_neg hq, if_neg (fun e => hq e.symm)]; exact h.look q
  · rcases aput_vals (List.mem_map.2 ⟨x, hx, rfl⟩) with h1 | h1
    · obtain ⟨y, hy, e⟩ := List.mem_map.1 h1
      rw [← e]; exact h.len y hy
    · rw [h1]; exact hr
theorem sum_perm {a b : List Nat} (h : a.Perm b) : a.sum = b.sum := by
  induction h with
  | nil => rfl
  | cons x _ ih => simp [ih]
  | swap x y l => simp; omega
  | trans _ _ h1 h2 => rw [h1, h2]
theorem lk_self {l : List FP} (h : Srtd l) {x : FP} (hx : x ∈ l) : lk l x.1 = some x.2 := by
  induction l with
  | nil => cases hx
  | cons y r ih =>
    unfold lk
    rcases List.mem_cons.1 hx with rfl | h1
    · rw [if_pos rfl]
    · have hlt : y.1 < x.1 := (List.pairwise_cons.1 h).1 _ (List.mem_map.2 ⟨x, h1, rfl⟩)
      rw [if_neg (fun e => by rw [e] at hlt; exact List.lt_irrefl _ hlt)]
      exact ih (List.pairwise_cons.1 h).2 h1
theorem FSim.tot {fs : Files} {l : List FP} (h : FSim fs l) : tot fs = totF l := by
  let g : List UInt8 → Nat := fun p => ((lk l p).getD []).length
  have h1 : fs.map (fun x => x.2.n) = (akeys fs).map g := by
    rw [akeys, List.map_map]
    refine List.map_congr_left fun x hx => ?_
    have := h.look x.1
    rw [aget_of_mem h.nd (show (x.1, x.2) ∈ fs from hx)] at this
    show x.2.n = ((lk l x.1).getD []).length
    rw [← this, h.len x hx]; rfl
  have h2 : l.map (fun x => x.2.length) = (l.map (·.1)).map g := by
    rw [List.map_map]
    refine List.map_congr_left fun x hx => ?_
    show x.2.length = ((lk l x.1).getD []).length
    rw [lk_self h.ord hx]; rfl
  show (fs.map fun x => x.2.n).sum = (l.map fun x => x.2.length).sum
  rw [h1, h2]
  exact sum_perm (h.keys.map g)
theorem FSim.len1 {fs : Files} {l : List FP} (h : FSim fs l) : fs.length = l.length := by
  have := h.keys.length_eq
  simpa [akeys] using this
theorem FSim.sz {fs : Files} {l : List FP} (h : FSim fs l) (p : List UInt8) : ((aget fs p).map (·.n)).getD 0 = ((l[findN l p]?).map (·.2.length)).getD 0 := by
  have h1 := h.look p
  rw [← lk_find] at h1
  cases hq : aget fs p with
  | none =>
    rw [hq] at h1
    cases hl : l[findN l p]? with
    | none => rfl
    | some x => rw [hl] at h1; cases h1
  | some r =>
    rw [hq] at h1
    cases hl : l[findN l p]? with
    | none => rw [hl] at h1; cases h1
    | some x =>
      rw [hl] at h1
      have e : r.l = x.2 := Option.some.inj h1
      have := h.len _ (aget_mem hq)
      simp only [Option.map_some, Option.getD_some]
      rw [← e]; exact this
/-- a disk is the document's -/
structure DSim (st : DSt) (d : RD) : Prop where
  room : st.room = d.room
  power : st.power = d.pw
  files : FSim st.seen d.seen
  waits : st.waits.length = d.waits.length
theorem DSim.writeE {st : DSt} {d : RD} (h : DSim st d) (p bb : List UInt8) : writeE st p bb.length = d.writeE p bb := by
  have h1 := h.files.sz p
  have h2 := h.files.tot
  unfold Go.Proofs.Ytlbecpekemlllaa.writeE RD.writeE RD.sz
  rw [h.power, h.room, h1, h2]
  by_cases hn : ¬ Named p
  · rw [if_pos hn, if_pos hn]
  · rw [if_neg hn, if_neg hn]
    by_cases h0 : d.pw = 0
    · rw [if_pos h0, if_pos h0]
    · rw [if_neg h0, if_neg h0]
      by_cases hr : d.room < (totF d.seen : Int) + (bb.length : Nat) - (((d.seen[findN d.seen p]?).map (·.2.length)).getD 0 : Nat)
      · rw [if_pos hr, if_pos (by omega)]
      · rw [if_neg hr, if_neg (by omega)]
theorem DSim.wrote {st : DSt} {d : RD} (h : DSim st d) {p : List UInt8} {r : BRow} (hr : r.n = r.l.length) {A : Option Addr} {c : Nat} : DSim (st.wrote p r A c) (d.did 0 p [] r.l) := by
  refine ⟨h.room, ?_, ?_, ?_⟩
  · show (if 0 < st.power then st.power - 1 else st.power) = lessP d.pw
    rw [h.power]; rfl
  · show FSim (aput st.seen p r) (makeF d.seen 0 p [] r.l)
    rw [makeF, if_pos rfl]; exact h.files.put hr
  · show (st.waits ++ [Chg.written p r]).length = (d.waits ++ [(0, p, [], r.l)]).length
    rw [List.length_append, List.length_append, h.waits]; rfl
theorem DSim.readE {st : DSt} {d : RD} (h : DSim st d) (p : List UInt8) : foundE st p = d.readE p := by
  have h1 := h.files.look p
  rw [← lk_find] at h1
  unfold foundE RD.readE
  rw [h.power]
  by_cases h0 : d.pw = 0
  · rw [if_pos h0, if_pos h0]
  · rw [if_neg h0, if_neg h0]
    cases ha : aget st.seen p with
    | none =>
      rw [ha] at h1
      cases hb : d.seen[findN d.seen p]? with
      | none => simp
      | some y => rw [hb] at h1; cases h1
    | some r =>
      rw [ha] at h1
      cases hb : d.seen[findN d.seen p]? with
      | none => rw [hb] at h1; cases h1
      | some y => simp
theorem DSim.readB {st : DSt} {d : RD} (h : DSim st d) (p : List UInt8) : readB st p = d.readB p := by
  have h1 := h.files.look p
  rw [← lk_find] at h1
  have h2 := h.readE p
  unfold Go.Proofs.Ytlbecpekemlllaa.readB RD.readB
  rw [h2, ← h1]
  unfold RD.readE
  by_cases h0 : d.pw = 0
  · rw [if_pos h0, if_pos h0, if_neg (by decide)]
  · rw [if_neg h0, if_neg h0]
    cases hb : d.seen[findN d.seen p]? with
    | none =>
      rw [hb] at h1
      cases ha : aget st.seen p with
      | none => simp
      | some r => rw [ha] at h1; cases h1
    | some y => simp
end Go.Proofs.Ytlbecpekemlllaa
end
section
/- Contracts: the document's disk (layer 12), as one thing: Read, Write, Rename, Remove, Sync, Power, Restart. -/
set_option linter.unusedVariables false
set_option linter.unusedSimpArgs false
set_option maxRecDepth 20000
namespace Go.Proofs.Ytlbecpekemlllaa
open Go.Eng Go.Hx
/-- a disk of the document, and where its lists lie -/
structure RX where
  d : RD
  A : Option Addr
  c : Nat
  Al : Option Addr
  cl : Nat
  A3 : Option Addr
  c3 : Nat
def RX.cs (x : RX) : List Value := rv x.d x.A x.d.seen.length x.c x.Al x.d.lasts.length x.cl x.A3 x.d.waits.length x.c3
abbrev RX.parts (x : RX) : List Res := [RRd 2 x.A x.d.seen.length (fc x.d.seen), RRd 2 x.Al x.d.lasts.length (fc x.d.lasts), RRd 4 x.A3 x.d.waits.length (wcs x.d.waits)]
def RD.new (room : Int) : RD := ⟨room, [], [], [], -1⟩
def RX.new (room : Int) : RX := ⟨RD.new room, none, 0, none, 0, none, 0⟩
theorem inr {r a : Res} {S : List Res} (h : ∃ t ∈ S, View t r) : ∃ t ∈ a :: S, View t r := by
  obtain ⟨t, ht, hv⟩ := h
  exact ⟨t, List.mem_cons_of_mem _ ht, hv⟩
/-- what is told of a Rename -/
def RD.renameE (d : RD) (a c : List UInt8) : Int := if ¬ Named c then 1 else d.readE a
def RD.rename (d : RD) (a c : List UInt8) : RD := if d.renameE a c = 0 then d.did 1 a c [] else d
def RD.remove (d : RD) (p : List UInt8) : RD := if d.readE p = 0 then d.did 2 p [] [] else d
def RD.syncE (d : RD) : Int := if d.pw = 0 then 6 else 0
def RD.sync (d : RD) : RD := if d.pw = 0 then d else { d with lasts := d.seen, waits := [], pw := lessP d.pw }
def RD.power (d : RD) (n : Int) : RD := { d with pw := max n (-1) }
end Go.Proofs.Ytlbecpekemlllaa
end
section
/- Contracts: the document's disk (layer 12): Restart, names of a small world. -/
set_option linter.unusedVariables false
set_option linter.unusedSimpArgs false
set_option maxRecDepth 20000
namespace Go.Proofs.Ytlbecpekemlllaa
open Go.Eng Go.Hx
/-- one change that waits, at a restart -/
def dstep (s : List Bool × List FP) (c : RC) : List Bool × List FP :=
  if s.1.headD false then
    if c.1 = 0 then (s.1.tail.tail, makeF s.2 c.1 c.2.1 c.2.2.1 (if s.1.tail.headD false then c.2.2.2 else c.2.2.2.take (c.2.2.2.length / 2)))
    else (s.1.tail, makeF s.2 c.1 c.2.1 c.2.2.1 c.2.2.2)
  else (s.1.tail, s.2)
def dfold (keep : List Bool) (d : RD) (i : Nat) : List Bool × List FP := (d.waits.take i).foldl dstep (keep, d.lasts)
def RD.restart (d : RD) (keep : List Bool) : RD := { d with seen := (dfold keep d d.waits.length).2, lasts := (dfold keep d d.waits.length).2, waits := [], pw := -1 }
end Go.Proofs.Ytlbecpekemlllaa
end
section
/- A disk that is the document's, in all: what is seen, what lasts, what waits; kept by all that is done. No program walked. -/
set_option linter.unusedVariables false
set_option linter.unusedSimpArgs false
namespace Go.Proofs.Ytlbecpekemlllaa
open Go.Eng Go.Hx
theorem FSim.del {fs : Files} {l : List FP} (h : FSim fs l) (p : List UInt8) : FSim (adel fs p) (withoutF l p) := by
  refine ⟨srtd_filter _ h.ord, adel_nodup h.nd, fun q => ?_, fun x hx => ?_⟩
  · rw [aget_adel h.nd]
    have := lk_filter p l q
    unfold withoutF
    rw [this]
    by_cases hq : p = q
    · rw [if_pos hq, if_pos hq.symm]; rfl
    · rw [if_neg hq, if_neg (fun e => hq e.symm)]; exact h.look q
  · have h1 := adel_vals (List.mem_map.2 ⟨x, hx, rfl⟩)
    obtain ⟨y, hy, e⟩ := List.mem_map.1 h1
    rw [← e]; exact h.len y hy
theorem FSim.at {fs : Files} {l : List FP} (h : FSim fs l) (p : List UInt8) : (aget fs p = none ∧ l[findN l p]? = none) ∨ ∃ r x, aget fs p = some r ∧ l[findN l p]? = some x ∧ r.l = x.2 ∧ r.n = r.l.length := by
  have h1 := h.look p
  rw [← lk_find] at h1
  cases ha : aget fs p with
  | none =>
    rw [ha] at h1
    cases hb : l[findN l p]? with
    | none => exact .inl ⟨rfl, rfl⟩
    | some y => rw [hb] at h1; cases h1
  | some r =>
    rw [ha] at h1
    cases hb : l[findN l p]? with
    | none => rw [hb] at h1; cases h1
    | some y =>
      rw [hb] at h1
      exact .inr ⟨r, y, rfl, rfl, Option.some.inj h1, h.len _ (aget_mem ha)⟩
/-- a change, as the document has it -/
def Chg.rc : Chg → RC
  | .written p r => (0, p, [], r.l)
  | .renamed a c => (1, a, c, [])
  | .removed p => (2, p, [], [])
def Chg.wl (c : Chg) : Prop := ∀ r, c.row = some r → r.n = r.l.length
theorem FSim.apl {fs : Files} {l : List FP} (h : FSim fs l) {c : Chg} (hc : c.wl) : FSim (apl fs c) (makeF l c.rc.1 c.rc.2.1 c.rc.2.2.1 c.rc.2.2.2) := by
  cases c with
  | written p r =>
    rw [makeF]
    exact h.put (hc r rfl)
  | renamed a b =>
    rw [makeF]
    simp only [Chg.rc, Go.Proofs.Ytlbecpekemlllaa.apl]
    rcases h.at a with ⟨h1, h2⟩ | ⟨r, x, h1, h2, h3, h4⟩
    · simp only [h1, h2]; exact h
    · simp only [h1, h2]
      rw [← h3]
      exact (h.del a).put h4
  | removed p =>
    rw [makeF]
    simp only [Chg.rc, Go.Proofs.Ytlbecpekemlllaa.apl]
    rcases h.at p with ⟨h1, h2⟩ | ⟨r, x, h1, h2, h3, h4⟩
    · simp only [h2]
      have e : adel fs p = fs := by
        have hk : ¬ p ∈ akeys fs := aget_none.1 h1
        clear h h2 h1
        induction fs with
        | nil => rfl
        | cons a q ih =>
          obtain ⟨k, u⟩ := a
          simp only [akeys, List.map_cons, List.mem_cons, not_or] at hk
          simp only [adel]
          rw [if_neg (fun e => hk.1 e.symm), ih hk.2]
      rw [if_neg (by decide), e]; exact h
    · simp only [h2]
      rw [if_neg (by decide)]
      exact h.del p
/-- a disk is the document's -/
structure DS (st : DSt) (d : RD) (k : Nat) : Prop where
  sim : DSim st d
  ok : DOk st k
  low : -1 ≤ d.pw
  lasts : FSim st.lasts d.lasts
  waits : st.waits.map Chg.rc = d.waits
  wlen : ∀ c ∈ st.waits, c.wl
theorem DS.le {st : DSt} {d : RD} {k k' : Nat} (h : DS st d k) (hk : k ≤ k') : DS st d k' := ⟨h.sim, h.ok.le hk, h.low, h.lasts, h.waits, h.wlen⟩
theorem DS.init {n : Int} {gs gl : Nat} (h : n ≤ 1048576) : DS (dinit n gs gl) (RD.new n) 0 :=
  ⟨⟨rfl, rfl, FSim.nil, rfl⟩, DOk.init h, Int.le_refl _, FSim.nil, rfl, fun c hc => by cases hc⟩
theorem lessP_low {p : Int} (h : -1 ≤ p) : -1 ≤ lessP p := by
  unfold lessP
  split <;> omega
theorem DS.did {st : DSt} {d : RD} {k : Nat} (h : DS st d k) {c : Chg} (hc : c.wl) {st1 : DSt} (hs : st1.room = st.room ∧ st1.lasts = st.lasts ∧ st1.power = st.spent.power ∧ st1.seen = apl st.seen c ∧ st1.waits = st.waits ++ [c]) (ok : DOk st1 (k + 1)) :
    DS st1 (d.did c.rc.1 c.rc.2.1 c.rc.2.2.1 c.rc.2.2.2) (k + 1) := by
  obtain ⟨h1, h2, h3, h4, h5⟩ := hs
  refine ⟨⟨h1.trans h.sim.room, ?_, ?_, ?_⟩, ok, lessP_low h.low, ?_, ?_, fun x hx => ?_⟩
  · rw [h3]
    show (if 0 < st.power then st.power - 1 else st.power) = lessP d.pw
    rw [h.sim.power]; rfl
  · rw [h4]; exact h.sim.files.apl hc
  · rw [h5, List.length_append, h.sim.waits]
    show _ = (d.waits ++ [_]).length
    rw [List.length_append]; rfl
  · rw [h2]; exact h.lasts
  · rw [h5, List.map_append, h.waits]; rfl
  · rw [h5] at hx
    rcases List.mem_append.1 hx with hx | hx
    · exact h.wlen x hx
    · rw [List.mem_singleton.1 hx]; exact hc
/-- behind a Write, of both -/
theorem DS.write {st st1 : DSt} {d : RD} {k n : Nat} (h : DS st d k) {p l : List UInt8} {B A : Option Addr} {c1 c2 : Nat} (hl : l.length = n) (hn : n ≤ 1048576)
    (hw : (writeE st p n ≠ 0 ∧ st1 = st) ∨ (writeE st p n = 0 ∧ st1 = st.wrote p ⟨B, n, c1, l⟩ A c2)) : DS st1 (d.write p l) (k + 1) ∧ d.writeE p l = writeE st p n := by
  subst hl
  have e := h.sim.writeE p l
  refine ⟨?_, e.symm⟩
  unfold RD.write
  rw [← e]
  rcases hw with ⟨h1, rfl⟩ | ⟨h1, rfl⟩
  · rw [if_neg h1]; exact h.le (Nat.le_succ _)
  · rw [if_pos h1]
    exact h.did (c := .written p ⟨B, l.length, c1, l⟩) (fun r hr => by cases hr; rfl) ⟨rfl, rfl, rfl, rfl, rfl⟩ (h.ok.wrote hn A c2)
theorem DS.readE {st : DSt} {d : RD} {k : Nat} (h : DS st d k) (p : List UInt8) : d.readE p = foundE st p := (h.sim.readE p).symm
theorem DS.readB {st : DSt} {d : RD} {k : Nat} (h : DS st d k) (p : List UInt8) : d.readB p = readB st p := (h.sim.readB p).symm
theorem DS.rename {st st1 : DSt} {d : RD} {k : Nat} (h : DS st d k) {a c : List UInt8} {A : Option Addr} {j : Nat}
    (hw : (renameE st a c ≠ 0 ∧ st1 = st) ∨ (renameE st a c = 0 ∧ st1 = st.did (.renamed a c) A j)) : DS st1 (d.rename a c) (k + 1) ∧ d.renameE a c = renameE st a c := by
  have e : d.renameE a c = renameE st a c := by
    unfold RD.renameE Go.Proofs.Ytlbecpekemlllaa.renameE
    rw [h.readE]
  refine ⟨?_, e⟩
  unfold RD.rename
  rw [e]
  rcases hw with ⟨h1, rfl⟩ | ⟨h1, rfl⟩
  · rw [if_neg h1]; exact h.le (Nat.le_succ _)
  · rw [if_pos h1]
    exact h.did (c := .renamed a c) (fun r hr => by cases hr) ⟨rfl, rfl, rfl, rfl, rfl⟩ (h.ok.did rfl A j)
theorem DS.remove {st st1 : DSt} {d : RD} {k : Nat} (h : DS st d k) {p : List UInt8} {A : Option Addr} {j : Nat}
    (hw : (foundE st p ≠ 0 ∧ st1 = st) ∨ (foundE st p = 0 ∧ st1 = st.did (.removed p) A j)) : DS st1 (d.remove p) (k + 1) := by
  unfold RD.remove
  rw [h.readE]
  rcases hw with ⟨h1, rfl⟩ | ⟨h1, rfl⟩
  · rw [if_neg h1]; exact h.le (Nat.le_succ _)
  · rw [if_pos h1]
    exact h.did (c := .removed p) (fun r hr => by cases hr) ⟨rfl, rfl, rfl, rfl, rfl⟩ (h.ok.did rfl A j)
theorem DS.sync {st st1 : DSt} {d : RD} {k gl : Nat} (h : DS st d k) (hw : (st.power = 0 ∧ st1 = st) ∨ (st.power ≠ 0 ∧ st1 = st.synced gl)) : DS st1 d.sync k ∧ d.syncE = syncE st := by
  have e : d.syncE = syncE st := by unfold RD.syncE Go.Proofs.Ytlbecpekemlllaa.syncE; rw [h.sim.power]
  refine ⟨?_, e⟩
  unfold RD.sync
  rw [← h.sim.power]
  rcases hw with ⟨h1, rfl⟩ | ⟨h1, rfl⟩
  · rw [if_pos h1]; exact h
  · rw [if_neg h1]
    refine ⟨⟨h.sim.room, ?_, h.sim.files, rfl⟩, h.ok.synced gl, ?_, h.sim.files, rfl, fun c hc => by cases hc⟩
    · rfl
    · rw [h.sim.power]; exact lessP_low h.low
theorem DS.power {st : DSt} {d : RD} {k : Nat} (h : DS st d k) {n : Int} (hn : n ≤ 1000000000000) : DS (st.powered n) (d.power n) k := by
  refine ⟨⟨h.sim.room, rfl, h.sim.files, h.sim.waits⟩, ⟨?_, h.ok.room, h.ok.seen, h.ok.rest, h.ok.small⟩, ?_, h.lasts, h.waits, h.wlen⟩
  · show max n (-1) ≤ _; omega
  · show -1 ≤ max n (-1); omega
theorem rstep_sim {ks : List Bool} {L : Files} {l : List FP} {c : Chg} (h : FSim L l) (hc : c.wl) : (rstep (ks, L) c).1 = (dstep (ks, l) c.rc).1 ∧ FSim (rstep (ks, L) c).2 (dstep (ks, l) c.rc).2 := by
  unfold rstep dstep
  by_cases hb : ks.headD false = true
  · rw [if_pos hb, if_pos hb]
    cases c with
    | written p r =>
      rw [if_pos (show (Chg.rc (.written p r)).1 = 0 from rfl)]
      refine ⟨rfl, ?_⟩
      have hr := hc r rfl
      by_cases hb2 : ks.tail.headD false = true
      · simp only [hb2, if_true]
        exact h.apl hc
      · simp only [hb2, if_false]
        have e : (Chg.written p r.half).rc = (0, p, [], r.l.take (r.l.length / 2)) := by simp [Chg.rc, BRow.half, hr]
        have := h.apl (c := .written p r.half) (fun x hx => by cases hx; simp [BRow.half]; omega)
        rw [e] at this
        exact this
    | renamed a b => exact ⟨rfl, h.apl hc⟩
    | removed p => exact ⟨rfl, h.apl hc⟩
  · rw [if_neg hb, if_neg hb]
    exact ⟨rfl, h⟩
theorem fold_sim : ∀ (cs : List Chg) {ks : List Bool} {L : Files} {l : List FP}, FSim L l → (∀ c ∈ cs, c.wl) → (cs.foldl rstep (ks, L)).1 = ((cs.map Chg.rc).foldl dstep (ks, l)).1 ∧ FSim (cs.foldl rstep (ks, L)).2 ((cs.map Chg.rc).foldl dstep (ks, l)).2
  | [], ks, L, l, h, hc => ⟨rfl, h⟩
  | c :: r, ks, L, l, h, hc => by
    obtain ⟨h1, h2⟩ := rstep_sim (ks := ks) h (hc c (List.mem_cons_self ..))
    have e : dstep (ks, l) c.rc = ((rstep (ks, L) c).1, (dstep (ks, l) c.rc).2) := by rw [h1]
    rw [List.map_cons, List.foldl_cons, List.foldl_cons, e]
    exact fold_sim r h2 (fun x hx => hc x (List.mem_cons_of_mem _ hx))
theorem DS.restart {st : DSt} {d : RD} {k : Nat} (h : DS st d k) (keep : List Bool) (gs : Nat) : DS (st.started keep gs) (d.restart keep) k := by
  have hf := (fold_sim st.waits (ks := keep) h.lasts h.wlen).2
  rw [h.waits] at hf
  have e1 : rfold keep st st.waits.length = st.waits.foldl rstep (keep, st.lasts) := by rw [rfold, List.take_of_length_le (Nat.le_refl _)]
  have e2 : dfold keep d d.waits.length = d.waits.foldl dstep (keep, d.lasts) := by rw [dfold, List.take_of_length_le (Nat.le_refl _)]
  rw [← e1, ← e2] at hf
  exact ⟨⟨h.sim.room, rfl, hf, rfl⟩, h.ok.started keep gs, by show -1 ≤ (-1 : Int); omega, hf, rfl, fun c hc => by cases hc⟩
/-- a disk of the document that some disk of the program could be -/
def RD.ok (d : RD) (k : Nat) : Prop := ∃ st, DS st d k
theorem RD.ok.le {d : RD} {k k' : Nat} (h : d.ok k) (hk : k ≤ k') : d.ok k' := by obtain ⟨st, h⟩ := h; exact ⟨st, h.le hk⟩
theorem RD.ok.new {n : Int} (h : n ≤ 1048576) : (RD.new n).ok 0 := ⟨dinit n 0 0, DS.init h⟩
theorem RD.ok.write {d : RD} {k : Nat} (h : d.ok k) {p l : List UInt8} (hl : l.length ≤ 1048576) : (d.write p l).ok (k + 1) := by
  obtain ⟨st, h⟩ := h
  by_cases he : Go.Proofs.Ytlbecpekemlllaa.writeE st p l.length = 0
  · exact ⟨_, (h.write (st1 := st.wrote p ⟨none, l.length, 0, l⟩ none 0) rfl hl (.inr ⟨he, rfl⟩)).1⟩
  · exact ⟨_, (h.write (B := none) (A := none) (c1 := 0) (c2 := 0) (st1 := st) rfl hl (.inl ⟨he, rfl⟩)).1⟩
theorem RD.ok.rename {d : RD} {k : Nat} (h : d.ok k) {a c : List UInt8} : (d.rename a c).ok (k + 1) := by
  obtain ⟨st, h⟩ := h
  by_cases he : Go.Proofs.Ytlbecpekemlllaa.renameE st a c = 0
  · exact ⟨_, (h.rename (st1 := st.did (.renamed a c) none 0) (.inr ⟨he, rfl⟩)).1⟩
  · exact ⟨_, (h.rename (A := none) (j := 0) (st1 := st) (.inl ⟨he, rfl⟩)).1⟩
theorem RD.ok.remove {d : RD} {k : Nat} (h : d.ok k) {p : List UInt8} : (d.remove p).ok (k + 1) := by
  obtain ⟨st, h⟩ := h
  by_cases he : foundE st p = 0
  · exact ⟨_, h.remove (st1 := st.did (.removed p) none 0) (.inr ⟨he, rfl⟩)⟩
  · exact ⟨_, h.remove (A := none) (j := 0) (st1 := st) (.inl ⟨he, rfl⟩)⟩
theorem RD.ok.sync {d : RD} {k : Nat} (h : d.ok k) : d.sync.ok k := by
  obtain ⟨st, h⟩ := h
  by_cases he : st.power = 0
  · exact ⟨_, (h.sync (gl := 0) (st1 := st) (.inl ⟨he, rfl⟩)).1⟩
  · exact ⟨_, (h.sync (st1 := st.synced 0) (.inr ⟨he, rfl⟩)).1⟩
theorem RD.ok.power {d : RD} {k : Nat} (h : d.ok k) {n : Int} (hn : n ≤ 1000000000000) : (d.power n).ok k := by
  obtain ⟨st, h⟩ := h
  exact ⟨_, h.power hn⟩
theorem RD.ok.restart {d : RD} {k : Nat} (h : d.ok k) (keep : List Bool) : (d.restart keep).ok k := by
  obtain ⟨st, h⟩ := h
  exact ⟨_, h.restart keep 0⟩
end Go.Proofs.Ytlbecpekemlllaa
end
section
/- Contract: a disk's Restart where no removal waits. -/
set_option linter.unusedVariables false
set_option linter.unusedSimpArgs false
set_option maxRecDepth 20000
namespace Go.Proofs.Ytlbecpekemlllaa
open Go.Eng Go.Hx
/-- a restart, where no removal waits -/
theorem restartNC {g : Nat} {st : DSt} {A : Option Addr} {n c : Nat} {bs : List Bool} (hc : n ≤ c) (hR : ∀ c ∈ st.waits, ∀ p, c ≠ .removed p) (hs : Small st) (hw : st.waits.length ≤ 1000000) : Con Try.prog 9 [.pointer (some ⟨g, 0, none⟩), .slice A n c] [RDisk g st] [RRd 1 A n (bools bs)] (fun v_ X_ S_ => ∃ gs, v_ = (.tuple #[]) ∧ X_ = [RDisk g (st.started bs gs)] ∧ S_ = []) := by
  refine henter (N := 67) Try.func9 rfl rfl (by simp) fun b => ?_
  refine hfactC (fun m => rdX (m.rd 0 rfl)) ?_
  rintro ⟨hl_r, hA_r⟩
  refine hmemC (fun w m => (m.perm (takeR_perm [0] _ [_] _ rfl)).unpack) ?_
  refine hfactC (fun m => (m.ord 3 rfl).2.1) fun hwA => ?_
  refine hseq <| hreg <| ?_
  refine hx (xh_box rfl (fun g3 => ?_))
  refine hend <| hmemQ (X' := [_, _, _, _, _, _]) (S' := [_]) (fun _ m => m) <| hthen <| hseq <| hreg <| hy (fun _ => y_mkf rfl rfl) <| hy (fun _ => y_assign rfl) <| hend <| hsub (ρ' := [(4, _), (3, _), (0, _), (1, _)]) ⟨rfl, rfl, rfl, rfl, trivial⟩ <| hthen <| hseq <| hseq <| hreg <| hy (fun _ => y_move rfl) <| hy (fun _ => y_nilp rfl) <| hy (fun _ => y_fld rfl fa61_3 (by decide)) <| hy (fun m => y_ld1 rfl ag59 (ld_blk (m.blk 1 rfl) rfl)) <| hy (fun _ => y_lenS rfl Try.underlying59) <| hy (fun _ => y_move rfl) <| hend <| hsub (ρ' := [(15, _), (14, _), (13, _), (4, _), (3, _), (0, _), (1, _)]) ⟨rfl, rfl, rfl, rfl, rfl, rfl, rfl, trivial⟩ <| hthen <| hblock <| ?_
  refine hloop6 (fun i ks L A1 n1 c1 => st.waits.length - i) (fun i ks L A1 n1 c1 => [(15, .int .i64 (i : Nat))]) (fun i ks L A1 n1 c1 => [RBlk g3 27 [.slice A1 n1 c1], RMap SV st.gl (vals L)]) (fun i ks L A1 n1 c1 => [RRd 1 A1 n1 (bools ks)]) (fun i ks L A1 n1 c1 => n1 ≤ c1 ∧ i ≤ st.waits.length ∧ (ks, L) = rfold bs st i) 0 bs st.lasts A n c [(14, _), (13, _), (4, _), (3, _), (0, _), (1, _)] ⟨rfl, rfl, rfl, rfl, rfl, rfl, trivial⟩ [0, 2] rfl [0] rfl (⟨hc, Nat.zero_le _, by simp [rfold]⟩) ⟨rfl, trivial⟩ (fun i ks L A1 n1 c1 ⟨hc1, hi, hf⟩ => ?_)
  refine hseq <| hreg <| hy (fun _ => y_lss rfl rfl) <| hend <| hthen <| hseq <| ?_
  refine hif rfl (fun hlt => ?_) (fun hlt => ?_)
  · obtain ⟨cg, hcg⟩ : ∃ cg, st.waits[i]? = some cg := ⟨_, List.getElem?_eq_getElem (by omega)⟩
    have hfs := rfold_succ (keep := bs) hcg
    rw [← hf] at hfs
    refine hcskip <| hthen <| hseq <| hblock <| hseq <| hreg <| hy (fun _ => y_idxS1 rfl rfl Try.underlying59 sz63 hwA rfl (by omega)) <| hy (fun m => y_ld1 rfl ag63 ((m.ord 4 rfl).cell (j := i) (by rw [List.getElem?_map, hcg]; rfl))) <| hy (fun _ => y_assign rfl) <| hend <| hsub (ρ' := [(6, _), (16, _), (15, _), (14, _), (13, _), (4, _), (3, _), (0, _), (1, _)]) ⟨rfl, rfl, rfl, rfl, rfl, rfl, rfl, rfl, rfl, trivial⟩ <| hthen <| hseq <| hseq <| hreg <| hy (fun _ => y_move rfl) <| ?_
    refine hx (xh_callv rfl rfl Try.call26 (nextBitC (by omega)) [0] rfl [0] rfl ?_)
    rintro _ _ _ ⟨A12, n12, c12, rfl, rfl, rfl, hp⟩
    refine hfactL (fun m => rdX (m.rd 0 rfl)) ?_
    rintro ⟨hl_q, hA_q⟩
    refine hy (fun _ => (y_not rfl)) <| hend <| hsub (ρ' := [(21, _), (6, _), (16, _), (15, _), (14, _), (13, _), (4, _), (3, _), (0, _), (1, _)]) ⟨rfl, rfl, rfl, rfl, rfl, rfl, rfl, rfl, rfl, rfl, trivial⟩ <| hmemQ (X' := [_, _, _, _, _, _]) (S' := [_, _, _]) (fun _ m => m) <| hthen <| ?_
    refine hifb rfl (fun hb => ?_) (fun hb => ?_)
    · have hb' : ks.headD false = false := by simpa using hb
      refine hexit <| hthen_exit <| hqblock_exit <| hthen <| hreg <| hy (fun _ => y_add rfl rfl (w64 (by omega) (by omega))) <| hy (fun _ => y_move rfl) <| hend <| hsub (ρ' := [(15, _), (21, _), (6, _), (16, _), (14, _), (13, _), (4, _), (3, _), (0, _), (1, _)]) ⟨rfl, rfl, rfl, rfl, rfl, rfl, rfl, rfl, rfl, rfl, trivial⟩ <| ?_
      refine hnext6 (i + 1) ks.tail L A12 n12 c12 ⟨rfl, rfl, rfl, rfl, rfl, rfl, rfl, trivial⟩ [0, 0, 0, 0, 0, 0] rfl [0, 2] rfl (⟨hp, by omega, by rw [hfs]; unfold rstep; rw [if_neg (by rw [hb']; decide)]⟩) (by omega)
    · have hb' : ks.headD false = true := by simpa using hb
      rcases cg with ⟨p, r⟩ | ⟨a, c9⟩ | ⟨p⟩
      · have hrm : r ∈ rowsOf st := by
          unfold rowsOf
          exact List.mem_append_right _ (List.mem_filterMap.2 ⟨_, List.mem_of_getElem? hcg, rfl⟩)
        have hsr := hs r hrm
        obtain ⟨ri, hri⟩ := List.mem_iff_getElem?.1 hrm
        refine hfactC (fun m => rows_le (m.xres 5 rfl) hri) fun hrc => ?_
        refine hcskip <| hthen <| hseq <| hreg <| hy (fun _ => y_move rfl) <| hend <| hthen <| hblock <| hseq <| hreg <| hy (fun _ => y_tas rfl (show _ = Result.ok (Value.tuple #[.agg [SV p, r.val].toArray, .bool true]) _ by kernel_rfl)) <| hy (fun _ => y_extract rfl rfl) <| hy (fun _ => y_extract rfl rfl) <| hend <| hsub (ρ' := [(34, _), (33, _), (22, _), (21, _), (6, _), (16, _), (15, _), (14, _), (13, _), (4, _), (3, _), (0, _), (1, _)]) ⟨rfl, rfl, rfl, rfl, rfl, rfl, rfl, rfl, rfl, rfl, rfl, rfl, rfl, trivial⟩ <| hthen <| ?_
        refine hift rfl (rfl) ?_
        refine hseq <| hreg <| ?_
        refine hx (xh_alloc ti65 (fun g7 => ?_))
        refine hx0 (xh_stA 0 rfl rfl rfl sz65 rfl (by simp [SV, BRow.val, Value.oneCell']) rfl ?_)
        refine hend <| hmemQ (X' := [_, _, _, _, _, _, _]) (S' := [_, _, _]) (fun _ m => m) <| hthen <| hseq <| hseq <| hreg <| hy (fun _ => y_move rfl) <| ?_
        refine hx (xh_callv rfl rfl Try.call26 (nextBitC (by omega)) [1] rfl [0] rfl ?_)
        rintro _ _ _ ⟨A13, n13, c13, rfl, rfl, rfl, hp2⟩
        refine hfactL (fun m => rdX (m.rd 0 rfl)) ?_
        rintro ⟨hl_q2, hA_q2⟩
        refine hy (fun _ => (y_not rfl)) <| hend <| hsub (ρ' := [(37, _), (7, _), (34, _), (33, _), (22, _), (21, _), (6, _), (16, _), (15, _), (14, _), (13, _), (4, _), (3, _), (0, _), (1, _)]) ⟨rfl, rfl, rfl, rfl, rfl, rfl, rfl, rfl, rfl, rfl, rfl, rfl, rfl, rfl, rfl, trivial⟩ <| hmemQ (X' := [_, _, _, _, _, _, _]) (S' := [_, _, _, _]) (fun _ m => m) <| hthen <| ?_
        refine hifb rfl (fun hb2 => ?_) (fun hb2 => ?_)
        · have hb2' : ks.tail.headD false = false := by simpa using hb2
          refine hreg <| hy (fun _ => y_fld rfl fa65_1 (by decide)) <| hy (fun m => y_ld1 rfl ag47 (ld_blk (m.blk 1 rfl) rfl)) <| hy (fun _ => y_fld rfl fa65_1 (by decide)) <| hy (fun m => y_ld1 rfl ag47 (ld_blk (m.blk 1 rfl) rfl)) <| hy (fun _ => y_lenS rfl Try.underlying47) <| hy (fun _ => y_quo rfl rfl (by omega) (by omega) (w64 (by omega) (by omega))) <| hy (fun _ => y_slTo rfl rfl Try.underlying47 sz5 (show ((r.n / 2 : Nat) : Int) = _ by omega) (by omega)) <| hy (fun _ => y_fld rfl fa65_1 (by decide)) <| ?_
          refine hx0 (xh_st1a 1 rfl rfl rfl sz47 rfl (by first | exact Nat.le_of_ble_eq_true rfl | simp) ?_)
          refine hmemL (fun w m => m.eqX 0 rfl (show _ = RBlk g7 65 [SV p, r.half.val] from rfl)) ?_
          refine hend <| hsub (ρ' := [(37, _), (7, _), (34, _), (33, _), (22, _), (21, _), (6, _), (16, _), (15, _), (14, _), (13, _), (4, _), (3, _), (0, _), (1, _)]) ⟨rfl, rfl, rfl, rfl, rfl, rfl, rfl, rfl, rfl, rfl, rfl, rfl, rfl, rfl, rfl, trivial⟩ <| hmemQ (X' := [_, _, _, _, _, _, _]) (S' := [_, _, _, _]) (fun _ m => m) <| hthen <| hdrw [5] [(0, some 0), (1, some 0), (2, some 0), (3, some 0), (4, some 0), (5, none)] (by kernel_rfl) (by kernel_rfl) rfl 0 <| hty (fun m => y_ldN rfl ag65 sz65 (by simp) (m.blk 0 rfl).cells0) <| htyU (y_move rfl) <| htyU (y_nilp rfl) <| htyU (y_fld rfl fa61_2 (by decide)) <| hty (fun m => y_ld1 rfl ag58 (ld_blk (m.blk 3 rfl) rfl)) <| ?_
          refine htx (xh_call rfl Try.call27 (wmakeC) [2] rfl [] rfl ?_)
          rintro _ _ _ ⟨rfl, rfl, rfl⟩
          refine ⟨(fun h => absurd h (by decide)), ?_⟩
          refine htend <| hsub (ρ' := [(37, _), (7, _), (34, _), (33, _), (22, _), (21, _), (6, _), (16, _), (15, _), (14, _), (13, _), (4, _), (3, _), (0, _), (1, _)]) ⟨rfl, rfl, rfl, rfl, rfl, rfl, rfl, rfl, rfl, rfl, rfl, rfl, rfl, rfl, rfl, trivial⟩ <| hmemQ (X' := [_, _, _, _, _, _, _]) (S' := [_, _, _, _]) (fun _ m => m) <| hqblock <| hqblock <| hthen <| hreg <| hy (fun _ => y_add rfl rfl (w64 (by omega) (by omega))) <| hy (fun _ => y_move rfl) <| hend <| hsub (ρ' := [(15, _), (37, _), (7, _), (34, _), (33, _), (22, _), (21, _), (6, _), (16, _), (14, _), (13, _), (4, _), (3, _), (0, _), (1, _)]) ⟨rfl, rfl, rfl, rfl, rfl, rfl, rfl, rfl, rfl, rfl, rfl, rfl, rfl, rfl, rfl, trivial⟩ <| ?_
          refine hmemQ (fun w m => m.eqX 0 rfl (show _ = RMap SV st.gl (vals (aput L p r.half)) from congrArg (RMap SV st.gl) (vals_put _ _ _))) ?_
          refine hnext6 (i + 1) ks.tail.tail (aput L p r.half) A13 n13 c13 ⟨rfl, rfl, rfl, rfl, rfl, rfl, rfl, trivial⟩ [2, 0, 1, 1, 1, 1] rfl [0, 3] rfl (⟨hp2, by omega, by rw [hfs, rstep, if_pos hb', hb2']; rfl⟩) (by omega)
        · have hb2' : ks.tail.headD false = true := by simpa using hb2
          refine hcskip <| hthen <| hdrw [5] [(0, some 0), (1, some 0), (2, some 0), (3, some 0), (4, some 0), (5, none)] (by kernel_rfl) (by kernel_rfl) rfl 0 <| hty (fun m => y_ldN rfl ag65 sz65 (by simp) (m.blk 1 rfl).cells0) <| htyU (y_move rfl) <| htyU (y_nilp rfl) <| htyU (y_fld rfl fa61_2 (by decide)) <| hty (fun m => y_ld1 rfl ag58 (ld_blk (m.blk 3 rfl) rfl)) <| ?_
          refine htx (xh_call rfl Try.call27 (wmakeC) [2] rfl [] rfl ?_)
          rintro _ _ _ ⟨rfl, rfl, rfl⟩
          refine ⟨(fun h => absurd h (by decide)), ?_⟩
          refine htend <| hsub (ρ' := [(37, _), (7, _), (34, _), (33, _), (22, _), (21, _), (6, _), (16, _), (15, _), (14, _), (13, _), (4, _), (3, _), (0, _), (1, _)]) ⟨rfl, rfl, rfl, rfl, rfl, rfl, rfl, rfl, rfl, rfl, rfl, rfl, rfl, rfl, rfl, trivial⟩ <| hmemQ (X' := [_, _, _, _, _, _, _]) (S' := [_, _, _, _]) (fun _ m => m) <| hqblock <| hqblock <| hthen <| hreg <| hy (fun _ => y_add rfl rfl (w64 (by omega) (by omega))) <| hy (fun _ => y_move rfl) <| hend <| hsub (ρ' := [(15, _), (37, _), (7, _), (34, _), (33, _), (22, _), (21, _), (6, _), (16, _), (14, _), (13, _), (4, _), (3, _), (0, _), (1, _)]) ⟨rfl, rfl, rfl, rfl, rfl, rfl, rfl, rfl, rfl, rfl, rfl, rfl, rfl, rfl, rfl, trivial⟩ <| ?_
          refine hmemQ (fun w m => m.eqX 0 rfl (show _ = RMap SV st.gl (vals (aput L p r)) from congrArg (RMap SV st.gl) (vals_put _ _ _))) ?_
          refine hnext6 (i + 1) ks.tail.tail (aput L p r) A13 n13 c13 ⟨rfl, rfl, rfl, rfl, rfl, rfl, rfl, trivial⟩ [1, 0, 1, 1, 1, 1] rfl [0, 3] rfl (⟨hp2, by omega, by rw [hfs, rstep, if_pos hb', hb2']; rfl⟩) (by omega)
      · refine hcskip <| hthen <| hseq <| hreg <| hy (fun _ => y_move rfl) <| hend <| hthen <| hblock <| hseq <| hreg <| hy (fun _ => y_tas rfl (show _ = Result.ok (Value.tuple #[.agg [SV [], .slice none 0 0].toArray, .bool false]) _ by kernel_rfl)) <| hy (fun _ => y_extract rfl rfl) <| hy (fun _ => y_extract rfl rfl) <| hend <| hsub (ρ' := [(34, _), (33, _), (22, _), (21, _), (6, _), (16, _), (15, _), (14, _), (13, _), (4, _), (3, _), (0, _), (1, _)]) ⟨rfl, rfl, rfl, rfl, rfl, rfl, rfl, rfl, rfl, rfl, rfl, rfl, rfl, trivial⟩ <| hthen <| ?_
        refine hiff rfl (rfl) ?_
        refine hseq <| hreg <| hy (fun _ => y_assign rfl) <| hend <| hsub (ρ' := [(34, _), (33, _), (22, _), (21, _), (6, _), (16, _), (15, _), (14, _), (13, _), (4, _), (3, _), (0, _), (1, _)]) ⟨rfl, rfl, rfl, rfl, rfl, rfl, rfl, rfl, rfl, rfl, rfl, rfl, rfl, trivial⟩ <| hthen <| hdrw [8] [(0, some 0), (1, some 0), (2, some 0), (3, some 0), (4, some 0), (5, some 0), (6, some 0), (7, some 0), (8, none)] (by kernel_rfl) (by kernel_rfl) rfl 0 <| htyU (y_move rfl) <| htyU (y_move rfl) <| htyU (y_nilp rfl) <| htyU (y_fld rfl fa61_2 (by decide)) <| hty (fun m => y_ld1 rfl ag58 (ld_blk (m.blk 2 rfl) rfl)) <| htyU (y_mkf rfl rfl) <| htyU (y_nilm rfl (by kernel_rfl)) <| htyU (y_move rfl) <| ?_
        refine htx (xh_inv rfl rfl (fun w => by kernel_rfl) Try.call91 (nmakeC) [1] rfl [] rfl ?_)
        rintro _ _ _ ⟨rfl, rfl, rfl⟩
        refine ⟨(fun h => absurd h (by decide)), ?_⟩
        refine htend <| hsub (ρ' := [(34, _), (33, _), (22, _), (21, _), (6, _), (16, _), (15, _), (14, _), (13, _), (4, _), (3, _), (0, _), (1, _)]) ⟨rfl, rfl, rfl, rfl, rfl, rfl, rfl, rfl, rfl, rfl, rfl, rfl, rfl, trivial⟩ <| hmemQ (X' := [_, _, _, _, _, _]) (S' := [_, _, _]) (fun _ m => m) <| hqblock <| hqblock <| hthen <| hreg <| hy (fun _ => y_add rfl rfl (w64 (by omega) (by omega))) <| hy (fun _ => y_move rfl) <| hend <| hsub (ρ' := [(15, _), (34, _), (33, _), (22, _), (21, _), (6, _), (16, _), (14, _), (13, _), (4, _), (3, _), (0, _), (1, _)]) ⟨rfl, rfl, rfl, rfl, rfl, rfl, rfl, rfl, rfl, rfl, rfl, rfl, rfl, trivial⟩ <| ?_
        refine hnext6 (i + 1) ks.tail (apl L (.renamed a c9)) A12 n12 c12 ⟨rfl, rfl, rfl, rfl, rfl, rfl, rfl, trivial⟩ [1, 0, 0, 0, 0, 0] rfl [0, 2] rfl (⟨hp, by omega, by rw [hfs]; unfold rstep; rw [if_pos hb']; rfl⟩) (by omega)
      · exact absurd rfl (hR _ (List.mem_of_getElem? hcg) _)
  · obtain rfl : i = st.waits.length := by omega
    have hL : L = (rfold bs st st.waits.length).2 := by rw [← hf]
    refine hexit <| hthen_exit <| hthen_exit <| hqblock_exit <| hthen <| hreg <| hy (fun _ => y_move rfl) <| hy (fun _ => y_move rfl) <| hy (fun _ => y_move rfl) <| hy (fun _ => y_move rfl) <| hy (fun _ => y_nilp rfl) <| hy (fun _ => y_fld rfl fa61_2 (by decide)) <| hy (fun m => y_ld1 rfl ag58 (ld_blk (m.blk 2 rfl) rfl)) <| ?_
    refine hx (xh_call rfl Try.call28 (mcloneC) [1] rfl [] rfl ?_)
    rintro _ _ _ ⟨g1, rfl, rfl, rfl⟩
    refine hy (fun _ => y_nilp rfl) <| hy (fun _ => y_fld rfl fa61_1 (by decide)) <| ?_
    refine hx0 (xh_st1a 3 rfl rfl rfl sz58 rfl (by first | exact Nat.le_of_ble_eq_true rfl | simp) ?_)
    refine hy (fun _ => y_nilp rfl) <| hy (fun _ => y_fld rfl fa61_3 (by decide)) <| ?_
    refine hx0 (xh_st1a 0 rfl rfl rfl sz59 rfl (by first | exact Nat.le_of_ble_eq_true rfl | simp) ?_)
    refine hy (fun _ => y_nilp rfl) <| hy (fun _ => y_fld rfl fa61_4 (by decide)) <| ?_
    refine hx0 (xh_st1a 0 rfl rfl rfl sz3 rfl (by first | exact Nat.le_of_ble_eq_true rfl | simp) ?_)
    refine hend <| hsub (ρ' := [(16, _), (15, _), (14, _), (13, _), (4, _), (3, _), (0, _), (1, _)]) ⟨rfl, rfl, rfl, rfl, rfl, rfl, rfl, rfl, trivial⟩ <| hmemQ (X' := [_, _, _, _, _, _, _]) (S' := [_, _]) (fun _ m => m) <| ?_
    refine hmemQ (fun w m => m.addX (r' := ROwn 63 1 (.slice none 0 0) 0 []) (.refl _ _) (Own.nil _ _ _ _) (fun k hk => hk.elim)) ?_
    have e : ∀ gs, st.started bs gs = { st with gs := gs, seen := L, lasts := L, waits := [], wA := none, wc := 0, power := -1 } := fun gs => by rw [hL]; rfl
    refine hmemQ (fun w m => m.eqX 1 rfl (show _ = RBlk g 61 (dcells (st.started bs g1)) from rfl)) ?_
    refine hmemQ (fun w m => m.eqX 3 rfl (show _ = RMap SV g1 (vals (st.started bs g1).seen) from by rw [hL]; rfl)) ?_
    refine hmemQ (fun w m => m.eqX 3 rfl (show _ = RMap SV st.gl (vals (st.started bs g1).lasts) from by rw [hL]; rfl)) ?_
    refine hmemQ (X' := RRows (rowsOf (st.started bs g1)) :: _) (fun w m => (m.perm (takeR_perm [7] _ [_] _ rfl)).rowHalf (rows_started g1)) ?_
    refine hmemQ (X' := RDisk g (st.started bs g1) :: _) (fun w m => (m.perm (takeR_perm [3, 2, 1, 1, 0] _ [_, _, _, _, _] _ rfl)).pack) ?_
    exact hret0 trivial rfl [0] rfl [] rfl ⟨_, rfl, rfl, rfl⟩
end Go.Proofs.Ytlbecpekemlllaa
end
section
/- Contracts: disks of the program as the document's (for seats without slots: Slots7 has them too). -/
set_option linter.unusedVariables false
set_option linter.unusedSimpArgs false
set_option maxRecDepth 20000
namespace Go.Proofs.Ytlbecpekemlllaa
open Go.Eng Go.Hx
theorem dreadC {g : Nat} {st : DSt} {d : RD} {kk : Nat} {p : List UInt8} (hD : DS st d kk) : Con Try.prog 17 [.pointer (some ⟨g, 0, none⟩), .string (strOf p)] [RDisk g st] [] (fun v_ X_ S_ => ∃ v, v_ = (.tuple #[v, .int .i64 (d.readE p)]) ∧ X_ = [RDisk g st, ROwn 5 1 v (d.readB p).length (b8s (d.readB p))] ∧ S_ = []) := by
  rw [hD.readE, hD.readB]
  exact readC hD.ok.sm
theorem dwriteC {g : Nat} {st : DSt} {d : RD} {kk : Nat} {p : List UInt8} {A : Option Addr} {n c : Nat} {l : List UInt8} (hD : DS st d kk) (hkk : kk ≤ 99000) (hl : l.length = n) (hn : n ≤ 1048576) : Con Try.prog 23 [.pointer (some ⟨g, 0, none⟩), .string (strOf p), .slice A n c] [RDisk g st] [RRd 1 A n (b8s l)] (fun v_ X_ S_ => ∃ st1, v_ = (.int .i64 (d.writeE p l)) ∧ X_ = [RDisk g st1] ∧ S_ = [] ∧ (DS st1 (d.write p l) (kk + 1))) := by
  exact Con.mono (writeC hD.ok (by omega) hn) (fun v X S h => by
    obtain ⟨st1, B, c1, A1, c2, h1, h2, h3, hw⟩ := h
    have hW := hD.write hl hn hw
    exact ⟨st1, by rw [hW.2]; exact h1, h2, h3, hW.1⟩)
theorem dsyncC {g : Nat} {st : DSt} {d : RD} {kk : Nat} (hD : DS st d kk) : Con Try.prog 24 [.pointer (some ⟨g, 0, none⟩)] [RDisk g st] [] (fun v_ X_ S_ => ∃ st1, v_ = (.int .i64 d.syncE) ∧ X_ = [RDisk g st1] ∧ S_ = [] ∧ (DS st1 d.sync kk)) := by
  exact Con.mono (syncC hD.ok) (fun v X S h => by
    obtain ⟨st1, gl, h1, h2, h3, hw⟩ := h
    have hW := hD.sync hw
    exact ⟨st1, by rw [hW.2]; exact h1, h2, h3, hW.1⟩)
theorem drenameC {g : Nat} {st : DSt} {d : RD} {kk : Nat} {a c : List UInt8} (hD : DS st d kk) (hkk : kk ≤ 99000) : Con Try.prog 25 [.pointer (some ⟨g, 0, none⟩), .string (strOf a), .string (strOf c)] [RDisk g st] [] (fun v_ X_ S_ => ∃ st1, v_ = (.int .i64 (d.renameE a c)) ∧ X_ = [RDisk g st1] ∧ S_ = [] ∧ (DS st1 (d.rename a c) (kk + 1))) := by
  exact Con.mono (renameC hD.ok (by omega)) (fun v X S h => by
    obtain ⟨st1, A, j, h1, h2, h3, hw⟩ := h
    have hW := hD.rename hw
    exact ⟨st1, by rw [hW.2]; exact h1, h2, h3, hW.1⟩)
theorem drestartC {g : Nat} {st : DSt} {d : RD} {kk : Nat} {A : Option Addr} {n c : Nat} {bs : List Bool} (hD : DS st d kk) (hkk : kk ≤ 99000) (hnr : ∀ c ∈ d.waits, c.1 ≠ 2) (hc : n ≤ c) : Con Try.prog 9 [.pointer (some ⟨g, 0, none⟩), .slice A n c] [RDisk g st] [RRd 1 A n (bools bs)] (fun v_ X_ S_ => ∃ st1, v_ = (.tuple #[]) ∧ X_ = [RDisk g st1] ∧ S_ = [] ∧ (DS st1 (d.restart bs) kk)) := by
  have hR : ∀ c ∈ st.waits, ∀ p, c ≠ .removed p := by
    rintro c hc p rfl
    have h1 : Chg.rc (.removed p) ∈ d.waits := by rw [← hD.waits]; exact List.mem_map.2 ⟨_, hc, rfl⟩
    exact hnr _ h1 rfl
  have hw : st.waits.length ≤ 1000000 := by have := hD.ok.rest; omega
  exact Con.mono (restartNC hc hR hD.ok.sm hw) (fun v X S h => by
    obtain ⟨gs, h1, h2, h3⟩ := h
    exact ⟨_, h1, h2, h3, hD.restart bs gs⟩)
end Go.Proofs.Ytlbecpekemlllaa
end
