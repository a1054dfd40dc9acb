/- The law JournalFull: what it computes. -/
import Derived.Test.YtpcgpnijhpcbeaaJourAdd
import Derived.Test.YtpcgpnijhpcbeaaPlainFull
set_option linter.unusedVariables false
set_option linter.unusedSimpArgs false
set_option maxRecDepth 20000
namespace Go.Proofs.Ytpcgpnijhpcbeaa
open Go.Eng Go.Hx
theorem bldD2 (a b : UInt8) : Bld Try.prog (plB Try.prog 23) (b8s (List.replicate 32 0)) [(0, B8 a), (1, B8 b)] (b8s (a :: b :: List.replicate 30 0)) :=
  .cons (o := 0) (sz := 1) (by kernel_rfl) rfl rfl (by decide) (.cons (o := 1) (sz := 1) (by kernel_rfl) rfl rfl (Nat.le_of_ble_eq_true rfl) .nil)
def sOf (dn : Bool) (k i : Nat) : Nat := if dn = true then (if i ≤ 4000 then k - 4000 else k - i) else 0
def mOf (dn : Bool) (k i : Nat) : Nat := if dn = true then (if i < 4000 then k - 4000 + i else k - 1 - i) else i
theorem full_step {dn : Bool} {k i : Nat} (hk : 4090 ≤ k) (hk2 : k ≤ 4100) (hi : i < k) : mOf dn k i < 65536 ∧ sOf dn k i + i ≤ 65536 ∧ ¬ dg (mOf dn k i) ∈ run (sOf dn k i) i ∧ (i < 4000 → run (sOf dn k i) i ++ [dg (mOf dn k i)] = run (sOf dn k (i + 1)) (i + 1)) ∧ (4000 ≤ i → dput (run (sOf dn k i) i) (dg (mOf dn k i)) = run (sOf dn k (i + 1)) (i + 1)) := by
  cases dn with
  | false =>
    simp only [sOf, mOf, Bool.false_eq_true, if_false]
    refine ⟨by omega, by omega, not_mem_run (by omega) (by omega) (by omega), fun _ => ?_, fun _ => ?_⟩
    · rw [run_snoc, Nat.zero_add]
    · have := dput_end (s := 0) (n := i) (by omega); rwa [Nat.zero_add] at this
  | true =>
    simp only [sOf, mOf, if_true]
    by_cases h : i < 4000
    · rw [if_pos h, if_pos (by omega), if_pos (by omega)]
      refine ⟨by omega, by omega, not_mem_run (by omega) (by omega) (by omega), fun _ => ?_, fun h2 => absurd h (by omega)⟩
      rw [run_snoc]
    · rw [if_neg h, if_neg (show ¬ i + 1 ≤ 4000 by omega)]
      have e : (if i ≤ 4000 then k - 4000 else k - i) = k - i := by split <;> omega
      rw [e]
      refine ⟨by omega, by omega, not_mem_run (by omega) (by omega) (by omega), fun h2 => absurd h2 h, fun _ => ?_⟩
      have h3 : k - i = (k - 1 - i) + 1 := by omega
      have h4 : k - (i + 1) = k - 1 - i := by omega
      rw [h3, h4]
      exact dput_front (by omega)
theorem add_full (img : List UInt8) (A : Option Addr) (n c : Nat) (ds : List (List UInt8)) (d : List UInt8) (w : World) (hi : img.length = 32) (hr : Rd w 32 A n (dc ds)) (hD : D32 ds) (hR : Rise ds) (hd : d.length = 32) (hn : n ≤ 1000000) (h4 : 4096 ≤ n) (hm : ¬ d ∈ ds) :
    Calls Try.prog 31 #[.agg (b8s img ++ [Value.slice A n c]).toArray, .agg (b8s d).toArray] w fun e w' => e = .returned (.tuple #[.agg (b8s (List.replicate 32 0) ++ [Value.slice none 0 0]).toArray, .int .i64 5]) ∧ Fr No w w' := by
  refine (add img A n c ds d w hi hr hD hR hd hn).mono fun e w' h => ?_
  rcases h with ⟨⟨v, h1 | h1, _⟩ | ⟨_, _, h2⟩, hf⟩
  · exact absurd h1 hm
  · omega
  · exact ⟨h2, hf⟩
theorem journalFull (z : Int) (dn : Bool) (w : World) (hz : -9223372036854775808 ≤ z ∧ z ≤ 9223372036854775807) :
    Calls Try.prog 8 #[.int .i64 z, .bool dn] w fun e w' => e = .returned (.bool true) ∧ Fr No w w' := by
  have z32 : (List.replicate 32 (0 : UInt8)).length = 32 := by simp
  have hdn : dn = decide (dn = true) := by simp
  rw [show Value.bool dn = .bool (decide (dn = true)) from congrArg Value.bool hdn]
  refine enter (N := 96) Try.func8 rfl rfl (by simp) ?_
  refine cseq <| creg <| nq (y_assign rfl) <| nend <| qthen <| cseq <| creg <| nq (y_move rfl) <| ?_
  refine nx (x_call rfl Try.call13 (around_c z 11 w hz.1 hz.2 (by omega)) ?_)
  rintro e_ w1 ⟨rfl, rfl⟩
  refine ⟨_, rfl, ?_⟩
  have har := around_lt z 11 (by omega)
  generalize hq : around z 11 = q at har
  obtain ⟨q, rfl⟩ : ∃ k : Nat, q = k := ⟨q.toNat, by omega⟩
  refine nq (yV (y_add rfl rfl (w64 (by omega) (by omega))) ((show Value.int .i64 (4090 + (q : Int)) = .int .i64 ((4090 + q : Nat) : Int) by congr 1))) <| nq (y_assign rfl) <| nend <| qsub (sub_cons (t := 5) rfl <| sub_cons (t := 4) rfl <| sub_cons (t := 0) rfl <| sub_cons (t := 1) rfl <| sub_nil) <| qthen <| cseq <| creg <| nq (y_build0 ti61 rfl (by kernel_rfl)) <| ?_
  obtain ⟨k, hk⟩ : ∃ k, k = 4090 + q := ⟨_, rfl⟩
  rw [← hk]
  have hk1 : 4090 ≤ k := by omega
  have hk2 : k ≤ 4100 := by omega
  refine nx (x_alloc ti61 fun g6 w2 hg6 hf2 hb2 => ?_)
  refine nx0 (x_stA rfl rfl sz61 (j_len z32) (j_one (s := .slice none 0 0) rfl) hb2 rfl fun w3 hf3 hb3 hs3 => ?_)
  have l6 := hb2.lt
  have f03 : Fr No w w3 := hf2.new hf3 (fun i hi => by omega)
  have s03 := f03.size
  refine nend <| qsub (sub_cons (t := 6) rfl <| sub_cons (t := 5) rfl <| sub_cons (t := 4) rfl <| sub_cons (t := 0) rfl <| sub_cons (t := 1) rfl <| sub_nil) <| qthen <| cseq <| cseq <| creg <| nq (y_assign rfl) <| nend <| qthen <| cblock <| ?_
  refine cloop2 (fun i _ => k - i) (fun i _ => [(1, .bool (decide (dn = true))), (5, .int .i64 (k : Nat)), (6, .pointer (some ⟨g6, 0, none⟩)), (7, .int .i64 (i : Nat))]) (fun i v w' => i ≤ k ∧ i ≤ 4096 ∧ Fr No w w' ∧ Blk w' g6 61 (b8s (List.replicate 32 0) ++ [v]) ∧ Own w' w3.heap.size 23 32 v i (dc (run (sOf dn k i) i)) ∧ w3.heap.size ≤ w'.heap.size) 0 (.slice none 0 0) (⟨Nat.zero_le _, Nat.zero_le _, f03, hb3, Own.nil _ _ _ _, Nat.le_refl _⟩) (sub_cons (t := 1) rfl <| sub_cons (t := 5) rfl <| sub_cons (t := 6) rfl <| sub_cons (t := 7) rfl <| sub_nil) (fun i v w4 ⟨hik, hi96, hf4, hb4, ho4, s34⟩ => ?_)
  refine cseq <| cseq <| creg <| nq (y_move rfl) <| nq (y_move rfl) <| nq (y_lss rfl rfl) <| nend <| qsub (sub_cons (t := 17) rfl <| sub_cons (t := 1) rfl <| sub_cons (t := 5) rfl <| sub_cons (t := 6) rfl <| sub_cons (t := 7) rfl <| sub_nil) <| qthen <| ?_
  refine cif rfl (fun h => ?_) (fun h => ?_)
  · have hi : i < k := by omega
    obtain ⟨hm, hs, hnm, hlo, hhi⟩ := full_step (dn := dn) hk1 hk2 hi
    refine cskip <| qthen <| cseq <| cblock <| cseq <| creg <| nq (y_move rfl) <| nq (y_assign rfl) <| nend <| qsub (sub_cons (t := 8) rfl <| sub_cons (t := 17) rfl <| sub_cons (t := 1) rfl <| sub_cons (t := 5) rfl <| sub_cons (t := 6) rfl <| sub_cons (t := 7) rfl <| sub_nil) <| qthen <| cseq <| cseq <| creg <| nq (y_move rfl) <| nend <| qthen <| ?_
    refine ccut (ι := Unit) (fun _ => [(1, .bool (decide (dn = true))), (5, .int .i64 (k : Nat)), (6, .pointer (some ⟨g6, 0, none⟩)), (7, .int .i64 (i : Nat)), (8, .int .i64 (if dn = true then (k : Int) - 1 - (i : Int) else (i : Int)))]) (fun _ w' => w4 = w') ?_ (fun _ w5 hw5 => ?_)
    · skip
      refine cif rfl (fun hd => ?_) (fun hd => ?_)
      · refine creg <| nq (y_move rfl) <| nq (y_sub rfl rfl (w64 (by omega) (by omega))) <| nq (y_move rfl) <| nq (y_sub rfl rfl (w64 (by omega) (by omega))) <| nq (y_assign rfl) <| nend <| qsub (sub_cons (t := 8) rfl <| sub_cons (t := 21) rfl <| sub_cons (t := 17) rfl <| sub_cons (t := 1) rfl <| sub_cons (t := 5) rfl <| sub_cons (t := 6) rfl <| sub_cons (t := 7) rfl <| sub_nil) <| ?_
        rw [if_pos hd]
        exact qcut (()) (sub_cons (t := 1) rfl <| sub_cons (t := 5) rfl <| sub_cons (t := 6) rfl <| sub_cons (t := 7) rfl <| sub_cons (t := 8) rfl <| sub_nil) (rfl)
      · refine cskip <| ?_
        rw [if_neg hd]
        exact qcut (()) (sub_cons (t := 1) rfl <| sub_cons (t := 5) rfl <| sub_cons (t := 6) rfl <| sub_cons (t := 7) rfl <| sub_cons (t := 8) rfl <| sub_nil) (rfl)
    subst hw5
    refine qthen <| cseq <| ?_
    refine ccut (ι := Unit) (fun _ => [(1, .bool (decide (dn = true))), (5, .int .i64 (k : Nat)), (6, .pointer (some ⟨g6, 0, none⟩)), (7, .int .i64 (i : Nat)), (8, .int .i64 (mOf dn k i : Nat))]) (fun _ w' => w4 = w') ?_ (fun _ w6 hw6 => ?_)
    · skip
      refine cseq <| creg <| nq (y_move rfl) <| nq (y_move rfl) <| ?_
      refine nsplit 27 rfl (fun hd => ?_) (fun hd => ?_)
      · refine ng rfl rfl rfl (y_move rfl) <| ng rfl rfl rfl (y_lss rfl rfl) <| nq (y_pickT rfl rfl) <| nend <| qsub (sub_cons (t := 30) rfl <| sub_cons (t := 1) rfl <| sub_cons (t := 5) rfl <| sub_cons (t := 6) rfl <| sub_cons (t := 7) rfl <| sub_cons (t := 8) rfl <| sub_nil) <| qthen <| ?_
        refine cif rfl (fun h4 => ?_) (fun h4 => ?_)
        · refine creg <| nq (y_move rfl) <| nq (y_sub rfl rfl (w64 (by omega) (by omega))) <| nq (y_move rfl) <| nq (yV (y_add rfl rfl (w64 (by omega) (by omega))) ((show Value.int .i64 ((k : Int) - 4000 + (i : Int)) = .int .i64 ((mOf dn k i : Nat) : Int) by congr 1; simp only [mOf, if_pos hd, if_pos (show i < 4000 by omega)]; omega))) <| nq (y_assign rfl) <| nend <| qsub (sub_cons (t := 8) rfl <| sub_cons (t := 30) rfl <| sub_cons (t := 1) rfl <| sub_cons (t := 5) rfl <| sub_cons (t := 6) rfl <| sub_cons (t := 7) rfl <| sub_nil) <| ?_
          exact qcut (()) (sub_cons (t := 1) rfl <| sub_cons (t := 5) rfl <| sub_cons (t := 6) rfl <| sub_cons (t := 7) rfl <| sub_cons (t := 8) rfl <| sub_nil) (rfl)
        · refine cskip <| ?_
          rw [show (if dn = true then (k : Int) - 1 - (i : Int) else (i : Int)) = ((mOf dn k i : Nat) : Int) by simp only [mOf, if_pos hd, if_neg (show ¬ i < 4000 by omega)]; omega]
          exact qcut (()) (sub_cons (t := 1) rfl <| sub_cons (t := 5) rfl <| sub_cons (t := 6) rfl <| sub_cons (t := 7) rfl <| sub_cons (t := 8) rfl <| sub_nil) (rfl)
      · refine nskip rfl rfl rfl (by decide) <| nskip rfl rfl rfl (by decide) <| nq (y_pickF rfl rfl) <| nend <| qsub (sub_cons (t := 30) rfl <| sub_cons (t := 1) rfl <| sub_cons (t := 5) rfl <| sub_cons (t := 6) rfl <| sub_cons (t := 7) rfl <| sub_cons (t := 8) rfl <| sub_nil) <| qthen <| ?_
        refine ciff rfl (rfl) ?_
        refine cskip <| ?_
        rw [show (if dn = true then (k : Int) - 1 - (i : Int) else (i : Int)) = ((mOf dn k i : Nat) : Int) by simp only [mOf, if_neg hd]]
        exact qcut (()) (sub_cons (t := 1) rfl <| sub_cons (t := 5) rfl <| sub_cons (t := 6) rfl <| sub_cons (t := 7) rfl <| sub_cons (t := 8) rfl <| sub_nil) (rfl)
    subst hw6
    have hD := run_D32 (sOf dn k i) i
    have s4 := hf4.size
    have hmI := hm
    have e1 : IntKind.u8.wrap (((mOf dn k i : Nat) : Int) / 256) = ((UInt8.ofNat (mOf dn k i / 256)).toNat : Int) := by simp [IntKind.wrap, IntKind.signed, IntKind.bits]
    have e2 : IntKind.u8.wrap (((mOf dn k i : Nat) : Int) % 256) = ((UInt8.ofNat (mOf dn k i % 256)).toNat : Int) := by simp [IntKind.wrap, IntKind.signed, IntKind.bits]
    have gl := dg_length (mOf dn k i)
    have gl2 : (b8s (dg (mOf dn k i))).length = 32 := by rw [b8s_length]; exact gl
    generalize hM : mOf dn k i = M at *
    refine qthen <| cseq <| cseq <| creg <| nq (y_move rfl) <| nq (y_lss rfl rfl) <| nend <| qsub (sub_cons (t := 36) rfl <| sub_cons (t := 1) rfl <| sub_cons (t := 5) rfl <| sub_cons (t := 6) rfl <| sub_cons (t := 7) rfl <| sub_cons (t := 8) rfl <| sub_nil) <| qthen <| ?_
    refine cif rfl (fun h4 => ?_) (fun h4 => ?_)
    · refine cseq <| creg <| nq (y_fld rfl fa61_1 (by decide)) <| nq (y_ld1 rfl ag54 (j_s hb4 z32)) <| nq (y_move rfl) <| nq (y_quo rfl rfl (by omega) (by omega) (w64 (by omega) (by omega))) <| nq (y_conv rfl Try.underlying3 Try.underlying5 e1) <| nq (y_move rfl) <| nq (y_rem rfl rfl (by omega) (by omega)) <| nq (y_conv rfl Try.underlying3 Try.underlying5 e2) <| nq (y_build ti23 rfl rfl (by kernel_rfl) ((bldD2 _ _))) <| ?_
      refine nx (x_bsl Try.underlying54 ti23 rfl rfl rfl (by simp [Value.cells]; exact gl2) (by decide) (by decide) fun g7 w7 hg7 hf7 hb7 => ?_)
      have hb7 : Blk w7 g7 23 (dc [dg M]) := by simpa [Value.cells, dc, dg] using hb7
      refine nx (x_app rfl rfl Try.underlying54 Try.underlying54 (by exact .inl rfl) ti23 rfl (ho4.fr0 hf7) (Src.of_blk hb7 (by rw [dc_one, gl2])) dc_oneCell (by unfold maxLen; omega) (by omega) (by have := hf7.size; omega) fun v8 w8 ho8 hf8 hv8 => ?_)
      rw [← dc_append, hlo (by omega)] at ho8
      have b8 := (hb4.fr0 hf7).fr hf8 (fun hv => by have := (ho4.from hv).1; omega)
      have f8 : Fr No w w8 := (hf4.trans0 hf7).new hf8 (fun j hj => by have := (ho4.from hj).1; omega)
      obtain ⟨ov8, _⟩ := own_slice1 ho8
      refine nq (y_fld rfl fa61_1 (by decide)) <| ?_
      refine nx0 (x_st1a rfl rfl sz54 ov8 b8 (by rw [j_len z32]; decide) fun w9 hf9 b9 hs9 => ?_)
      rw [Nat.zero_add, j_set z32] at b9
      refine nend <| qsub (sub_cons (t := 36) rfl <| sub_cons (t := 1) rfl <| sub_cons (t := 5) rfl <| sub_cons (t := 6) rfl <| sub_cons (t := 7) rfl <| sub_cons (t := 8) rfl <| sub_nil) <| qthen <| cexit <| qthen_exit <| qblock_exit <| qthen <| creg <| nq (y_move rfl) <| nq (y_add rfl rfl (w64 (by omega) (by omega))) <| nq (y_assign rfl) <| nend <| qsub (sub_cons (t := 7) rfl <| sub_cons (t := 36) rfl <| sub_cons (t := 1) rfl <| sub_cons (t := 5) rfl <| sub_cons (t := 6) rfl <| sub_cons (t := 8) rfl <| sub_nil) <| ?_
      refine qloop2 (i + 1) v8 (sub_cons (t := 1) rfl <| sub_cons (t := 5) rfl <| sub_cons (t := 6) rfl <| sub_cons (t := 7) rfl <| sub_nil) (⟨by omega, by omega, f8.new hf9 (fun j hj => by omega), b9, ho8.fr hf9 (fun j hj => by have := (ho8.from hj).1; omega), by have := hf7.size; have := hf8.size; omega⟩) (by omega)
    · obtain ⟨A4, c4, rfl, hc4⟩ := ho4.slice
      have r4 := (Own.rd ho4).2.2
      have hR := run_rise hs
      refine cskip <| qthen <| cseq <| creg <| nq (y_ldN rfl ag61 sz61 ((j_len z32)) hb4.cells0) <| nq (y_move rfl) <| nq (y_quo rfl rfl (by omega) (by omega) (w64 (by omega) (by omega))) <| nq (y_conv rfl Try.underlying3 Try.underlying5 e1) <| nq (y_move rfl) <| nq (y_rem rfl rfl (by omega) (by omega)) <| nq (y_conv rfl Try.underlying3 Try.underlying5 e2) <| nq (y_build ti23 rfl rfl (by kernel_rfl) ((bldD2 _ _))) <| ?_
      by_cases hfu : i < 4096
      · refine nx (x_call rfl Try.call31 (add_ok (List.replicate 32 0) A4 i c4 (run (sOf dn k i) i) (dg M) _ z32 r4 hD hR gl hfu) ?_)
        rintro e_ w7 ⟨v7, rfl, ho7, hf7⟩
        refine ⟨_, rfl, ?_⟩
        rw [hhi (by omega)] at ho7
        obtain ⟨ov7, _⟩ := own_slice1 ho7
        have s7 := hf7.size
        refine nq (y_move rfl) <| nq (y_extract rfl rfl) <| nq (y_extract rfl rfl) <| ?_
        refine nx (x_alloc ti61 fun g8 w8 hg8 hf8 hb8 => ?_)
        refine nx0 (x_stA rfl rfl sz61 (j_len z32) (j_one ov7) hb8 rfl fun w9 hf9 hb9 hs9 => ?_)
        have f49 : Fr No w4 w9 := (hf7.trans0 hf8).new hf9 (fun j hj => by omega)
        have ho9 := (ho7.fr0 hf8).fr hf9 (fun j hj => by have := (ho7.from hj).2; omega)
        have b49 := hb4.fr0 f49
        have hfi : (i : Int) < 4096 := by omega
        refine nq (y_assign rfl) <| nend <| qsub (sub_cons (t := 10) rfl <| sub_cons (t := 9) rfl <| sub_cons (t := 36) rfl <| sub_cons (t := 1) rfl <| sub_cons (t := 5) rfl <| sub_cons (t := 6) rfl <| sub_cons (t := 7) rfl <| sub_cons (t := 8) rfl <| sub_nil) <| qthen <| cseq <| cseq <| creg <| nq (y_move rfl) <| nq (y_eql rfl rfl) <| nq (y_move rfl) <| nq (y_lss rfl rfl) <| nq (yF (y_bne Try.underlying4 rfl rfl) ((by simp [hfi]))) <| nend <| qsub (sub_cons (t := 65) rfl <| sub_cons (t := 10) rfl <| sub_cons (t := 9) rfl <| sub_cons (t := 36) rfl <| sub_cons (t := 1) rfl <| sub_cons (t := 5) rfl <| sub_cons (t := 6) rfl <| sub_cons (t := 7) rfl <| sub_cons (t := 8) rfl <| sub_nil) <| qthen <| ?_
        refine ciff rfl (rfl) ?_
        refine cskip <| qthen <| cseq <| cseq <| creg <| nq (y_move rfl) <| nq (y_neq rfl rfl) <| nend <| qsub (sub_cons (t := 67) rfl <| sub_cons (t := 65) rfl <| sub_cons (t := 10) rfl <| sub_cons (t := 9) rfl <| sub_cons (t := 36) rfl <| sub_cons (t := 1) rfl <| sub_cons (t := 5) rfl <| sub_cons (t := 6) rfl <| sub_cons (t := 7) rfl <| sub_cons (t := 8) rfl <| sub_nil) <| qthen <| ?_
        refine ciff rfl ((decide_eq_false (fun h => h rfl) : decide (¬ (0 : Int) = 0) = false)) ?_
        refine cskip <| qthen <| creg <| nq (y_ldN rfl ag61 sz61 ((j_len z32)) hb9.cells0) <| ?_
        refine nx0 (x_stA rfl rfl sz61 (j_len z32) (j_one ov7) b49 (j_len z32) fun w10 hf10 hb10 hs10 => ?_)
        refine nend <| qsub (sub_cons (t := 67) rfl <| sub_cons (t := 65) rfl <| sub_cons (t := 10) rfl <| sub_cons (t := 9) rfl <| sub_cons (t := 36) rfl <| sub_cons (t := 1) rfl <| sub_cons (t := 5) rfl <| sub_cons (t := 6) rfl <| sub_cons (t := 7) rfl <| sub_cons (t := 8) rfl <| sub_nil) <| qblock <| qthen <| creg <| nq (y_move rfl) <| nq (y_add rfl rfl (w64 (by omega) (by omega))) <| nq (y_assign rfl) <| nend <| qsub (sub_cons (t := 7) rfl <| sub_cons (t := 67) rfl <| sub_cons (t := 65) rfl <| sub_cons (t := 10) rfl <| sub_cons (t := 9) rfl <| sub_cons (t := 36) rfl <| sub_cons (t := 1) rfl <| sub_cons (t := 5) rfl <| sub_cons (t := 6) rfl <| sub_cons (t := 8) rfl <| sub_nil) <| ?_
        rw [run_length] at ho9
        have ho10 := (ho9.wide (b := w3.heap.size) (by omega)).fr hf10 (fun j hj => by have := (ho7.from hj).1; omega)
        refine qloop2 (i + 1) v7 (sub_cons (t := 1) rfl <| sub_cons (t := 5) rfl <| sub_cons (t := 6) rfl <| sub_cons (t := 7) rfl <| sub_nil) (⟨by omega, by omega, (hf4.trans0 f49).new hf10 (fun j hj => by omega), hb10, ho10, by have := f49.size; omega⟩) (by omega)
      · have h96 : i = 4096 := by omega
        refine nx (x_call rfl Try.call31 (add_full (List.replicate 32 0) A4 i c4 (run (sOf dn k i) i) (dg M) _ z32 r4 hD hR gl (by omega) (by omega) hnm) ?_)
        rintro e_ w7 ⟨rfl, hf7⟩
        refine ⟨_, rfl, ?_⟩
        refine nq (y_move rfl) <| nq (y_extract rfl rfl) <| nq (y_extract rfl rfl) <| ?_
        refine nx (x_alloc ti61 fun g8 w8 hg8 hf8 hb8 => ?_)
        refine nx0 (x_stA rfl rfl sz61 (j_len z32) (j_one (s := .slice none 0 0) rfl) hb8 rfl fun w9 hf9 hb9 hs9 => ?_)
        have s7 := hf7.size
        have f49 : Fr No w4 w9 := (hf7.trans0 hf8).new hf9 (fun j hj => by omega)
        have b49 := hb4.fr0 f49
        have hJ : JMay (run (sOf dn k i) i) := ⟨hR, by rw [run_length]; omega⟩
        have hfi : ¬ (i : Int) < 4096 := by omega
        refine nq (y_assign rfl) <| nend <| qsub (sub_cons (t := 10) rfl <| sub_cons (t := 9) rfl <| sub_cons (t := 36) rfl <| sub_cons (t := 1) rfl <| sub_cons (t := 5) rfl <| sub_cons (t := 6) rfl <| sub_cons (t := 7) rfl <| sub_cons (t := 8) rfl <| sub_nil) <| qthen <| cseq <| cseq <| creg <| nq (y_move rfl) <| nq (y_eql rfl rfl) <| nq (y_move rfl) <| nq (y_lss rfl rfl) <| nq (yF (y_bne Try.underlying4 rfl rfl) ((by simp [hfi]))) <| nend <| qsub (sub_cons (t := 65) rfl <| sub_cons (t := 10) rfl <| sub_cons (t := 9) rfl <| sub_cons (t := 36) rfl <| sub_cons (t := 1) rfl <| sub_cons (t := 5) rfl <| sub_cons (t := 6) rfl <| sub_cons (t := 7) rfl <| sub_cons (t := 8) rfl <| sub_nil) <| qthen <| ?_
        refine ciff rfl (rfl) ?_
        refine cskip <| qthen <| cseq <| cseq <| creg <| nq (y_move rfl) <| nq (y_neq rfl rfl) <| nend <| qsub (sub_cons (t := 67) rfl <| sub_cons (t := 65) rfl <| sub_cons (t := 10) rfl <| sub_cons (t := 9) rfl <| sub_cons (t := 36) rfl <| sub_cons (t := 1) rfl <| sub_cons (t := 5) rfl <| sub_cons (t := 6) rfl <| sub_cons (t := 7) rfl <| sub_cons (t := 8) rfl <| sub_nil) <| qthen <| ?_
        refine cift rfl ((decide_eq_true (by decide) : decide (¬ (5 : Int) = 0) = true)) ?_
        refine cseq <| creg <| nq (y_move rfl) <| nq (yT (y_eql rfl rfl) (decide_eq_true rfl)) <| nq (y_move rfl) <| ng rfl rfl rfl (y_fld rfl fa61_1 (by decide)) <| ng rfl rfl rfl (y_ld1 rfl ag54 (j_s hb9 z32)) <| ng rfl rfl rfl (y_lenS rfl Try.underlying54) <| ng rfl rfl rfl (yT (y_eql rfl rfl) (decide_eq_true rfl)) <| nq (y_pickT rfl rfl) <| nq (y_move rfl) <| ng rfl rfl rfl (y_ldN rfl ag61 sz61 ((j_len z32)) b49.cells0) <| ?_
        refine nxg rfl rfl rfl (x_call rfl Try.call28 (may (List.replicate 32 0) A4 i c4 (run (sOf dn k i) i) _ z32 (r4.fr0 f49) hD (by omega)) ?_)
        rintro e_ w10 ⟨rfl, hf10⟩
        refine ⟨_, rfl, ?_⟩
        rw [decide_eq_true hJ]
        refine nq (y_pickT rfl rfl) <| nq (y_move rfl) <| ?_
        refine nxg rfl rfl rfl (x_call rfl Try.call30 (lives17 _) ?_)
        rintro e_ w11 ⟨rfl, hf11⟩
        refine ⟨_, rfl, ?_⟩
        refine nq (y_pickT rfl rfl) <| nq (y_assign rfl) <| nend <| qsub (sub_cons (t := 4) rfl <| sub_cons (t := 67) rfl <| sub_cons (t := 65) rfl <| sub_cons (t := 10) rfl <| sub_cons (t := 9) rfl <| sub_cons (t := 36) rfl <| sub_cons (t := 1) rfl <| sub_cons (t := 5) rfl <| sub_cons (t := 6) rfl <| sub_cons (t := 7) rfl <| sub_cons (t := 8) rfl <| sub_nil) <| qthen <| cret <| qthen_ret <| qblock_ret <| qthen_ret <| qthen_ret <| qblock_ret <| qthen_ret <| ?_
        exact ret1 trivial rfl rfl ⟨rfl, ((hf4.trans0 f49).trans0 hf10).trans0 hf11⟩
  · obtain ⟨A4, c4, rfl, hc4⟩ := ho4.slice
    have r4 := (Own.rd ho4).2.2
    obtain rfl : i = k := by omega
    have hR : Rise (run (sOf dn i i) i) := run_rise (by unfold sOf; split <;> (try split) <;> omega)
    have hJ : JMay (run (sOf dn i i) i) := ⟨hR, by rw [run_length]; omega⟩
    refine cexit <| qthen_exit <| qthen_exit <| qblock_exit <| qthen <| cseq <| creg <| nq (y_fld rfl fa61_1 (by decide)) <| nq (y_ld1 rfl ag54 (j_s hb4 z32)) <| nq (y_lenS rfl Try.underlying54) <| nq (y_move rfl) <| nq (yT (y_eql rfl rfl) (decide_eq_true rfl)) <| nq (y_move rfl) <| ng rfl rfl rfl (y_ldN rfl ag61 sz61 ((j_len z32)) hb4.cells0) <| ?_
    refine nxg rfl rfl rfl (x_call rfl Try.call28 (may (List.replicate 32 0) A4 i c4 (run (sOf dn i i) i) _ z32 r4 (run_D32 _ _) (by omega)) ?_)
    rintro e_ w5 ⟨rfl, hf5⟩
    refine ⟨_, rfl, ?_⟩
    rw [decide_eq_true hJ]
    refine nq (y_pickT rfl rfl) <| nq (y_move rfl) <| ?_
    refine nxg rfl rfl rfl (x_call rfl Try.call30 (lives17 _) ?_)
    rintro e_ w6 ⟨rfl, hf6⟩
    refine ⟨_, rfl, ?_⟩
    refine nq (y_pickT rfl rfl) <| nq (y_assign rfl) <| nend <| qsub (sub_cons (t := 4) rfl <| sub_cons (t := 17) rfl <| sub_cons (t := 1) rfl <| sub_cons (t := 5) rfl <| sub_cons (t := 6) rfl <| sub_cons (t := 7) rfl <| sub_nil) <| qthen <| cret <| ?_
    exact ret1 trivial rfl rfl ⟨rfl, (hf4.trans0 hf5).trans0 hf6⟩
end Go.Proofs.Ytpcgpnijhpcbeaa
