/- Contracts: the references' Text, Parse; hexa.Parse. -/
import Derived.Test.YtkicnomekojafaaHexa2
set_option linter.unusedVariables false
set_option linter.unusedSimpArgs false
namespace Go.Proofs.Ytkicnomekojafaa
open Go.Eng Go.Hx
theorem rtext (A : Option Addr) (n c : Nat) (l : List UInt8) (w : World) (hr : Rd w 1 A n (b8s l)) (hn : n ≤ 70368744177664) :
    Calls Try.prog 17 #[.slice A n c] w fun e w' => e = .returned (.string (strOf (hexs l))) ∧ Fr No w w' := by
  have hl : l.length = n := by have := hr.1; rw [b8s_length] at this; omega
  refine enter (N := 40) Try.func17 rfl rfl (by simp) ?_
  refine cseq <| creg <| nq (y_assign rfl) <| nend <| qthen <| cseq <| creg <| nq (y_assign rfl) <| nend <| qthen <| cseq <| creg <| nq (y_assign rfl) <| nend <| qthen <| cseq <| cseq <| creg <| nq (y_assign rfl) <| nend <| qthen <| cblock <| ?_
  refine cloop1 (fun k => n - k) (fun k => [(0, .slice A n c), (3, .string ⟨#[48, 49, 50, 51, 52, 53, 54, 55, 56, 57, 97, 98, 99, 100, 101, 102]⟩), (4, .string (strOf (hexs (l.take k)))), (5, .int .i64 (k : Nat))]) (fun k w' => k ≤ n ∧ Fr No w w') 0 (⟨Nat.zero_le _, Fr.refl _ _⟩) (sub_cons (t := 0) rfl <| sub_cons (t := 3) rfl <| sub_cons (t := 4) rfl <| sub_cons (t := 5) rfl <| sub_nil) (fun k w1 ⟨hk, hf⟩ => ?_)
  refine cseq <| cseq <| creg <| nq (y_move rfl) <| nq (y_move rfl) <| nq (y_lenS rfl Try.underlying22) <| nq (y_lss rfl rfl) <| nend <| qsub (sub_cons (t := 11) rfl <| sub_cons (t := 0) rfl <| sub_cons (t := 3) rfl <| sub_cons (t := 4) rfl <| sub_cons (t := 5) rfl <| sub_nil) <| qthen <| ?_
  refine cif rfl (fun h => ?_) (fun h => ?_)
  · have hkn : k < n := by omega
    have hb := (l.getD k 0).toNat_lt
    have hr1 := hr.fr0 hf
    refine cskip <| qthen <| cseq <| cblock <| cseq <| creg <| nq (y_move rfl) <| nq (y_move rfl) <| nq (y_idxS1 rfl rfl Try.underlying22 sz5 hr.2.1 rfl (by omega)) <| nq (y_ld1 rfl ag5 (hr1.cell (b8s_get (by omega)))) <| nq (y_conv rfl Try.underlying5 Try.underlying3 ((wb8 _))) <| nq (y_quo rfl rfl (by omega) (by omega) (w64 (by omega) (by omega))) <| nq (y_assign rfl) <| nend <| qsub (sub_cons (t := 6) rfl <| sub_cons (t := 11) rfl <| sub_cons (t := 0) rfl <| sub_cons (t := 3) rfl <| sub_cons (t := 4) rfl <| sub_cons (t := 5) rfl <| sub_nil) <| qthen <| cseq <| creg <| nq (y_move rfl) <| nq (y_move rfl) <| nq (y_idxS1 rfl rfl Try.underlying22 sz5 hr.2.1 rfl (by omega)) <| nq (y_ld1 rfl ag5 (hr1.cell (b8s_get (by omega)))) <| nq (y_conv rfl Try.underlying5 Try.underlying3 ((wb8 _))) <| nq (y_rem rfl rfl (by omega) (by omega)) <| nq (y_assign rfl) <| nend <| qsub (sub_cons (t := 7) rfl <| sub_cons (t := 6) rfl <| sub_cons (t := 11) rfl <| sub_cons (t := 0) rfl <| sub_cons (t := 3) rfl <| sub_cons (t := 4) rfl <| sub_cons (t := 5) rfl <| sub_nil) <| qthen <| ?_
    have hll := hexs_length (l.take k)
    have htl : (l.take k).length ≤ k := List.length_take_le _ _
    refine cdrw [(0, false), (1, false), (2, false), (3, false), (4, false), (5, false), (6, false), (7, false), (8, false), (9, false), (10, false), (11, false), (12, false), (13, false)] (by kernel_rfl) (by kernel_rfl) rfl (fun w' => Fr No w w') (hf.trans0 (Fr.drew _)) (fun w2 hf2 hS2 => ?_)
    refine sq (fun w_ hS_ => y_move rfl) <| sq (fun w_ hS_ => y_move rfl) <| sq (fun w_ hS_ => y_move rfl) <| sq (fun w_ hS_ => y_move rfl) <| sq (fun w_ hS_ => y_add rfl rfl (w64 (by omega) (by omega))) <| sq (fun w_ hS_ => y_strBoth rfl rfl rfl Try.underlying9 (show (((l.getD k 0).toNat / 16 : Nat) : Int) = _ by omega) (show (((l.getD k 0).toNat / 16 + 1 : Nat) : Int) = _ by omega) ((by omega)) ((by show _ ≤ 16; omega))) <| sq (fun w_ hS_ => y_sadd rfl rfl ((by simp [strOf_size]; omega))) <| sq (fun w_ hS_ => y_move rfl) <| sq (fun w_ hS_ => y_move rfl) <| sq (fun w_ hS_ => y_move rfl) <| sq (fun w_ hS_ => y_add rfl rfl (w64 (by omega) (by omega))) <| sq (fun w_ hS_ => y_strBoth rfl rfl rfl Try.underlying9 (show (((l.getD k 0).toNat % 16 : Nat) : Int) = _ by omega) (show (((l.getD k 0).toNat % 16 + 1 : Nat) : Int) = _ by omega) ((by omega)) ((by show _ ≤ 16; omega))) <| sq (fun w_ hS_ => yV (y_sadd rfl rfl ((by simp [strOf_size, ByteArray.size_append]; omega))) (congrArg Value.string (hexs_step (by omega)))) <| sq (fun w_ hS_ => y_assign rfl) <| send <| qsub (sub_cons (t := 4) rfl <| sub_cons (t := 7) rfl <| sub_cons (t := 6) rfl <| sub_cons (t := 11) rfl <| sub_cons (t := 0) rfl <| sub_cons (t := 3) rfl <| sub_cons (t := 5) rfl <| sub_nil) <| qblock <| qthen <| creg <| nq (y_move rfl) <| nq (y_add rfl rfl (w64 (by omega) (by omega))) <| nq (y_assign rfl) <| nend <| qsub (sub_cons (t := 5) rfl <| sub_cons (t := 4) rfl <| sub_cons (t := 7) rfl <| sub_cons (t := 6) rfl <| sub_cons (t := 11) rfl <| sub_cons (t := 0) rfl <| sub_cons (t := 3) rfl <| sub_nil) <| ?_
    refine qloop1 (k + 1) (sub_cons (t := 0) rfl <| sub_cons (t := 3) rfl <| sub_cons (t := 4) rfl <| sub_cons (t := 5) rfl <| sub_nil) (⟨by omega, hS2⟩) (by omega)
  · obtain rfl : k = n := by omega
    refine cexit <| qthen_exit <| qthen_exit <| qblock_exit <| qthen <| cseq <| creg <| nq (y_move rfl) <| nq (y_assign rfl) <| nend <| qsub (sub_cons (t := 2) rfl <| sub_cons (t := 11) rfl <| sub_cons (t := 0) rfl <| sub_cons (t := 3) rfl <| sub_cons (t := 4) rfl <| sub_cons (t := 5) rfl <| sub_nil) <| qthen <| cret <| ?_
    refine ret1 trivial rfl rfl ⟨?_, hf⟩
    rw [List.take_of_length_le (by omega)]
/-- what Parse tells -/
def parsed (w : World) (s : List UInt8) (v : Value) (w' : World) : Prop :=
  match unhex s with
  | some x => ∃ u, v = .tuple #[u, .int .i64 0] ∧ Own w' w.heap.size 5 1 u x.length (b8s x)
  | none => v = .tuple #[.slice none 0 0, .int .i64 2]
theorem rparse (s : List UInt8) (w : World) (hs : s.length ≤ 140737488351232) :
    Calls Try.prog 19 #[.string (strOf s)] w fun e w' => (∃ v, e = .returned v ∧ parsed w s v w') ∧ Fr No w w' := by
  have hsz : (strOf s).size = s.length := strOf_size s
  refine enter (N := 43) Try.func19 rfl rfl (by simp) ?_
  refine cseq <| creg <| nq (y_assign rfl) <| nq (y_assign rfl) <| nend <| qthen <| cseq <| cseq <| creg <| nq (y_move rfl) <| nq (y_lenStr rfl Try.underlying9) <| nq (y_rem rfl rfl (by omega) (by omega)) <| nq (y_eql rfl rfl) <| nend <| qsub (sub_cons (t := 11) rfl <| sub_cons (t := 3) rfl <| sub_cons (t := 2) rfl <| sub_cons (t := 0) rfl <| sub_nil) <| qthen <| ?_
  refine cif rfl (fun h => ?_) (fun h => ?_)
  · refine cseq <| creg <| nq (y_assign rfl) <| nq (y_assign rfl) <| nend <| qthen <| cret <| qthen_ret <| ?_
    refine ret2 trivial rfl rfl rfl ⟨⟨_, rfl, ?_⟩, Fr.refl _ _⟩
    rw [parsed, unhex_odd s (by omega)]
  · refine cskip <| qthen <| cseq <| creg <| nq (y_assign rfl) <| nend <| qthen <| cseq <| cseq <| creg <| nq (y_assign rfl) <| nend <| qthen <| cblock <| ?_
    refine cloop3 (fun k _ _ => s.length - 2 * k) (fun k v _ => [(0, .string (strOf s)), (4, v), (5, .int .i64 (2 * (k : Nat) : Int))]) (fun k v x w' => 2 * k ≤ s.length ∧ unhex (s.take (2 * k)) = some x ∧ Own w' w.heap.size 5 1 v k (b8s x) ∧ Fr No w w') 0 (.slice none 0 0) [] (⟨Nat.zero_le _, rfl, Own.nil w w.heap.size _ 1, Fr.refl _ _⟩) (sub_cons (t := 0) rfl <| sub_cons (t := 4) rfl <| sub_cons (t := 5) rfl <| sub_nil) (fun k v x w1 ⟨hk, hx, ho, hf⟩ => ?_)
    refine cseq <| cseq <| creg <| nq (y_move rfl) <| nq (y_add rfl rfl (w64 (by omega) (by omega))) <| nq (y_move rfl) <| nq (y_lenStr rfl Try.underlying9) <| nq (y_lss rfl rfl) <| nend <| qsub (sub_cons (t := 16) rfl <| sub_cons (t := 0) rfl <| sub_cons (t := 4) rfl <| sub_cons (t := 5) rfl <| sub_nil) <| qthen <| ?_
    refine cif rfl (fun h2 => ?_) (fun h2 => ?_)
    · have hk2 : 2 * k + 1 < s.length := by omega
      have hd1 := dig_range (s.getD (2 * k) 0)
      have hd2 := dig_range (s.getD (2 * k + 1) 0)
      have hlen : (s.take (2 * k)).length = 2 * k := by simp; omega
      have hsn := unhex_snoc (s.take (2 * k)) k (s.getD (2 * k) 0) (s.getD (2 * k + 1) 0) x hlen hx
      rw [← take_two hk2] at hsn
      have hno : (dig (s.getD (2 * k) 0) < 0 ∨ dig (s.getD (2 * k + 1) 0) < 0) → unhex s = none := fun hn => by
        rw [if_pos hn] at hsn
        have := unhex_none_append _ (s.drop (2 * (k + 1))) (k + 1) (by simp; omega) hsn
        rwa [List.take_append_drop] at this
      refine cskip <| qthen <| cseq <| cblock <| cseq <| creg <| nq (y_move rfl) <| nq (y_move rfl) <| nq (y_idxStr rfl rfl Try.underlying9 (show ((2 * k : Nat) : Int) = _ by omega) (strOf_at (by omega))) <| ?_
      refine nx (x_call rfl Try.call27 (digit_c _ w1) ?_)
      rintro e_ w2 ⟨rfl, rfl⟩
      refine ⟨_, rfl, ?_⟩
      refine nq (y_assign rfl) <| nend <| qsub (sub_cons (t := 6) rfl <| sub_cons (t := 16) rfl <| sub_cons (t := 0) rfl <| sub_cons (t := 4) rfl <| sub_cons (t := 5) rfl <| sub_nil) <| qthen <| cseq <| creg <| nq (y_move rfl) <| nq (y_move rfl) <| nq (y_add rfl rfl (w64 (by omega) (by omega))) <| nq (y_idxStr rfl rfl Try.underlying9 (show ((2 * k + 1 : Nat) : Int) = _ by omega) (strOf_at (by omega))) <| ?_
      refine nx (x_call rfl Try.call27 (digit_c _ w1) ?_)
      rintro e_ w2 ⟨rfl, rfl⟩
      refine ⟨_, rfl, ?_⟩
      refine nq (y_assign rfl) <| nend <| qsub (sub_cons (t := 7) rfl <| sub_cons (t := 6) rfl <| sub_cons (t := 16) rfl <| sub_cons (t := 0) rfl <| sub_cons (t := 4) rfl <| sub_cons (t := 5) rfl <| sub_nil) <| qthen <| cseq <| cseq <| creg <| nq (y_move rfl) <| nq (y_lss rfl rfl) <| nq (y_move rfl) <| ?_
      refine nsplit 30 rfl (fun h3 => ?_) (fun h3 => ?_)
      · refine nskip rfl rfl rfl (by decide) <| nskip rfl rfl rfl (by decide) <| nq (y_pickT rfl rfl) <| nend <| qsub (sub_cons (t := 33) rfl <| sub_cons (t := 7) rfl <| sub_cons (t := 6) rfl <| sub_cons (t := 16) rfl <| sub_cons (t := 0) rfl <| sub_cons (t := 4) rfl <| sub_cons (t := 5) rfl <| sub_nil) <| qthen <| ?_
        refine cift rfl (rfl) ?_
        refine cseq <| creg <| nq (y_assign rfl) <| nq (y_assign rfl) <| nend <| qthen <| cret <| qthen_ret <| qblock_ret <| qthen_ret <| qthen_ret <| qblock_ret <| qthen_ret <| ?_
        refine ret2 trivial rfl rfl rfl ⟨⟨_, rfl, ?_⟩, hf⟩
        rw [parsed, hno (.inl h3)]
      · refine ng rfl rfl rfl (y_move rfl) <| ng rfl rfl rfl (y_lss rfl rfl) <| nq (y_pickF rfl rfl) <| nend <| qsub (sub_cons (t := 33) rfl <| sub_cons (t := 7) rfl <| sub_cons (t := 6) rfl <| sub_cons (t := 16) rfl <| sub_cons (t := 0) rfl <| sub_cons (t := 4) rfl <| sub_cons (t := 5) rfl <| sub_nil) <| qthen <| ?_
        refine cif rfl (fun h4 => ?_) (fun h4 => ?_)
        · refine cseq <| creg <| nq (y_assign rfl) <| nq (y_assign rfl) <| nend <| qthen <| cret <| qthen_ret <| qblock_ret <| qthen_ret <| qthen_ret <| qblock_ret <| qthen_ret <| ?_
          refine ret2 trivial rfl rfl rfl ⟨⟨_, rfl, ?_⟩, hf⟩
          rw [parsed, hno (.inr h4)]
        · refine cskip <| qthen <| creg <| nq (y_move rfl) <| nq (y_move rfl) <| nq (y_mul rfl rfl (w64 (by omega) (by omega))) <| nq (y_move rfl) <| nq (y_add rfl rfl (w64 (by omega) (by omega))) <| nq (y_conv rfl Try.underlying3 Try.underlying5 (wrapU8 (ofDigs _ _ (by omega) (by omega)))) <| ?_
          refine nx (x_bsl Try.underlying22 ti5 rfl rfl rfl (by simp [Value.cells]) (by decide) (by decide) fun g w3 hg hf3 hb3 => ?_)
          refine nx (x_app rfl rfl Try.underlying22 Try.underlying22 (by exact .inl rfl) ti5 rfl (ho.fr0 hf3) (Src.of_blk hb3 rfl) (b8s_one (l := [_])) (by unfold maxLen; omega) (by omega) (Nat.le_trans hf.size hf3.size) fun v4 w4 ho4 hf4 hv4 => ?_)
          refine nq (y_assign rfl) <| nend <| qsub (sub_cons (t := 4) rfl <| sub_cons (t := 33) rfl <| sub_cons (t := 7) rfl <| sub_cons (t := 6) rfl <| sub_cons (t := 16) rfl <| sub_cons (t := 0) rfl <| sub_cons (t := 5) rfl <| sub_nil) <| qblock <| qthen <| creg <| nq (y_move rfl) <| nq (y_add rfl rfl (w64 (by omega) (by omega))) <| nq (y_assign rfl) <| nend <| qsub (sub_cons (t := 5) rfl <| sub_cons (t := 4) rfl <| sub_cons (t := 33) rfl <| sub_cons (t := 7) rfl <| sub_cons (t := 6) rfl <| sub_cons (t := 16) rfl <| sub_cons (t := 0) rfl <| sub_nil) <| ?_
          rw [if_neg (by omega)] at hsn
          refine qloop3 (k + 1) v4 _ (sub_cons (t := 0) rfl <| sub_cons (t := 4) rfl <| sub_cons (t := 5) ?_ <| sub_nil) ⟨by omega, hsn, ?_, (hf.trans0 hf3).new hf4 (fun i hi => (ho.from hi).1)⟩ (by omega)
          · show some (Value.int .i64 (2 * (k : Int) + 2)) = some (Value.int .i64 (2 * ((k + 1 : Nat) : Int)))
            rw [show (2 * (k : Int) + 2) = 2 * ((k + 1 : Nat) : Int) by omega]
          · rw [b8s_append]; exact ho4
    · refine cexit <| qthen_exit <| qthen_exit <| qblock_exit <| qthen <| cseq <| creg <| nq (y_move rfl) <| nq (y_assign rfl) <| nq (y_assign rfl) <| nend <| qsub (sub_cons (t := 3) rfl <| sub_cons (t := 2) rfl <| sub_cons (t := 16) rfl <| sub_cons (t := 0) rfl <| sub_cons (t := 4) rfl <| sub_cons (t := 5) rfl <| sub_nil) <| qthen <| cret <| ?_
      refine ret2 trivial rfl rfl rfl ⟨⟨_, rfl, ?_⟩, hf⟩
      rw [List.take_of_length_le (by omega)] at hx
      have hxl := unhex_length s x hx
      rw [parsed, hx]
      have : x.length = k := by omega
      exact ⟨v, rfl, this ▸ ho⟩
end Go.Proofs.Ytkicnomekojafaa
