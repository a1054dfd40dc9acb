/- Contracts: hexa.Parse and what it calls; the law HexaTexts. -/
import Derived.Test.YtkicnomekojafaaHexa3
import Derived.Test.YtkicnomekojafaaHexa4
set_option linter.unusedVariables false
set_option linter.unusedSimpArgs false
namespace Go.Proofs.Ytkicnomekojafaa
open Go.Eng Go.Hx
theorem sIndexByte (s : ByteArray) (c : UInt8) (w : World) :
    Calls Try.prog 31 #[.string s, .int .u8 c.toNat] w fun e w' => e = .returned (.int .i64 (Lib.indexByte s.data.toList c)) ∧ w = w' := by
  refine enter (N := 8) Try.func31 rfl rfl (by simp) ?_
  refine cseq <| creg <| nq (y_assign rfl) <| nend <| qthen <| cseq <| creg <| nq (y_move rfl) <| nq (y_move rfl) <| ?_
  refine nq (y_ext rfl Try.func34 (by kernel_rfl) (by kernel_rfl) (by kernel_rfl) (show _ = some Extern.BytealgIndexByte.indexByte by kernel_rfl) (Lib.run_indexByteString _ _ _)) ?_
  refine nq (y_assign rfl) <| nend <| qsub (sub_cons (t := 4) rfl <| sub_cons (t := 0) rfl <| sub_cons (t := 1) rfl <| sub_nil) <| qthen <| cret <| ?_
  refine ret1 trivial rfl rfl ⟨?_, rfl⟩
  rw [show ((c.toNat : Int)).toNat.toUInt8 = c by simp]
theorem indexByte (s : ByteArray) (c : UInt8) (w : World) :
    Calls Try.prog 26 #[.string s, .int .u8 c.toNat] w fun e w' => e = .returned (.int .i64 (Lib.indexByte s.data.toList c)) ∧ w = w' := by
  refine enter (N := 8) Try.func26 rfl rfl (by simp) ?_
  refine cseq <| creg <| nq (y_assign rfl) <| nend <| qthen <| cseq <| creg <| nq (y_move rfl) <| nq (y_move rfl) <| ?_
  refine nx (x_call rfl Try.call31 (sIndexByte s c w) ?_)
  rintro e_ w' ⟨rfl, rfl⟩
  refine ⟨_, rfl, ?_⟩
  refine nq (y_assign rfl) <| nend <| qsub (sub_cons (t := 4) rfl <| sub_cons (t := 0) rfl <| sub_cons (t := 1) rfl <| sub_nil) <| qthen <| cret <| ?_
  exact ret1 trivial rfl rfl ⟨rfl, rfl⟩
theorem indexHex (c : UInt8) (w : World) :
    Calls Try.prog 26 #[.string ⟨#[48, 49, 50, 51, 52, 53, 54, 55, 56, 57, 97, 98, 99, 100, 101, 102]⟩, .int .u8 c.toNat] w fun e w' => e = .returned (.int .i64 (dig c)) ∧ w = w' := by
  rw [← indexByte_hexd]
  exact indexByte _ c w
theorem parse (s : List UInt8) (w : World) (hs : s.length ≤ 140737488351232) :
    Calls Try.prog 16 #[.string (strOf s)] w fun e w' => (∃ v, e = .returned v ∧ parsed w s v w') ∧ Fr No w w' := by
  have hsz : (strOf s).size = s.length := strOf_size s
  refine enter (N := 45) Try.func16 rfl rfl (by simp) ?_
  refine cseq <| creg <| nq (y_assign rfl) <| nq (y_assign rfl) <| nend <| qthen <| cseq <| cseq <| creg <| nq (y_move rfl) <| nq (y_lenStr rfl Try.underlying9) <| nq (y_rem rfl rfl (by omega) (by omega)) <| nq (y_neq rfl rfl) <| nend <| qsub (sub_cons (t := 11) rfl <| sub_cons (t := 3) rfl <| sub_cons (t := 2) rfl <| sub_cons (t := 0) rfl <| sub_nil) <| qthen <| ?_
  refine cif rfl (fun h => ?_) (fun h => ?_)
  · refine cseq <| creg <| nq (y_assign rfl) <| nq (y_assign rfl) <| nend <| qthen <| cret <| qthen_ret <| ?_
    refine ret2 trivial rfl rfl rfl ⟨⟨_, rfl, ?_⟩, Fr.refl _ _⟩
    rw [parsed, unhex_odd s (by simp at h; omega)]
  · simp at h
    refine cskip <| qthen <| cseq <| creg <| nq (y_assign rfl) <| nend <| qthen <| cseq <| cseq <| creg <| nq (y_move rfl) <| nq (y_lenStr rfl Try.underlying9) <| nq (y_quo rfl rfl (by omega) (by omega) (w64 (by omega) (by omega))) <| nq (y_move rfl) <| nend <| qsub (sub_cons (t := 15) rfl <| sub_cons (t := 14) rfl <| sub_cons (t := 4) rfl <| sub_cons (t := 11) rfl <| sub_cons (t := 3) rfl <| sub_cons (t := 2) rfl <| sub_cons (t := 0) rfl <| sub_nil) <| qthen <| cblock <| ?_
    refine cloop3 (fun k _ _ => s.length - 2 * k) (fun k v _ => [(0, .string (strOf s)), (4, v), (14, .int .i64 ((s.length / 2 : Nat) : Int)), (15, .int .i64 (k : Nat))]) (fun k v x w' => 2 * k ≤ s.length ∧ unhex (s.take (2 * k)) = some x ∧ Own w' w.heap.size 5 1 v k (b8s x) ∧ Fr No w w') 0 (.slice none 0 0) [] (⟨Nat.zero_le _, rfl, Own.nil w w.heap.size _ 1, Fr.refl _ _⟩) (sub_cons (t := 0) rfl <| sub_cons (t := 4) rfl <| sub_cons (t := 14) rfl <| sub_cons (t := 15) rfl <| sub_nil) (fun k v x w1 ⟨hk, hx, ho, hf⟩ => ?_)
    · refine cseq <| creg <| nq (y_lss rfl rfl) <| nend <| qthen <| cseq <| ?_
      refine cif rfl (fun h2 => ?_) (fun h2 => ?_)
      · have hk2 : 2 * k + 1 < s.length := by omega
        have hd1 := dig_range (s.getD (2 * k) 0)
        have hd2 := dig_range (s.getD (2 * k + 1) 0)
        have hlen : (s.take (2 * k)).length = 2 * k := by simp; omega
        have hsn := unhex_snoc (s.take (2 * k)) k (s.getD (2 * k) 0) (s.getD (2 * k + 1) 0) x hlen hx
        rw [← take_two hk2] at hsn
        have hno : (dig (s.getD (2 * k) 0) < 0 ∨ dig (s.getD (2 * k + 1) 0) < 0) → unhex s = none := fun hn => by
          rw [if_pos hn] at hsn
          have := unhex_none_append _ (s.drop (2 * (k + 1))) (k + 1) (by simp; omega) hsn
          rwa [List.take_append_drop] at this
        refine cskip <| qthen <| cseq <| cblock <| cseq <| creg <| nq (y_move rfl) <| nq (y_assign rfl) <| nend <| qsub (sub_cons (t := 5) rfl <| sub_cons (t := 16) rfl <| sub_cons (t := 0) rfl <| sub_cons (t := 4) rfl <| sub_cons (t := 14) rfl <| sub_cons (t := 15) rfl <| sub_nil) <| qthen <| cseq <| ?_
        refine cdrw [(0, false), (1, false), (2, false), (3, false), (5, false), (6, false), (7, false), (8, false), (9, false), (4, true), (10, true), (11, false), (12, false)] (by kernel_rfl) (by kernel_rfl) rfl (fun w' => Fr No w w') (hf.trans0 (Fr.drew _)) (fun w2 hf2 hS2 => ?_)
        refine sq (fun w_ hS_ => y_move rfl) <| sq (fun w_ hS_ => y_move rfl) <| sq (fun w_ hS_ => y_mul rfl rfl (w64 (by omega) (by omega))) <| sq (fun w_ hS_ => y_idxStr rfl rfl Try.underlying9 (show ((2 * k : Nat) : Int) = _ by omega) (strOf_at (by omega))) <| sq (fun w_ hS_ => y_move rfl) <| sq (fun w_ hS_ => y_move rfl) <| sq (fun w_ hS_ => y_mul rfl rfl (w64 (by omega) (by omega))) <| sq (fun w_ hS_ => y_add rfl rfl (w64 (by omega) (by omega))) <| sq (fun w_ hS_ => y_idxStr rfl rfl Try.underlying9 (show ((2 * k + 1 : Nat) : Int) = _ by omega) (strOf_at (by omega))) <| ?_
        refine sx (x_call rfl Try.call26 (indexHex _ _) ?_)
        rintro e_ w3 ⟨rfl, rfl⟩
        refine ⟨_, rfl, ?_⟩
        refine ⟨hS2, ?_⟩
        refine sx (x_call rfl Try.call26 (indexHex _ _) ?_)
        rintro e_ w3 ⟨rfl, rfl⟩
        refine ⟨_, rfl, ?_⟩
        refine ⟨hS2, ?_⟩
        have hf := hS2
        have ho := ho.fr0 hf2
        refine sq (fun w_ hS_ => y_assign rfl) <| sq (fun w_ hS_ => y_assign rfl) <| send <| qsub (sub_cons (t := 7) rfl <| sub_cons (t := 6) rfl <| sub_cons (t := 5) rfl <| sub_cons (t := 16) rfl <| sub_cons (t := 0) rfl <| sub_cons (t := 4) rfl <| sub_cons (t := 14) rfl <| sub_cons (t := 15) rfl <| sub_nil) <| qthen <| cseq <| cseq <| creg <| nq (y_move rfl) <| nq (y_lss rfl rfl) <| nq (y_move rfl) <| ?_
        refine nsplit 31 rfl (fun h3 => ?_) (fun h3 => ?_)
        · refine nskip rfl rfl rfl (by decide) <| nskip rfl rfl rfl (by decide) <| nq (y_pickT rfl rfl) <| nend <| qsub (sub_cons (t := 34) rfl <| sub_cons (t := 7) rfl <| sub_cons (t := 6) rfl <| sub_cons (t := 5) rfl <| sub_cons (t := 16) rfl <| sub_cons (t := 0) rfl <| sub_cons (t := 4) rfl <| sub_cons (t := 14) rfl <| sub_cons (t := 15) rfl <| sub_nil) <| qthen <| ?_
          refine cift rfl (rfl) ?_
          refine cseq <| creg <| nq (y_assign rfl) <| nq (y_assign rfl) <| nend <| qthen <| cret <| qthen_ret <| qblock_ret <| qthen_ret <| qthen_ret <| qblock_ret <| qthen_ret <| ?_
          refine ret2 trivial rfl rfl rfl ⟨⟨_, rfl, ?_⟩, hf⟩
          rw [parsed, hno (.inl h3)]
        · refine ng rfl rfl rfl (y_move rfl) <| ng rfl rfl rfl (y_lss rfl rfl) <| nq (y_pickF rfl rfl) <| nend <| qsub (sub_cons (t := 34) rfl <| sub_cons (t := 7) rfl <| sub_cons (t := 6) rfl <| sub_cons (t := 5) rfl <| sub_cons (t := 16) rfl <| sub_cons (t := 0) rfl <| sub_cons (t := 4) rfl <| sub_cons (t := 14) rfl <| sub_cons (t := 15) rfl <| sub_nil) <| qthen <| ?_
          refine cif rfl (fun h4 => ?_) (fun h4 => ?_)
          · refine cseq <| creg <| nq (y_assign rfl) <| nq (y_assign rfl) <| nend <| qthen <| cret <| qthen_ret <| qblock_ret <| qthen_ret <| qthen_ret <| qblock_ret <| qthen_ret <| ?_
            refine ret2 trivial rfl rfl rfl ⟨⟨_, rfl, ?_⟩, hf⟩
            rw [parsed, hno (.inr h4)]
          · refine cskip <| qthen <| creg <| nq (y_move rfl) <| nq (y_move rfl) <| nq (y_shl (p := 16) rfl rfl (by decide) (by decide) (by decide) (w64 (by omega) (by omega))) <| nq (y_move rfl) <| nq (y_bits (by simp) rfl rfl (or_dig _ _ (by omega) (by omega) (by omega) (by omega))) <| nq (y_conv rfl Try.underlying3 Try.underlying5 (wrapU8 (ofDigs _ _ (by omega) (by omega)))) <| ?_
            refine nx (x_bsl Try.underlying22 ti5 rfl rfl rfl (by simp [Value.cells]) (by decide) (by decide) fun g w3 hg hf3 hb3 => ?_)
            refine nx (x_app rfl rfl Try.underlying22 Try.underlying22 (by exact .inl rfl) ti5 rfl (ho.fr0 hf3) (Src.of_blk hb3 rfl) (b8s_one (l := [_])) (by unfold maxLen; omega) (by omega) (Nat.le_trans hf.size hf3.size) fun v4 w4 ho4 hf4 hv4 => ?_)
            refine nq (y_assign rfl) <| nend <| qsub (sub_cons (t := 4) rfl <| sub_cons (t := 34) rfl <| sub_cons (t := 7) rfl <| sub_cons (t := 6) rfl <| sub_cons (t := 5) rfl <| sub_cons (t := 16) rfl <| sub_cons (t := 0) rfl <| sub_cons (t := 14) rfl <| sub_cons (t := 15) rfl <| sub_nil) <| qblock <| qthen <| creg <| nq (y_add rfl rfl (w64 (by omega) (by omega))) <| nq (y_move rfl) <| nend <| qsub (sub_cons (t := 15) rfl <| sub_cons (t := 4) rfl <| sub_cons (t := 34) rfl <| sub_cons (t := 7) rfl <| sub_cons (t := 6) rfl <| sub_cons (t := 5) rfl <| sub_cons (t := 16) rfl <| sub_cons (t := 0) rfl <| sub_cons (t := 14) rfl <| sub_nil) <| ?_
            rw [if_neg (by omega)] at hsn
            refine qloop3 (k + 1) v4 _ (sub_cons (t := 0) rfl <| sub_cons (t := 4) rfl <| sub_cons (t := 14) rfl <| sub_cons (t := 15) rfl <| sub_nil) (⟨by omega, hsn, by rw [b8s_append]; exact ho4, (hf.trans0 hf3).new hf4 (fun i hi => (ho.from hi).1)⟩) (by omega)
      · refine cexit <| qthen_exit <| qthen_exit <| qblock_exit <| qthen <| cseq <| creg <| nq (y_move rfl) <| nq (y_assign rfl) <| nq (y_assign rfl) <| nend <| qsub (sub_cons (t := 3) rfl <| sub_cons (t := 2) rfl <| sub_cons (t := 16) rfl <| sub_cons (t := 0) rfl <| sub_cons (t := 4) rfl <| sub_cons (t := 14) rfl <| sub_cons (t := 15) rfl <| sub_nil) <| qthen <| cret <| ?_
        refine ret2 trivial rfl rfl rfl ⟨⟨_, rfl, ?_⟩, hf⟩
        rw [List.take_of_length_le (by omega)] at hx
        have hxl := unhex_length s x hx
        rw [parsed, hx]
        have : x.length = k := by omega
        exact ⟨v, rfl, this ▸ ho⟩
end Go.Proofs.Ytkicnomekojafaa
