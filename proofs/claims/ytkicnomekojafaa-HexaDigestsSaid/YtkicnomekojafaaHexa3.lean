/- Contracts: the example, and the law HexaParts. -/
import Derived.Test.YtkicnomekojafaaHexa2
set_option linter.unusedVariables false
set_option linter.unusedSimpArgs false
namespace Go.Proofs.Ytkicnomekojafaa
open Go.Eng Go.Hx
theorem lives1 (w : World) : Calls Try.prog 10 #[] w fun e w' => e = .returned (.bool true) ∧ Fr No w w' := by
  refine enter (N := 4) Try.func10 rfl rfl (by simp) ?_
  refine cseq <| creg <| nq (y_assign rfl) <| nend <| qthen <| cseq <| creg <| ?_
  refine nx (x_bsl Try.underlying22 ti5 rfl rfl rfl (by simp [Value.cells]) (by decide) (by decide) fun g w1 hg hf1 hb1 => ?_)
  have hr : Rd w1 1 (some ⟨g, 0, none⟩) 2 (b8s [0, 255]) := (Own.rd (Own.made hb1 (Nat.le_refl _) (Nat.le_refl _) (by decide) (by rfl))).2.2
  refine nx (x_call rfl Try.call9 (text _ _ _ [0, 255] _ hr (by omega)) ?_)
  rintro e_ w2 ⟨rfl, hf2⟩
  refine ⟨_, rfl, ?_⟩
  refine nq (y_seq rfl rfl) <| nq (y_assign rfl) <| nend <| qsub (sub_cons (t := 0) rfl <| sub_nil) <| qthen <| cret <| ?_
  refine ret1 trivial rfl rfl ⟨?_, hf1.trans0 hf2⟩
  rw [show decide (strOf (hexs [0, 255]) = ⟨#[48, 48, 102, 102]⟩) = true from rfl]
theorem hexaParts (A : Option Addr) (n c : Nat) (l : List UInt8) (A' : Option Addr) (n' c' : Nat) (l' : List UInt8) (w : World) (hr : Rd w 1 A n (b8s l)) (hc : n ≤ c) (hn : n ≤ 140737488351232) (hr' : Rd w 1 A' n' (b8s l')) (hc' : n' ≤ c') (hn' : n' ≤ 140737488351232) :
    Calls Try.prog 3 #[.slice A n c, .slice A' n' c'] w fun e w' => e = .returned (.bool true) ∧ Fr No w w' := by
  refine enter (N := 36) Try.func3 rfl rfl (by simp) ?_
  refine cseq <| creg <| nq (y_assign rfl) <| nend <| qthen <| cseq <| creg <| nq (y_move rfl) <| ?_
  refine nx (x_call rfl Try.call8 (few A n c l 20 _ hr hc hn) ?_)
  rintro e_ w1 ⟨x, rfl, hx, hf1⟩
  refine ⟨_, rfl, ?_⟩
  refine nq (y_assign rfl) <| nend <| qsub (sub_cons (t := 5) rfl <| sub_cons (t := 4) rfl <| sub_cons (t := 0) rfl <| sub_cons (t := 1) rfl <| sub_nil) <| qthen <| cseq <| creg <| nq (y_move rfl) <| ?_
  refine nx (x_call rfl Try.call8 (few A' n' c' l' 20 _ (hr'.fr0 hf1) hc' hn') ?_)
  rintro e_ w2 ⟨y, rfl, hy, hf2⟩
  refine ⟨_, rfl, ?_⟩
  refine nq (y_assign rfl) <| nend <| qsub (sub_cons (t := 6) rfl <| sub_cons (t := 5) rfl <| sub_cons (t := 4) rfl <| sub_cons (t := 0) rfl <| sub_cons (t := 1) rfl <| sub_nil) <| qthen <| cseq <| creg <| nq (y_move rfl) <| ?_
  refine nx (x_call rfl Try.call8 (few A n c l 20 _ ((hr.fr0 hf1).fr0 hf2) hc hn) ?_)
  rintro e_ w3 ⟨z, rfl, hz, hf3⟩
  refine ⟨_, rfl, ?_⟩
  obtain ⟨Ay, cy, rfl, hcy⟩ := hy.slice
  refine nq (y_move rfl) <| ?_
  have ry := ((Own.rd hy).2.2).fr0 hf3
  refine nx (x_app rfl rfl Try.underlying22 Try.underlying22 (by exact .inl rfl) ti5 rfl hz (Src.of_rd ry) b8s_one (by unfold maxLen; omega) (by omega) hf3.size fun b w4 hb hf4 hv4 => ?_)
  have f24 : Fr No w2 w4 := hf3.new hf4 (fun i hi => (hz.from hi).1)
  have f04 : Fr No w w4 := (hf1.trans0 hf2).trans0 f24
  obtain ⟨Ax, cx, rfl, hcx⟩ := hx.slice
  obtain ⟨Ab, cb, rfl, hcb⟩ := hb.slice
  rw [← b8s_append] at hb
  have rx := (Own.rd ((hx.fr0 hf2).fr0 f24)).2.2
  have ry4 := (Own.rd (hy.fr0 f24)).2.2
  have rb := (Own.rd hb).2.2
  have lb : (l.take 20 ++ l'.take 20).length = min n 20 + min n' 20 := by have := rb.1; rw [b8s_length] at this; omega
  refine nq (y_assign rfl) <| nend <| qsub (sub_cons (t := 7) rfl <| sub_cons (t := 6) rfl <| sub_cons (t := 5) rfl <| sub_cons (t := 4) rfl <| sub_cons (t := 0) rfl <| sub_cons (t := 1) rfl <| sub_nil) <| qthen <| cseq <| creg <| nq (y_move rfl) <| ?_
  refine nx (x_call rfl Try.call9 (text Ab _ cb _ w4 rb (by omega)) ?_)
  rintro e_ w5 ⟨rfl, f5⟩
  refine ⟨_, rfl, ?_⟩
  refine nq (y_move rfl) <| ?_
  refine nx (x_call rfl Try.call9 (text Ax _ cx _ w5 (rx.fr0 f5) (by omega)) ?_)
  rintro e_ w6 ⟨rfl, f6⟩
  refine ⟨_, rfl, ?_⟩
  refine nq (y_move rfl) <| ?_
  refine nx (x_call rfl Try.call9 (text Ay _ cy _ w6 ((ry4.fr0 f5).fr0 f6) (by omega)) ?_)
  rintro e_ w7 ⟨rfl, f7⟩
  refine ⟨_, rfl, ?_⟩
  refine nq (y_sadd rfl rfl ((by rw [strOf_size, strOf_size, hexs_length, hexs_length]; simp; omega))) <| nq (yT (y_seq rfl rfl) (decide_eq_true (by rw [strOf_append, hexs_append]))) <| nq (y_move rfl) <| ng rfl rfl rfl (y_move rfl) <| ?_
  refine nxg rfl rfl rfl (x_call rfl Try.call9 (text Ab _ cb _ w7 (((rb.fr0 f5).fr0 f6).fr0 f7) (by omega)) ?_)
  rintro e_ w8 ⟨rfl, f8⟩
  refine ⟨_, rfl, ?_⟩
  refine ng rfl rfl rfl (y_lenStr rfl Try.underlying9) <| ng rfl rfl rfl (y_move rfl) <| ng rfl rfl rfl (y_lenS rfl Try.underlying22) <| ng rfl rfl rfl (y_mul rfl rfl (w64 (by omega) (by omega))) <| ng rfl rfl rfl (yT (y_eql rfl rfl) (decide_eq_true (by rw [strOf_size, hexs_length, lb]; omega))) <| nq (y_pickT rfl rfl) <| nq (y_move rfl) <| ?_
  refine nxg rfl rfl rfl (x_call rfl Try.call10 (lives1 w8) ?_)
  rintro e_ w9 ⟨rfl, f9⟩
  refine ⟨_, rfl, ?_⟩
  refine nq (y_pickT rfl rfl) <| nq (y_assign rfl) <| nend <| qsub (sub_cons (t := 4) rfl <| sub_cons (t := 7) rfl <| sub_cons (t := 6) rfl <| sub_cons (t := 5) rfl <| sub_cons (t := 0) rfl <| sub_cons (t := 1) rfl <| sub_nil) <| qthen <| cret <| ?_
  exact ret1 trivial rfl rfl ⟨rfl, ((((f04.trans0 f5).trans0 f6).trans0 f7).trans0 f8).trans0 f9⟩
end Go.Proofs.Ytkicnomekojafaa
