/- The law HexaTexts: what it computes. -/
import Derived.Test.YtkicnomekojafaaHexa5
set_option linter.unusedVariables false
set_option linter.unusedSimpArgs false
namespace Go.Proofs.Ytkicnomekojafaa
open Go.Eng Go.Hx
theorem hexaTexts (A : Option Addr) (n c : Nat) (l : List UInt8) (w : World) (hr : Rd w 1 A n (b8s l)) (hc : n ≤ c) (hn : n ≤ 140737488351232) :
    Calls Try.prog 5 #[.slice A n c] w fun e w' => e = .returned (.bool true) ∧ Fr No w w' := by
  refine enter (N := 42) Try.func5 rfl rfl (by simp) ?_
  refine cseq <| creg <| nq (y_assign rfl) <| nend <| qthen <| cseq <| creg <| nq (y_move rfl) <| ?_
  refine nx (x_call rfl Try.call8 (few A n c l 40 _ hr hc hn) ?_)
  rintro e_ w1 ⟨x, rfl, hx, hf1⟩
  refine ⟨_, rfl, ?_⟩
  obtain ⟨Ax, cx, rfl, hcx⟩ := hx.slice
  have rx := (Own.rd hx).2.2
  have hl : (l.take 40).length = min n 40 := by have := rx.1; rw [b8s_length] at this; omega
  refine nq (y_assign rfl) <| nend <| qsub (sub_cons (t := 3) rfl <| sub_cons (t := 2) rfl <| sub_cons (t := 0) rfl <| sub_nil) <| qthen <| cseq <| creg <| nq (y_move rfl) <| ?_
  refine nx (x_call rfl Try.call9 (text Ax _ cx _ w1 rx (by omega)) ?_)
  rintro e_ w2 ⟨rfl, hf2⟩
  refine ⟨_, rfl, ?_⟩
  refine nq (y_assign rfl) <| nend <| qsub (sub_cons (t := 4) rfl <| sub_cons (t := 3) rfl <| sub_cons (t := 2) rfl <| sub_cons (t := 0) rfl <| sub_nil) <| qthen <| cseq <| creg <| nq (y_move rfl) <| ?_
  refine nx (x_call rfl Try.call16 (parse _ w2 (by rw [hexs_length]; omega)) ?_)
  rintro e_ w3 ⟨⟨v, rfl, hv⟩, hf3⟩
  refine ⟨_, rfl, ?_⟩
  rw [parsed, unhex_hexs] at hv
  obtain ⟨u, rfl, hu⟩ := hv
  obtain ⟨Au, cu, rfl, hcu⟩ := hu.slice
  have ru := (Own.rd hu).2.2
  have rx3 := (rx.fr0 hf2).fr0 hf3
  have hr3 := ((hr.fr0 hf1).fr0 hf2).fr0 hf3
  refine nq (y_move rfl) <| nq (y_extract rfl rfl) <| nq (y_extract rfl rfl) <| nq (y_assign rfl) <| nq (y_assign rfl) <| nend <| qsub (sub_cons (t := 6) rfl <| sub_cons (t := 5) rfl <| sub_cons (t := 4) rfl <| sub_cons (t := 3) rfl <| sub_cons (t := 2) rfl <| sub_cons (t := 0) rfl <| sub_nil) <| qthen <| cseq <| ?_
  refine cdrw [(0, false), (1, false), (2, true), (3, false), (4, false), (5, false), (6, false), (7, false), (8, false), (9, false), (10, false), (11, false), (12, false), (13, false), (14, false), (15, false), (16, false), (17, false), (18, false), (19, true), (20, true), (21, false), (22, false), (23, false), (24, true), (25, false), (26, false)] (by kernel_rfl) (by kernel_rfl) rfl (fun w' => Fr No w3 w') ((Fr.drew _)) (fun w4 hf4 hS4 => ?_)
  refine sq (fun w_ hS_ => y_move rfl) <| sq (fun w_ hS_ => y_move rfl) <| ?_
  refine sx (x_call rfl Try.call17 (rtext Ax _ cx _ w4 (rx3.fr0 hS4) (by omega)) ?_)
  rintro e_ w5 ⟨rfl, hf5⟩
  refine ⟨_, rfl, ?_⟩
  refine ⟨hS4.trans0 hf5, ?_⟩
  have hS5 := hS4.trans0 hf5
  refine sq (fun w_ hS_ => yT (y_seq rfl rfl) (decide_eq_true rfl)) <| sq (fun w_ hS_ => y_move rfl) <| sqg (o := _) rfl rfl rfl (fun w_ hS_ => y_move rfl) <| sqg (o := _) rfl rfl rfl (fun w_ hS_ => yT (y_eql rfl rfl) (decide_eq_true rfl)) <| sq (fun w_ hS_ => y_pickT rfl rfl) <| sq (fun w_ hS_ => y_move rfl) <| sqg (o := _) rfl rfl rfl (fun w_ hS_ => y_move rfl) <| sqg (o := _) rfl rfl rfl (fun w_ hS_ => y_b2s rfl Try.underlying22 Try.underlying5 Try.underlying9 ((ru.fr0 hS_))) <| sqg (o := _) rfl rfl rfl (fun w_ hS_ => y_move rfl) <| sqg (o := _) rfl rfl rfl (fun w_ hS_ => y_b2s rfl Try.underlying22 Try.underlying5 Try.underlying9 ((rx3.fr0 hS_))) <| sqg (o := _) rfl rfl rfl (fun w_ hS_ => yT (y_seq rfl rfl) (decide_eq_true rfl)) <| sq (fun w_ hS_ => y_pickT rfl rfl) <| sq (fun w_ hS_ => y_move rfl) <| sqg (o := _) rfl rfl rfl (fun w_ hS_ => y_move rfl) <| sqg (o := _) rfl rfl rfl (fun w_ hS_ => y_b2s rfl Try.underlying22 Try.underlying5 Try.underlying9 ((rx3.fr0 hS_))) <| sqg (o := _) rfl rfl rfl (fun w_ hS_ => y_move rfl) <| ?_
  refine sxg rfl rfl rfl (x_call rfl Try.call8 (few A n c l 40 _ (hr3.fr0 hS5) hc hn) ?_)
  rintro e_ w6 ⟨y, rfl, hy, hf6⟩
  refine ⟨_, rfl, ?_⟩
  refine ⟨hS5.trans0 hf6, ?_⟩
  obtain ⟨Ay, cy, rfl, hcy⟩ := hy.slice
  have ry := (Own.rd hy).2.2
  have hS6 := hS5.trans0 hf6
  refine syg (o := _) rfl rfl rfl (hS6) (y_b2s rfl Try.underlying22 Try.underlying5 Try.underlying9 ry) <| sqg (o := _) rfl rfl rfl (fun w_ hS_ => yT (y_seq rfl rfl) (decide_eq_true rfl)) <| sq (fun w_ hS_ => y_pickT rfl rfl) <| sq (fun w_ hS_ => y_move rfl) <| ?_
  refine sxg rfl rfl rfl (x_call rfl Try.call10 (lives1 _) ?_)
  rintro e_ w7 ⟨rfl, hf7⟩
  refine ⟨_, rfl, ?_⟩
  refine ⟨hS6.trans0 hf7, ?_⟩
  refine sq (fun w_ hS_ => y_pickT rfl rfl) <| sq (fun w_ hS_ => y_assign rfl) <| send <| qsub (sub_cons (t := 2) rfl <| sub_cons (t := 6) rfl <| sub_cons (t := 5) rfl <| sub_cons (t := 4) rfl <| sub_cons (t := 3) rfl <| sub_cons (t := 0) rfl <| sub_nil) <| qthen <| cret <| ?_
  exact ret1 trivial rfl rfl ⟨rfl, ((((hf1.trans0 hf2).trans0 hf3).trans0 hS6).trans0 hf7)⟩
end Go.Proofs.Ytkicnomekojafaa
