/- The law SlotsWrong. -/
import Derived.Test.YtfikjheicjamhaaDoorG10
set_option linter.unusedVariables false
set_option linter.unusedSimpArgs false
set_option maxRecDepth 20000
namespace Go.Proofs.YtfikjheicjamhaaDoor
open Go.Eng Go.Hx
theorem slotsWrongC {A : Option Addr} {n c : Nat} {la : List UInt8} {B : Option Addr} {m1 c1 : Nat} {lb : List UInt8} {im : List UInt8} (hc : n ≤ c) (hn : n ≤ 140737488351232) (hc1 : m1 ≤ c1) (hm1 : m1 ≤ 140737488351232) (hi : im.length = 32) : Con Tryd.prog 5 [.slice A n c, .slice B m1 c1, .agg (b8s im).toArray] [] [RRd 1 A n (b8s la), RRd 1 B m1 (b8s lb), RRoots] (fun v_ X_ S_ => v_ = (.bool true) ∧ X_ = [] ∧ S_ = []) := by
  have hs0 := begun_sst (room := 2000) (by decide)
  have hb0 : begun 2000 = ((RD.new 2000).saveSup Sup.zero).1 := rfl
  rw [← hb0] at hs0
  generalize hbe : begun 2000 = d0 at hb0 hs0
  refine henter (N := 86) Tryd.func5 rfl rfl (by simp) fun b => ?_
  refine hfactC (fun m => rdB (m.rd 0 rfl)) ?_
  rintro ⟨hl_ra, hA_ra⟩
  refine hfactC (fun m => rdB (m.rd 1 rfl)) ?_
  rintro ⟨hl_rb, hA_rb⟩
  refine hseq <| hreg <| ?_
  refine hx (xh_box rfl (fun g5 => ?_))
  refine hmemL (fun w m => m.eqX 0 rfl (show _ = RBlk g5 23 (b8s im) from congrArg (RBlk _ _) (cells_agg _))) ?_
  refine hy (fun _ => y_assign rfl) <| hend <| hmemQ (X' := [_]) (S' := [_, _, _]) (fun _ m => m) <| hthen <| hseq <| hreg <| ?_
  refine hx (xh_call rfl Tryd.call26 (beginC (by decide) (by decide)) [] rfl [] rfl ?_)
  rintro _ _ _ ⟨gw, gd, st, y, rfl, rfl, rfl, hg⟩
  refine hy (fun _ => y_assign rfl) <| hend <| hsub (ρ' := [(7, _), (6, _), (5, _), (0, _), (1, _), (2, _)]) ⟨rfl, rfl, rfl, rfl, rfl, rfl, trivial⟩ <| hmemQ (X' := [_, _, _]) (S' := [_, _, _, _]) (fun _ m => m) <| hthen <| hseq <| hseq <| hreg <| hy (fun _ => y_move rfl) <| hy (fun _ => y_eqPn rfl rfl (by kernel_rfl)) <| hend <| hsub (ρ' := [(16, _), (7, _), (6, _), (5, _), (0, _), (1, _), (2, _)]) ⟨rfl, rfl, rfl, rfl, rfl, rfl, rfl, trivial⟩ <| hthen <| ?_
  refine hiff rfl (rfl) ?_
  obtain ⟨hD0, hy0⟩ := hg
  rw [hbe] at hD0
  obtain ⟨X0, hX0⟩ : ∃ X0, X0 = la.take 40 := ⟨_, rfl⟩
  obtain ⟨Y0, hY0⟩ : ∃ Y0, Y0 = lb.take 40 := ⟨_, rfl⟩
  have hXl : X0.length = min n 40 := by rw [hX0, List.length_take, hl_ra, Nat.min_comm]
  have hYl : Y0.length = min m1 40 := by rw [hY0, List.length_take, hl_rb, Nat.min_comm]
  obtain ⟨d1, d2, d3, i1, i2, i3, e1, e2, e3, ha, hyes, hno⟩ := wrong_law (im := im) (x := X0) (y := Y0) (by omega) (by omega) hs0
  refine hcskip <| hthen <| hseq <| hreg <| hy (fun _ => y_move rfl) <| ?_
  refine hx (xh_call rfl Tryd.call21 (fewC (by omega) (by omega) (m := 40)) [] rfl [1] rfl ?_)
  rintro _ _ _ ⟨v, rfl, rfl, rfl⟩
  refine hfactL (fun m => (m.own 0 rfl).slice) ?_
  rintro ⟨A_x, c_x, rfl, hc_x⟩
  refine hfactL (fun m => (m.ord 0 rfl).2.1) fun hA_x => ?_
  refine hy (fun _ => y_assign rfl) <| hend <| hsub (ρ' := [(8, _), (16, _), (7, _), (6, _), (5, _), (0, _), (1, _), (2, _)]) ⟨rfl, rfl, rfl, rfl, rfl, rfl, rfl, rfl, trivial⟩ <| hmemQ (X' := [_, _, _, _]) (S' := [_, _, _, _]) (fun _ m => m) <| hthen <| hseq <| hreg <| hy (fun _ => y_move rfl) <| ?_
  refine hx (xh_call rfl Tryd.call21 (fewC (by omega) (by omega) (m := 40)) [] rfl [2] rfl ?_)
  rintro _ _ _ ⟨v2, rfl, rfl, rfl⟩
  refine hfactL (fun m => (m.own 0 rfl).slice) ?_
  rintro ⟨A_x2, c_x2, rfl, hc_x2⟩
  refine hfactL (fun m => (m.ord 0 rfl).2.1) fun hA_x2 => ?_
  refine hy (fun _ => y_assign rfl) <| hend <| hsub (ρ' := [(9, _), (8, _), (16, _), (7, _), (6, _), (5, _), (0, _), (1, _), (2, _)]) ⟨rfl, rfl, rfl, rfl, rfl, rfl, rfl, rfl, rfl, trivial⟩ <| hmemQ (X' := [_, _, _, _, _]) (S' := [_, _, _, _]) (fun _ m => m) <| hthen <| hseq <| hreg <| hy (fun _ => y_move rfl) <| hy (fun _ => y_nilp rfl) <| hy (fun _ => y_fld rfl fa64_0 (by decide)) <| ?_
  refine hmemL (fun w m => m.eqX 1 rfl (show _ = ROwn 5 1 (.slice A_x (min n 40) c_x) (min n 40) (b8s X0) from by rw [hX0])) ?_
  refine hmemL (fun w m => m.eqX 1 rfl (show _ = ROwn 5 1 (.slice A_x2 (min m1 40) c_x2) (min m1 40) (b8s Y0) from by rw [hY0])) ?_
  refine hy (fun m => y_ld1 rfl ag58 (ld_blk (m.blk 2 rfl) (i := 0) rfl)) <| hy (fun _ => y_move rfl) <| ?_
  refine hx (xh_calll rfl Tryd.call27 (stageSC hXl hD0 (by decide) (bb := X0)) [3] rfl (.x 1 rfl .own .nil) ?_)
  rintro _ _ _ ⟨st1, rfl, rfl, rfl, hD1⟩
  refine ⟨rfl, ?_⟩
  refine hend <| hsub (ρ' := [(9, _), (8, _), (16, _), (7, _), (6, _), (5, _), (0, _), (1, _), (2, _)]) ⟨rfl, rfl, rfl, rfl, rfl, rfl, rfl, rfl, rfl, trivial⟩ <| hmemQ (X' := [_, _, _, _, _]) (S' := [_, _, _, _]) (fun _ m => m) <| hthen <| hseq <| hdrw [5, 6] [(0, some 1), (1, some 1), (2, some 1), (3, some 1), (4, some 0), (5, none), (6, none)] (by kernel_rfl) (by kernel_rfl) rfl 1 <| ?_
  rw [e1] at hD1
  refine htyU (y_move rfl) <| htyU (y_nilp rfl) <| htyU (y_fld rfl fa64_0 (by decide)) <| hty (fun m => y_ld1 rfl ag58 (ld_blk (m.blk 3 rfl) (i := 0) rfl)) <| htyU (y_move rfl) <| ?_
  refine htx (xh_calll rfl Tryd.call29 (rshaSumC (by omega)) [] rfl (.x 2 rfl .own .nil) ?_)
  rintro _ _ _ ⟨rfl, rfl, rfl⟩
  refine ⟨rfl, ?_⟩
  refine ⟨(fun _ => wk [0, 0, 0, 0, 0] [0, 1, 2, 3] rfl rfl), ?_⟩
  refine htx (xh_call rfl Tryd.call28 (flipSC (shaL_length _) hD1 (by decide)) [0] rfl [3] rfl ?_)
  rintro _ _ _ ⟨st12, rfl, rfl, rfl, hD2⟩
  refine ⟨(fun h => absurd h (by decide)), ?_⟩
  refine htend <| hsub (ρ' := [(9, _), (8, _), (16, _), (7, _), (6, _), (5, _), (0, _), (1, _), (2, _)]) ⟨rfl, rfl, rfl, rfl, rfl, rfl, rfl, rfl, rfl, trivial⟩ <| hmemQ (X' := [_, _, _, _, _]) (S' := [_, _, _, _]) (fun _ m => m) <| hthen <| hseq <| hreg <| hy (fun _ => y_move rfl) <| hy (fun _ => y_nilp rfl) <| hy (fun _ => y_fld rfl fa64_0 (by decide)) <| ?_
  rw [e2] at hD2
  refine hy (fun m => y_ld1 rfl ag58 (ld_blk (m.blk 3 rfl) (i := 0) rfl)) <| hy (fun _ => y_move rfl) <| ?_
  refine hx (xh_calll rfl Tryd.call27 (stageSC hYl hD2 (by decide) (bb := Y0)) [0] rfl (.x 0 rfl .own .nil) ?_)
  rintro _ _ _ ⟨st13, rfl, rfl, rfl, hD3⟩
  refine ⟨rfl, ?_⟩
  refine hend <| hsub (ρ' := [(9, _), (8, _), (16, _), (7, _), (6, _), (5, _), (0, _), (1, _), (2, _)]) ⟨rfl, rfl, rfl, rfl, rfl, rfl, rfl, rfl, rfl, trivial⟩ <| hmemQ (X' := [_, _, _, _, _]) (S' := [_, _, _, _]) (fun _ m => m) <| hthen <| hseq <| hdrwB [1, 1, 1, 1] [0, 1, 2, 3] rfl rfl [5] [(0, some 0), (1, some 0), (2, some 0), (3, some 0), (4, some 0), (5, none), (6, some 1), (7, some 1), (8, some 1), (9, some 1), (10, some 1)] (by kernel_rfl) (by kernel_rfl) rfl 99 <| ?_
  rw [e3] at hD3
  refine htyU (y_move rfl) <| htyU (y_nilp rfl) <| htyU (y_fld rfl fa64_0 (by decide)) <| hty (fun m => y_ld1 rfl ag58 (ld_blk (m.blk 2 rfl) (i := 0) rfl)) <| hty (fun m => yV (y_ldN rfl ag23 sz23 (by rw [b8s_length, hi]) ((m.blk 3 rfl).cells0)) ((rfl : _ = Value.agg (b8s im).toArray))) <| ?_
  refine htx (xh_call rfl Tryd.call28 (flipSC hi hD3 (by decide)) [0] rfl [3] rfl ?_)
  rintro _ _ _ ⟨st14, rfl, rfl, rfl, hD4⟩
  refine ⟨(fun _ => wk [1, 1, 1, 1] [0, 1, 2, 3] rfl rfl), ?_⟩
  refine htyU (y_move rfl) <| htyU (y_extract rfl rfl) <| htyU (y_extract rfl rfl) <| htyU (y_assign rfl) <| htyU (y_assign rfl) <| htend <| hsub (ρ' := [(11, _), (10, _), (9, _), (8, _), (16, _), (7, _), (6, _), (5, _), (0, _), (1, _), (2, _)]) ⟨rfl, rfl, rfl, rfl, rfl, rfl, rfl, rfl, rfl, rfl, rfl, trivial⟩ <| hmemQ (X' := [_, _, _, _, _]) (S' := [_, _, _, _]) (fun _ m => m) <| hthen <| hseq <| hreg <| hy (fun _ => y_move rfl) <| hy (fun _ => y_nilp rfl) <| hy (fun _ => y_fld rfl fa64_0 (by decide)) <| hy (fun m => y_ld1 rfl ag58 (ld_blk (m.blk 3 rfl) (i := 0) rfl)) <| ?_
  refine hx (xh_call rfl Tryd.call30 (activeSC hD4) [0] rfl [3] rfl ?_)
  rintro _ _ _ ⟨v3, rfl, rfl, rfl⟩
  refine hfactL (fun m => (m.own 1 rfl).slice) ?_
  rintro ⟨A_x3, c_x3, rfl, hc_x3⟩
  refine hfactL (fun m => (m.ord 1 rfl).2.1) fun hA_x3 => ?_
  refine hy (fun _ => y_move rfl) <| hy (fun _ => y_extract rfl rfl) <| hy (fun _ => y_extract rfl rfl) <| hy (fun _ => y_assign rfl) <| hy (fun _ => y_assign rfl) <| hend <| hsub (ρ' := [(13, _), (12, _), (11, _), (10, _), (9, _), (8, _), (16, _), (7, _), (6, _), (5, _), (0, _), (1, _), (2, _)]) ⟨rfl, rfl, rfl, rfl, rfl, rfl, rfl, rfl, rfl, rfl, rfl, rfl, rfl, trivial⟩ <| hmemQ (X' := [_, _, _, _, _, _]) (S' := [_, _, _, _]) (fun _ m => m) <| hthen <| hseq <| hseq <| hdrwB [1, 1, 1, 1, 1] [0, 1, 2, 3] rfl rfl [2] [(0, some 1), (1, some 0), (2, none), (3, some 1)] (by kernel_rfl) (by kernel_rfl) rfl 99 <| hty (fun m => yV (y_ldN rfl ag23 sz23 (by rw [b8s_length, hi]) ((m.blk 4 rfl).cells0)) ((rfl : _ = Value.agg (b8s im).toArray))) <| htyU (y_move rfl) <| ?_
  refine htx (xh_calll rfl Tryd.call29 (rshaSumC (by omega)) [] rfl (.x 2 rfl .own .nil) ?_)
  rintro _ _ _ ⟨rfl, rfl, rfl⟩
  refine ⟨rfl, ?_⟩
  refine ⟨(fun _ => wk [1, 1, 1, 1, 1] [0, 1, 2, 3] rfl rfl), ?_⟩
  refine htyU (y_eqD23 rfl rfl hi (shaL_length _)) <| htend <| hsub (ρ' := [(60, _), (13, _), (12, _), (11, _), (10, _), (9, _), (8, _), (16, _), (7, _), (6, _), (5, _), (0, _), (1, _), (2, _)]) ⟨rfl, rfl, rfl, rfl, rfl, rfl, rfl, rfl, rfl, rfl, rfl, rfl, rfl, rfl, trivial⟩ <| hmemQ (X' := [_, _, _, _, _, _]) (S' := [_, _, _, _]) (fun _ m => m) <| hthen <| ?_
  refine hif rfl (fun hz => ?_) (fun hz => ?_)
  · have hE := hyes hz.symm
    refine hseq <| hreg <| hy (fun _ => y_move rfl) <| ?_
    rw [hE]
    refine hy (fun _ => y_eql rfl rfl) <| hy (fun _ => y_move rfl) <| ?_
    refine hxg (o := _) rfl rfl rfl (xh_call rfl Tryd.call20 (lives22C) [] rfl [3] rfl ?_)
    rintro _ _ _ ⟨rfl, rfl, rfl⟩
    refine hy (fun _ => y_pickT rfl rfl) <| hy (fun _ => y_assign rfl) <| hend <| hsub (ρ' := [(6, _), (60, _), (13, _), (12, _), (11, _), (10, _), (9, _), (8, _), (16, _), (7, _), (5, _), (0, _), (1, _), (2, _)]) ⟨rfl, rfl, rfl, rfl, rfl, rfl, rfl, rfl, rfl, rfl, rfl, rfl, rfl, rfl, trivial⟩ <| hmemQ (X' := [_, _, _, _, _, _]) (S' := [_, _, _, _]) (fun _ m => m) <| hthen <| hret <| hthen_ret <| ?_
    exact hret1 trivial rfl rfl [] rfl [] rfl ⟨rfl, rfl, rfl⟩
  · have hE := hno (fun h => hz h.symm)
    rw [hE] at hD4
    refine hcskip <| hthen <| hseq <| hreg <| hy (fun _ => y_move rfl) <| ?_
    rw [hE, ha]
    refine hy (fun _ => y_eql rfl rfl) <| hy (fun _ => y_move rfl) <| hyg (o := _) rfl rfl rfl (fun _ => y_move rfl) <| hyg (o := _) rfl rfl rfl (fun _ => y_eql rfl rfl) <| hy (fun _ => y_pickT rfl rfl) <| hy (fun _ => y_move rfl) <| hyg (o := _) rfl rfl rfl (fun _ => y_move rfl) <| hyg (o := _) rfl rfl rfl (fun _ => y_eql rfl rfl) <| hy (fun _ => y_pickT rfl rfl) <| hy (fun _ => y_move rfl) <| hyg (o := _) rfl rfl rfl (fun _ => y_move rfl) <| hyg (o := _) rfl rfl rfl (fun m => y_b2s rfl Tryd.underlying32 Tryd.underlying5 Tryd.underlying9 (m.ord 1 rfl)) <| hyg (o := _) rfl rfl rfl (fun _ => y_move rfl) <| hyg (o := _) rfl rfl rfl (fun m => y_b2s rfl Tryd.underlying32 Tryd.underlying5 Tryd.underlying9 (m.ord 3 rfl)) <| hyg (o := _) rfl rfl rfl (fun _ => yT (y_seq rfl rfl) ((decide_eq_true rfl))) <| hy (fun _ => y_pickT rfl rfl) <| hy (fun _ => y_move rfl) <| ?_
    refine hxg (o := _) rfl rfl rfl (xh_call rfl Tryd.call20 (lives22C) [] rfl [3] rfl ?_)
    rintro _ _ _ ⟨rfl, rfl, rfl⟩
    refine hy (fun _ => y_pickT rfl rfl) <| hy (fun _ => y_assign rfl) <| hend <| hsub (ρ' := [(6, _), (60, _), (13, _), (12, _), (11, _), (10, _), (9, _), (8, _), (16, _), (7, _), (5, _), (0, _), (1, _), (2, _)]) ⟨rfl, rfl, rfl, rfl, rfl, rfl, rfl, rfl, rfl, rfl, rfl, rfl, rfl, rfl, trivial⟩ <| hmemQ (X' := [_, _, _, _, _, _]) (S' := [_, _, _, _]) (fun _ m => m) <| hthen <| hret <| ?_
    exact hret1 trivial rfl rfl [] rfl [] rfl ⟨rfl, rfl, rfl⟩
theorem slotsWrong (A : Option Addr) (n c : Nat) (la : List UInt8) (B : Option Addr) (m1 c1 : Nat) (lb im : List UInt8) (W : World) (h1 : Rd W 1 A n (b8s la)) (hc : n ≤ c) (hn : n ≤ 140737488351232) (h2 : Rd W 1 B m1 (b8s lb)) (hc1 : m1 ≤ c1) (hm1 : m1 ≤ 140737488351232) (hi : im.length = 32) (hro : RRoots.holds W) :
    Calls Tryd.prog 5 #[.slice A n c, .slice B m1 c1, .agg (b8s im).toArray] W fun e w' => e = .returned (.bool true) ∧ Fr No W w' :=
  con_calls (slotsWrongC hc hn hc1 hm1 hi) (by
    intro s hs
    simp only [List.mem_cons, List.not_mem_nil, or_false] at hs
    rcases hs with rfl | rfl | rfl
    · exact h1
    · exact h2
    · exact hro)
end Go.Proofs.YtfikjheicjamhaaDoor
