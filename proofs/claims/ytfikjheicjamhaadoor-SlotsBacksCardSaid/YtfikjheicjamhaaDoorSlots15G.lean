/- The law SlotsBacks. -/
import Derived.Test.YtfikjheicjamhaaDoorG10
import Derived.Test.YtfikjheicjamhaaDoorPlainSl6G
set_option linter.unusedVariables false
set_option linter.unusedSimpArgs false
set_option maxRecDepth 20000
namespace Go.Proofs.YtfikjheicjamhaaDoor
open Go.Eng Go.Hx
def two (a b : List UInt8) : List Value := [SV a, SV b]
theorem two_get {a b : List UInt8} : ∀ {i : Nat}, i < 2 → (two a b)[i]? = some (SV (if i = 0 then a else b))
  | 0, _ => rfl
  | 1, _ => rfl
theorem slotsBacksC {A : Option Addr} {n c : Nat} {la : List UInt8} {B : Option Addr} {m1 c1 : Nat} {lb : List UInt8} {z : Int} (hc : n ≤ c) (hn : n ≤ 140737488351232) (hc1 : m1 ≤ c1) (hm1 : m1 ≤ 140737488351232) (hz : -9223372036854775808 ≤ z ∧ z ≤ 9223372036854775807) : Con Tryd.prog 6 [.slice A n c, .slice B m1 c1, .int .i64 z] [] [RRd 1 A n (b8s la), RRd 1 B m1 (b8s lb), RRoots] (fun v_ X_ S_ => v_ = (.bool true) ∧ X_ = [] ∧ S_ = []) := by
  have hs0 := begun_sst (room := 2000) (by decide)
  have hb0 : begun 2000 = ((RD.new 2000).saveSup Sup.zero).1 := rfl
  rw [← hb0] at hs0
  generalize hbe : begun 2000 = d0 at hb0 hs0
  obtain ⟨ar0, ar1⟩ := around_lt z 6 (by decide)
  refine henter (N := 151) Tryd.func6 rfl rfl (by simp) fun b => ?_
  refine hfactC (fun m => rdB (m.rd 0 rfl)) ?_
  rintro ⟨hl_ra, hA_ra⟩
  refine hfactC (fun m => rdB (m.rd 1 rfl)) ?_
  rintro ⟨hl_rb, hA_rb⟩
  refine hseq <| hreg <| hy (fun _ => y_assign rfl) <| hend <| hthen <| hseq <| hreg <| ?_
  refine hx (xh_call rfl Tryd.call26 (beginC (by decide) (by decide)) [] rfl [] rfl ?_)
  rintro _ _ _ ⟨gw, gd, st, y, rfl, rfl, rfl, hg⟩
  refine hy (fun _ => y_assign rfl) <| hend <| hsub (ρ' := [(7, _), (6, _), (0, _), (1, _), (2, _)]) ⟨rfl, rfl, rfl, rfl, rfl, trivial⟩ <| hmemQ (X' := [_, _]) (S' := [_, _, _, _]) (fun _ m => m) <| hthen <| hseq <| hseq <| hreg <| hy (fun _ => y_move rfl) <| hy (fun _ => y_eqPn rfl rfl (by kernel_rfl)) <| hend <| hsub (ρ' := [(26, _), (7, _), (6, _), (0, _), (1, _), (2, _)]) ⟨rfl, rfl, rfl, rfl, rfl, rfl, trivial⟩ <| hthen <| ?_
  refine hiff rfl (rfl) ?_
  obtain ⟨hD0, hy0⟩ := hg
  rw [hbe] at hD0
  obtain ⟨X0, hX0⟩ : ∃ X0, X0 = la.take 40 := ⟨_, rfl⟩
  obtain ⟨Y0, hY0⟩ : ∃ Y0, Y0 = lb.take 40 := ⟨_, rfl⟩
  have hXl : X0.length = min n 40 := by rw [hX0, List.length_take, hl_ra, Nat.min_comm]
  have hYl : Y0.length = min m1 40 := by rw [hY0, List.length_take, hl_rb, Nat.min_comm]
  have hX40 : X0.length ≤ 40 := by omega
  have hY40 : Y0.length ≤ 40 := by omega
  obtain ⟨d1, d2, d3, d4, i1, i3, e0, e1, e2, e3, e4, e5, hB0⟩ := backs_start hX40 hY40 hs0
  refine hcskip <| hthen <| hseq <| hreg <| hy (fun _ => y_move rfl) <| ?_
  refine hx (xh_call rfl Tryd.call21 (fewC (by omega) (by omega) (m := 40)) [] rfl [1] rfl ?_)
  rintro _ _ _ ⟨v, rfl, rfl, rfl⟩
  refine hfactL (fun m => (m.own 0 rfl).slice) ?_
  rintro ⟨A_x, c_x, rfl, hc_x⟩
  refine hfactL (fun m => (m.ord 0 rfl).2.1) fun hA_x => ?_
  refine hy (fun _ => y_assign rfl) <| hend <| hsub (ρ' := [(8, _), (26, _), (7, _), (6, _), (0, _), (1, _), (2, _)]) ⟨rfl, rfl, rfl, rfl, rfl, rfl, rfl, trivial⟩ <| hmemQ (X' := [_, _, _]) (S' := [_, _, _, _]) (fun _ m => m) <| hthen <| hseq <| hreg <| hy (fun _ => y_move rfl) <| ?_
  refine hx (xh_call rfl Tryd.call21 (fewC (by omega) (by omega) (m := 40)) [] rfl [2] rfl ?_)
  rintro _ _ _ ⟨v2, rfl, rfl, rfl⟩
  refine hfactL (fun m => (m.own 0 rfl).slice) ?_
  rintro ⟨A_x2, c_x2, rfl, hc_x2⟩
  refine hfactL (fun m => (m.ord 0 rfl).2.1) fun hA_x2 => ?_
  refine hy (fun _ => y_assign rfl) <| hend <| hsub (ρ' := [(9, _), (8, _), (26, _), (7, _), (6, _), (0, _), (1, _), (2, _)]) ⟨rfl, rfl, rfl, rfl, rfl, rfl, rfl, rfl, trivial⟩ <| hmemQ (X' := [_, _, _, _]) (S' := [_, _, _, _]) (fun _ m => m) <| hthen <| hseq <| hreg <| hy (fun _ => y_move rfl) <| hy (fun _ => y_nilp rfl) <| hy (fun _ => y_fld rfl fa64_0 (by decide)) <| ?_
  refine hmemL (fun w m => m.eqX 1 rfl (show _ = ROwn 5 1 (.slice A_x (min n 40) c_x) (min n 40) (b8s X0) from by rw [hX0])) ?_
  refine hmemL (fun w m => m.eqX 1 rfl (show _ = ROwn 5 1 (.slice A_x2 (min m1 40) c_x2) (min m1 40) (b8s Y0) from by rw [hY0])) ?_
  refine hy (fun m => y_ld1 rfl ag58 (ld_blk (m.blk 2 rfl) (i := 0) rfl)) <| ?_
  refine hx (xh_call rfl Tryd.call31 (backSC hD0 (by decide)) [3] rfl [3] rfl ?_)
  rintro _ _ _ ⟨st1, rfl, rfl, rfl, hE0⟩
  refine hy (fun _ => y_move rfl) <| hy (fun _ => y_extract rfl rfl) <| hy (fun _ => y_extract rfl rfl) <| hy (fun _ => y_assign rfl) <| hy (fun _ => y_assign rfl) <| hend <| hsub (ρ' := [(11, _), (9, _), (8, _), (26, _), (7, _), (6, _), (0, _), (1, _), (2, _)]) ⟨rfl, rfl, rfl, rfl, rfl, rfl, rfl, rfl, rfl, trivial⟩ <| hmemQ (X' := [_, _, _, _]) (S' := [_, _, _, _]) (fun _ m => m) <| hthen <| hseq <| hreg <| ?_
  rw [e0] at hE0 ⊢
  refine hy (fun _ => y_move rfl) <| hy (fun _ => y_nilp rfl) <| hy (fun _ => y_fld rfl fa64_0 (by decide)) <| hy (fun m => y_ld1 rfl ag58 (ld_blk (m.blk 3 rfl) (i := 0) rfl)) <| hy (fun _ => y_move rfl) <| ?_
  refine hx (xh_calll rfl Tryd.call27 (stageSC hXl hE0 (by decide) (bb := X0)) [0] rfl (.x 1 rfl .own .nil) ?_)
  rintro _ _ _ ⟨st12, rfl, rfl, rfl, hE1⟩
  refine ⟨rfl, ?_⟩
  refine hend <| hsub (ρ' := [(11, _), (9, _), (8, _), (26, _), (7, _), (6, _), (0, _), (1, _), (2, _)]) ⟨rfl, rfl, rfl, rfl, rfl, rfl, rfl, rfl, rfl, trivial⟩ <| hmemQ (X' := [_, _, _, _]) (S' := [_, _, _, _]) (fun _ m => m) <| hthen <| hseq <| hdrw [5, 6] [(0, some 1), (1, some 1), (2, some 1), (3, some 1), (4, some 0), (5, none), (6, none), (7, some 2), (8, some 2), (9, some 2), (10, some 2), (11, some 2)] (by kernel_rfl) (by kernel_rfl) rfl 1 <| ?_
  rw [e1] at hE1
  refine htyU (y_move rfl) <| htyU (y_nilp rfl) <| htyU (y_fld rfl fa64_0 (by decide)) <| hty (fun m => y_ld1 rfl ag58 (ld_blk (m.blk 3 rfl) (i := 0) rfl)) <| htyU (y_move rfl) <| ?_
  refine htx (xh_calll rfl Tryd.call29 (rshaSumC (by omega)) [] rfl (.x 2 rfl .own .nil) ?_)
  rintro _ _ _ ⟨rfl, rfl, rfl⟩
  refine ⟨rfl, ?_⟩
  refine ⟨(fun _ => wk [0, 0, 0, 0] [0, 1, 2, 3] rfl rfl), ?_⟩
  refine htx (xh_call rfl Tryd.call28 (flipSC (shaL_length _) hE1 (by decide)) [0] rfl [3] rfl ?_)
  rintro _ _ _ ⟨st13, rfl, rfl, rfl, hE2⟩
  refine ⟨(fun h => absurd h (by decide)), ?_⟩
  refine htyU (y_move rfl) <| htyU (y_extract rfl rfl) <| htyU (y_extract rfl rfl) <| htyU (y_assign rfl) <| htyU (y_assign rfl) <| htend <| hsub (ρ' := [(13, _), (12, _), (11, _), (9, _), (8, _), (26, _), (7, _), (6, _), (0, _), (1, _), (2, _)]) ⟨rfl, rfl, rfl, rfl, rfl, rfl, rfl, rfl, rfl, rfl, rfl, trivial⟩ <| hmemQ (X' := [_, _, _, _]) (S' := [_, _, _, _]) (fun _ m => m) <| hthen <| hseq <| hreg <| hy (fun _ => y_move rfl) <| hy (fun _ => y_nilp rfl) <| hy (fun _ => y_fld rfl fa64_0 (by decide)) <| ?_
  rw [e2] at hE2 ⊢
  refine hy (fun m => y_ld1 rfl ag58 (ld_blk (m.blk 3 rfl) (i := 0) rfl)) <| ?_
  refine hx (xh_call rfl Tryd.call31 (backSC hE2 (by decide)) [0] rfl [3] rfl ?_)
  rintro _ _ _ ⟨st14, rfl, rfl, rfl, hE3⟩
  refine hy (fun _ => y_move rfl) <| hy (fun _ => y_extract rfl rfl) <| hy (fun _ => y_extract rfl rfl) <| hy (fun _ => y_assign rfl) <| hy (fun _ => y_assign rfl) <| hend <| hsub (ρ' := [(15, _), (13, _), (12, _), (11, _), (9, _), (8, _), (26, _), (7, _), (6, _), (0, _), (1, _), (2, _)]) ⟨rfl, rfl, rfl, rfl, rfl, rfl, rfl, rfl, rfl, rfl, rfl, rfl, trivial⟩ <| hmemQ (X' := [_, _, _, _]) (S' := [_, _, _, _]) (fun _ m => m) <| hthen <| hseq <| hreg <| ?_
  rw [e3] at hE3 ⊢
  refine hy (fun _ => y_move rfl) <| hy (fun _ => y_nilp rfl) <| hy (fun _ => y_fld rfl fa64_0 (by decide)) <| hy (fun m => y_ld1 rfl ag58 (ld_blk (m.blk 3 rfl) (i := 0) rfl)) <| hy (fun _ => y_move rfl) <| ?_
  refine hx (xh_calll rfl Tryd.call27 (stageSC hYl hE3 (by decide) (bb := Y0)) [0] rfl (.x 0 rfl .own .nil) ?_)
  rintro _ _ _ ⟨st15, rfl, rfl, rfl, hE4⟩
  refine ⟨rfl, ?_⟩
  refine hend <| hsub (ρ' := [(15, _), (13, _), (12, _), (11, _), (9, _), (8, _), (26, _), (7, _), (6, _), (0, _), (1, _), (2, _)]) ⟨rfl, rfl, rfl, rfl, rfl, rfl, rfl, rfl, rfl, rfl, rfl, rfl, trivial⟩ <| hmemQ (X' := [_, _, _, _]) (S' := [_, _, _, _]) (fun _ m => m) <| hthen <| hseq <| hdrwB [1, 1, 1] [0, 1, 2, 3] rfl rfl [5, 6] [(0, some 1), (1, some 1), (2, some 1), (3, some 1), (4, some 0), (5, none), (6, none), (7, some 2), (8, some 2), (9, some 2), (10, some 2), (11, some 2)] (by kernel_rfl) (by kernel_rfl) rfl 99 <| ?_
  rw [e4] at hE4
  refine htyU (y_move rfl) <| htyU (y_nilp rfl) <| htyU (y_fld rfl fa64_0 (by decide)) <| hty (fun m => y_ld1 rfl ag58 (ld_blk (m.blk 2 rfl) (i := 0) rfl)) <| htyU (y_move rfl) <| ?_
  refine htx (xh_calll rfl Tryd.call29 (rshaSumC (by omega)) [] rfl (.x 1 rfl .own .nil) ?_)
  rintro _ _ _ ⟨rfl, rfl, rfl⟩
  refine ⟨rfl, ?_⟩
  refine ⟨(fun _ => wk [1, 1, 1] [0, 1, 2, 3] rfl rfl), ?_⟩
  refine htx (xh_call rfl Tryd.call28 (flipSC (shaL_length _) hE4 (by decide)) [0] rfl [3] rfl ?_)
  rintro _ _ _ ⟨st16, rfl, rfl, rfl, hE5⟩
  refine ⟨(fun _ => wk [1, 1, 1] [0, 1, 2, 3] rfl rfl), ?_⟩
  refine htyU (y_move rfl) <| htyU (y_extract rfl rfl) <| htyU (y_extract rfl rfl) <| htyU (y_assign rfl) <| htyU (y_assign rfl) <| htend <| hsub (ρ' := [(17, _), (16, _), (15, _), (13, _), (12, _), (11, _), (9, _), (8, _), (26, _), (7, _), (6, _), (0, _), (1, _), (2, _)]) ⟨rfl, rfl, rfl, rfl, rfl, rfl, rfl, rfl, rfl, rfl, rfl, rfl, rfl, rfl, trivial⟩ <| hmemQ (X' := [_, _, _, _]) (S' := [_, _, _, _]) (fun _ m => m) <| hthen <| hseq <| hseq <| hreg <| ?_
  rw [e5] at hE5 ⊢
  refine hy (fun _ => y_move rfl) <| hy (fun _ => y_neq rfl rfl) <| hy (fun _ => y_move rfl) <| hyg (o := _) rfl rfl rfl (fun _ => y_move rfl) <| hyg (o := _) rfl rfl rfl (fun _ => y_neq rfl rfl) <| hy (fun _ => y_pickF rfl rfl) <| hy (fun _ => y_move rfl) <| hyg (o := _) rfl rfl rfl (fun _ => y_move rfl) <| hyg (o := _) rfl rfl rfl (fun _ => y_neq rfl rfl) <| hy (fun _ => y_pickF rfl rfl) <| hy (fun _ => y_move rfl) <| hyg (o := _) rfl rfl rfl (fun _ => y_move rfl) <| hyg (o := _) rfl rfl rfl (fun _ => y_neq rfl rfl) <| hy (fun _ => y_pickF rfl rfl) <| hy (fun _ => y_move rfl) <| hyg (o := _) rfl rfl rfl (fun _ => y_move rfl) <| hyg (o := _) rfl rfl rfl (fun _ => y_neq rfl rfl) <| hy (fun _ => y_pickF rfl rfl) <| hy (fun _ => y_move rfl) <| hyg (o := _) rfl rfl rfl (fun _ => y_move rfl) <| hyg (o := _) rfl rfl rfl (fun _ => y_neq rfl rfl) <| hy (fun _ => y_pickF rfl rfl) <| hend <| hsub (ρ' := [(100, _), (17, _), (16, _), (15, _), (13, _), (12, _), (11, _), (9, _), (8, _), (26, _), (7, _), (6, _), (0, _), (1, _), (2, _)]) ⟨rfl, rfl, rfl, rfl, rfl, rfl, rfl, rfl, rfl, rfl, rfl, rfl, rfl, rfl, rfl, trivial⟩ <| hthen <| ?_
  refine hiff rfl (rfl) ?_
  obtain ⟨N0, hN0⟩ : ∃ N0 : Nat, around z 6 = (N0 : Int) := ⟨(around z 6).toNat, by omega⟩
  have hN6 : N0 < 6 := by omega
  refine hcskip <| hthen <| hseq <| hreg <| hy (fun _ => y_move rfl) <| hy (fun m => y_b2s rfl Tryd.underlying32 Tryd.underlying5 Tryd.underlying9 (m.ord 1 rfl)) <| hy (fun _ => y_move rfl) <| hy (fun m => y_b2s rfl Tryd.underlying32 Tryd.underlying5 Tryd.underlying9 (m.ord 2 rfl)) <| ?_
  refine hx (xh_bsl Tryd.underlying70 ti9 rfl rfl rfl (by simp [Value.cells, B8]) (by decide) (by decide) (fun g105 => ?_))
  have hA_b105 : 0 < 2 → (some (⟨g105, 0, none⟩ : Addr)) ≠ none := fun _ h => by cases h
  refine hy (fun _ => y_assign rfl) <| hend <| hsub (ρ' := [(18, _), (100, _), (17, _), (16, _), (15, _), (13, _), (12, _), (11, _), (9, _), (8, _), (26, _), (7, _), (6, _), (0, _), (1, _), (2, _)]) ⟨rfl, rfl, rfl, rfl, rfl, rfl, rfl, rfl, rfl, rfl, rfl, rfl, rfl, rfl, rfl, rfl, trivial⟩ <| hmemQ (X' := [_, _, _, _, _]) (S' := [_, _, _, _]) (fun _ m => m) <| hthen <| hseq <| hseq <| hreg <| hy (fun _ => y_assign rfl) <| hend <| hthen <| hblock <| ?_
  refine hmemC (fun w m => m.eqX 0 rfl (show _ = ROwn 9 1 (.slice (some ⟨g105, 0, none⟩) 2 2) 2 (two Y0 X0) from rfl)) ?_
  refine hloop3 (fun k st dd => N0 - k) (fun k st dd => [(19, .int .i64 ((k + 1 : Nat) : Int))]) (fun k st dd => [RDisk gd st]) (fun k st dd => []) (fun k st dd => k ≤ N0 ∧ BI X0 Y0 dd k ∧ DS st dd (20 + 2 * k)) 0 st16 d4 [(18, _), (100, _), (17, _), (16, _), (15, _), (13, _), (12, _), (11, _), (9, _), (8, _), (26, _), (7, _), (0, _), (1, _), (2, _)] ⟨rfl, rfl, rfl, rfl, rfl, rfl, rfl, rfl, rfl, rfl, rfl, rfl, rfl, rfl, rfl, trivial⟩ [1] rfl [] rfl (⟨Nat.zero_le _, hB0, hE5.le (by decide)⟩) ⟨rfl, trivial⟩ (fun k st dd ⟨hk, hB, hDD⟩ => ?_)
  refine hseq <| hseq <| hreg <| hy (fun _ => y_move rfl) <| hy (fun _ => y_move rfl) <| ?_
  refine hx (xh_call rfl Tryd.call14 (aroundC hz.1 hz.2 (by decide) (n := z) (m := 6)) [] rfl [] rfl ?_)
  rintro _ _ _ ⟨rfl, rfl, rfl⟩
  refine hy (fun _ => y_leq rfl rfl) <| hend <| hsub (ρ' := [(109, _), (19, _), (18, _), (100, _), (17, _), (16, _), (15, _), (13, _), (12, _), (11, _), (9, _), (8, _), (26, _), (7, _), (0, _), (1, _), (2, _)]) ⟨rfl, rfl, rfl, rfl, rfl, rfl, rfl, rfl, rfl, rfl, rfl, rfl, rfl, rfl, rfl, rfl, rfl, trivial⟩ <| hmemQ (X' := [_, _, _, _, _]) (S' := [_, _, _, _]) (fun _ m => m) <| hthen <| ?_
  refine hif rfl (fun hlt => ?_) (fun hlt => ?_)
  · have hk6 : k < 6 := by omega
    obtain ⟨d5, f1, f2, f3⟩ := backs_step hX40 hY40 hB hk6
    refine hcskip <| hthen <| hseq <| hblock <| hseq <| hreg <| hy (fun _ => y_move rfl) <| hy (fun _ => y_nilp rfl) <| hy (fun _ => y_fld rfl fa64_0 (by decide)) <| hy (fun m => y_ld1 rfl ag58 (ld_blk (m.blk 4 rfl) (i := 0) rfl)) <| ?_
    refine hx (xh_call rfl Tryd.call31 (backSC hDD (by omega)) [0] rfl [3] rfl ?_)
    rintro _ _ _ ⟨st17, rfl, rfl, rfl, hE6⟩
    refine hy (fun _ => y_move rfl) <| hy (fun _ => y_extract rfl rfl) <| hy (fun _ => y_extract rfl rfl) <| hy (fun _ => y_assign rfl) <| hy (fun _ => y_assign rfl) <| hend <| hsub (ρ' := [(21, _), (20, _), (109, _), (19, _), (18, _), (100, _), (17, _), (16, _), (15, _), (13, _), (12, _), (11, _), (9, _), (8, _), (26, _), (7, _), (0, _), (1, _), (2, _)]) ⟨rfl, rfl, rfl, rfl, rfl, rfl, rfl, rfl, rfl, rfl, rfl, rfl, rfl, rfl, rfl, rfl, rfl, rfl, rfl, trivial⟩ <| hmemQ (X' := [_, _, _, _, _]) (S' := [_, _, _, _]) (fun _ m => m) <| hthen <| hseq <| hreg <| ?_
    rw [f1] at hE6 ⊢
    refine hy (fun _ => y_move rfl) <| hy (fun _ => y_nilp rfl) <| hy (fun _ => y_fld rfl fa64_0 (by decide)) <| hy (fun m => y_ld1 rfl ag58 (ld_blk (m.blk 4 rfl) (i := 0) rfl)) <| ?_
    refine hx (xh_call rfl Tryd.call30 (activeSC hE6) [0] rfl [3] rfl ?_)
    rintro _ _ _ ⟨v3, rfl, rfl, rfl⟩
    refine hfactL (fun m => (m.own 1 rfl).slice) ?_
    rintro ⟨A_x3, c_x3, rfl, hc_x3⟩
    refine hfactL (fun m => (m.ord 1 rfl).2.1) fun hA_x3 => ?_
    refine hy (fun _ => y_move rfl) <| hy (fun _ => y_extract rfl rfl) <| hy (fun _ => y_extract rfl rfl) <| hy (fun _ => y_assign rfl) <| hy (fun _ => y_assign rfl) <| hend <| hsub (ρ' := [(23, _), (22, _), (21, _), (20, _), (109, _), (19, _), (18, _), (100, _), (17, _), (16, _), (15, _), (13, _), (12, _), (11, _), (9, _), (8, _), (26, _), (7, _), (0, _), (1, _), (2, _)]) ⟨rfl, rfl, rfl, rfl, rfl, rfl, rfl, rfl, rfl, rfl, rfl, rfl, rfl, rfl, rfl, rfl, rfl, rfl, rfl, rfl, rfl, trivial⟩ <| hmemQ (X' := [_, _, _, _, _, _]) (S' := [_, _, _, _]) (fun _ m => m) <| hthen <| hseq <| hdrwB [1, 1, 1, 1, 1] [0, 1, 2, 3] rfl rfl [] [(0, some 0), (1, some 0), (2, some 0), (3, some 0), (4, some 0), (5, some 0), (6, some 0), (7, some 0), (8, some 0), (9, some 0), (10, some 0), (11, some 0), (12, some 0), (13, some 0), (14, some 0), (15, some 0), (16, some 0), (17, some 0), (18, some 0), (19, some 0), (20, some 0), (21, some 0)] (by kernel_rfl) (by kernel_rfl) rfl 99 <| ?_
    rw [f3]
    have hE7 : DS st17 d5 (20 + 2 * (k + 1)) := hE6
    refine htyU (y_move rfl) <| htyU (y_move rfl) <| htyU (y_add rfl rfl (w64 (by omega) (by omega))) <| htyU (yF (y_neq rfl rfl) ((decide_eq_false (fun h => h rfl)))) <| htyU (y_move rfl) <| htyUg (o := _) rfl rfl rfl (y_move rfl) <| htyUg (o := _) rfl rfl rfl (y_neq rfl rfl) <| htyU (y_pickF rfl rfl) <| htyU (y_move rfl) <| htyUg (o := _) rfl rfl rfl (y_move rfl) <| htyUg (o := _) rfl rfl rfl (y_neq rfl rfl) <| htyU (y_pickF rfl rfl) <| htyU (y_move rfl) <| htyUg (o := _) rfl rfl rfl (y_move rfl) <| htyg (o := _) rfl rfl rfl (fun m => y_b2s rfl Tryd.underlying32 Tryd.underlying5 Tryd.underlying9 (m.ord 0 rfl)) <| htyUg (o := _) rfl rfl rfl (y_move rfl) <| htyUg (o := _) rfl rfl rfl (y_move rfl) <| htyUg (o := _) rfl rfl rfl (y_rem rfl rfl (by omega) (by omega)) <| htyUg (o := _) rfl rfl rfl (y_idxS1 rfl rfl Tryd.underlying70 sz9 hA_b105 (show ((((k + 1) % 2 : Nat)) : Int) = _ by omega) (by omega)) <| htyg (o := _) rfl rfl rfl (fun m => yV (y_ld1 rfl ag9 ((m.ord 1 rfl).cell (two_get (Nat.mod_lt _ (by decide))))) ((rfl : _ = Value.string (strOf (if (k + 1) % 2 = 0 then Y0 else X0))))) <| htyUg (o := _) rfl rfl rfl (yF (y_sne rfl rfl) ((decide_eq_false (fun h => h rfl)))) <| htyU (y_pickF rfl rfl) <| htend <| hsub (ρ' := [(149, _), (23, _), (22, _), (21, _), (20, _), (109, _), (19, _), (18, _), (100, _), (17, _), (16, _), (15, _), (13, _), (12, _), (11, _), (9, _), (8, _), (26, _), (7, _), (0, _), (1, _), (2, _)]) ⟨rfl, rfl, rfl, rfl, rfl, rfl, rfl, rfl, rfl, rfl, rfl, rfl, rfl, rfl, rfl, rfl, rfl, rfl, rfl, rfl, rfl, rfl, trivial⟩ <| hthen <| ?_
    refine hiff rfl (rfl) ?_
    refine hcskip <| hqblock <| hthen <| hreg <| hy (fun _ => y_move rfl) <| hy (fun _ => y_add rfl rfl (w64 (by omega) (by omega))) <| hy (fun _ => y_assign rfl) <| hend <| hsub (ρ' := [(19, _), (149, _), (23, _), (22, _), (21, _), (20, _), (109, _), (18, _), (100, _), (17, _), (16, _), (15, _), (13, _), (12, _), (11, _), (9, _), (8, _), (26, _), (7, _), (0, _), (1, _), (2, _)]) ⟨rfl, rfl, rfl, rfl, rfl, rfl, rfl, rfl, rfl, rfl, rfl, rfl, rfl, rfl, rfl, rfl, rfl, rfl, rfl, rfl, rfl, rfl, trivial⟩ <| ?_
    refine hnext3 (k + 1) st17 d5 ⟨rfl, rfl, rfl, rfl, rfl, rfl, rfl, rfl, rfl, rfl, rfl, rfl, rfl, rfl, rfl, rfl, trivial⟩ [0, 1, 1, 1, 1] rfl [0, 1, 2, 3] rfl (⟨by omega, f2, hE7⟩) (by omega)
  · refine hexit <| hthen_exit <| hthen_exit <| hqblock_exit <| hthen <| hseq <| hreg <| ?_
    refine hx (xh_call rfl Tryd.call20 (lives22C) [] rfl [3] rfl ?_)
    rintro _ _ _ ⟨rfl, rfl, rfl⟩
    refine hy (fun _ => y_assign rfl) <| hend <| hsub (ρ' := [(6, _), (109, _), (19, _), (18, _), (100, _), (17, _), (16, _), (15, _), (13, _), (12, _), (11, _), (9, _), (8, _), (26, _), (7, _), (0, _), (1, _), (2, _)]) ⟨rfl, rfl, rfl, rfl, rfl, rfl, rfl, rfl, rfl, rfl, rfl, rfl, rfl, rfl, rfl, rfl, rfl, rfl, trivial⟩ <| hmemQ (X' := [_, _, _, _, _]) (S' := [_, _, _, _]) (fun _ m => m) <| hthen <| hret <| ?_
    exact hret1 trivial rfl rfl [] rfl [] rfl ⟨rfl, rfl, rfl⟩
theorem slotsBacks (A : Option Addr) (n c : Nat) (la : List UInt8) (B : Option Addr) (m1 c1 : Nat) (lb : List UInt8) (z : Int) (W : World) (h1 : Rd W 1 A n (b8s la)) (hc : n ≤ c) (hn : n ≤ 140737488351232) (h2 : Rd W 1 B m1 (b8s lb)) (hc1 : m1 ≤ c1) (hm1 : m1 ≤ 140737488351232) (hz : -9223372036854775808 ≤ z ∧ z ≤ 9223372036854775807) (hro : RRoots.holds W) :
    Calls Tryd.prog 6 #[.slice A n c, .slice B m1 c1, .int .i64 z] W fun e w' => e = .returned (.bool true) ∧ Fr No W w' :=
  con_calls (slotsBacksC hc hn hc1 hm1 hz) (by
    intro s hs
    simp only [List.mem_cons, List.not_mem_nil, or_false] at hs
    rcases hs with rfl | rfl | rfl
    · exact h1
    · exact h2
    · exact hro)
end Go.Proofs.YtfikjheicjamhaaDoor
