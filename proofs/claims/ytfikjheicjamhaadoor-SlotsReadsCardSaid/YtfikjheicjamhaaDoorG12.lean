import Derived.Test.YtfikjheicjamhaaDoorG9
import Derived.Test.YtfikjheicjamhaaDoorG11
section
/- Contracts: law 22's superblocks made of anything: Good, of, as. -/
set_option linter.unusedVariables false
set_option linter.unusedSimpArgs false
set_option maxRecDepth 20000
namespace Go.Proofs.YtfikjheicjamhaaDoor
open Go.Eng Go.Hx
def _root_.Go.Hx.Sl.good (x : Sl) : Sl := if x.full then ⟨true, x.image, around x.size 65537⟩ else Sl.zero
def _root_.Go.Hx.Sup.good (s : Sup) : Sup := ⟨around s.active 2, around s.gen 2147483648, s.s0.good, s.s1.good⟩
theorem around_b (n m : Int) (hm : 0 < m) (hb : m ≤ 9223372036854775807) : -9223372036854775808 ≤ around n m ∧ around n m ≤ 9223372036854775807 := by
  obtain ⟨h1, h2⟩ := around_lt n m hm
  omega
theorem good_wf0 {x : Sl} (h : x.wf) : x.good.wf := by
  unfold Sl.good
  split
  · exact ⟨h.len, (around_b _ _ (by decide) (by decide)).1, (around_b _ _ (by decide) (by decide)).2⟩
  · exact Sl.zero_wf
theorem good_wf {s : Sup} (h : s.wf) : s.good.wf := ⟨(around_b _ _ (by decide) (by decide)).1, (around_b _ _ (by decide) (by decide)).2, (around_b _ _ (by decide) (by decide)).1, (around_b _ _ (by decide) (by decide)).2, good_wf0 h.w0, good_wf0 h.w1⟩
theorem good_may0 (x : Sl) : x.good.may := by
  obtain ⟨h1, h2⟩ := around_lt x.size 65537 (by decide)
  unfold Sl.good
  split
  · exact ⟨h1, by show around x.size 65537 ≤ _; omega, fun h => by cases h⟩
  · decide
theorem good_may (s : Sup) : s.good.may := by
  obtain ⟨h1, h2⟩ := around_lt s.active 2 (by decide)
  obtain ⟨h3, h4⟩ := around_lt s.gen 2147483648 (by decide)
  exact ⟨by show around s.active 2 = 0 ∨ around s.active 2 = 1; omega, h3, by show around s.gen 2147483648 ≤ _; omega, good_may0 _, good_may0 _⟩
theorem goodSC {s : Sup} (h : s.wf) : Con Tryd.prog 13 [.agg s.cs.toArray] [] [] (fun v_ X_ S_ => v_ = (.agg s.good.cs.toArray) ∧ X_ = [] ∧ S_ = []) := by
  refine henter (N := 36) Tryd.func13 rfl rfl (by simp) fun b => ?_
  refine hseq <| hreg <| ?_
  refine hx (xh_box rfl (fun g1 => ?_))
  refine hmemL (fun w m => m.eqX 0 rfl (show _ = RBlk g1 27 s.cs from congrArg (RBlk _ _) (cells_agg _))) ?_
  have hP0 : (Sup.mk (around s.active 2) (around s.gen 2147483648) Sl.zero Sl.zero).wf := ⟨(good_wf h).a0, (good_wf h).a1, (good_wf h).g0, (good_wf h).g1, Sl.zero_wf, Sl.zero_wf⟩
  refine hx (xh_alloc ti27 (fun g2 => ?_))
  refine hend <| hmemQ (X' := [_, _]) (S' := []) (fun _ m => m) <| hthen <| hseq <| hdrwPB [0, 0] [] rfl rfl [2, 5, 7, 8] (.take 0 3 <| .take 1 3 <| .take 3 3 <| .take 4 3 <| .alt 2 (.alt 5 (.take 6 3 <| .alt 7 (.alt 8 (.done) (.stop)) (.stop)) (.alt 7 (.alt 5 (.take 6 3 <| .alt 8 (.done) (.stop)) (.stop)) (.stop))) (.alt 7 (.alt 2 (.alt 5 (.take 6 3 <| .alt 8 (.done) (.stop)) (.stop)) (.stop)) (.stop))) (by kernel_rfl) (by kernel_rfl) rfl 3 <| hpyU (y_fld rfl fa27_0 (by decide)) <| hpy (fun m => y_ld1 rfl ag3 ((m.blk 1 rfl).cells0 0 _ sup0)) <| hpyU (y_fld rfl fa27_1 (by decide)) <| hpy (fun m => y_ld1 rfl ag3 ((m.blk 1 rfl).cells0 1 _ sup1)) <| ?_
  refine hpfork ?_ ?_
  · refine hpx (xh_call rfl Tryd.call14 (aroundC h.a0 h.a1 (by decide) (n := s.active) (m := 2)) [] rfl [] rfl ?_)
    rintro _ _ _ ⟨rfl, rfl, rfl⟩
    refine ⟨(fun _ => wk [0, 0] [] rfl rfl), ?_⟩
    refine hpfork ?_ ?_
    · refine hpx (xh_call rfl Tryd.call14 (aroundC h.g0 h.g1 (by decide) (n := s.gen) (m := 2147483648)) [] rfl [] rfl ?_)
      rintro _ _ _ ⟨rfl, rfl, rfl⟩
      refine ⟨(fun _ => wk [0, 0] [] rfl rfl), ?_⟩
      refine hpyU (yV (y_build ti27 rfl rfl (by kernel_rfl) (.cons (o := 0) (sz := 1) (by kernel_rfl) rfl rfl (Nat.le_of_ble_eq_true rfl) (.cons (o := 1) (sz := 1) (by kernel_rfl) rfl rfl (Nat.le_of_ble_eq_true rfl) .nil))) ((rfl : _ = Value.agg (Sup.mk (around s.active 2) (around s.gen 2147483648) Sl.zero Sl.zero).cs.toArray))) <| ?_
      refine hpx (xh_alloc ti27 (fun g3 => ⟨(fun _ => wk [1, 1] [] rfl rfl), ?_⟩))
      refine hpx0 (xh_stA 0 rfl rfl rfl sz27 (Sup.cs_len hP0) (Sup.cs_one (s := Sup.mk (around s.active 2) (around s.gen 2147483648) Sl.zero Sl.zero)) rfl ⟨(fun h => absurd h (by decide)), ?_⟩)
      refine hpend <| hsub (ρ' := [(3, _), (2, _), (1, _), (0, _)]) ⟨rfl, rfl, rfl, rfl, trivial⟩ <| hmemQ (X' := [_, _, _]) (S' := []) (fun _ m => m) <| hthen <| hseq <| hseq <| hreg <| hy (fun _ => y_fld rfl fa27_2 (by decide)) <| hy (fun _ => y_fld rfl fa25_0 (by decide)) <| hy (fun m => y_ld1 rfl ag4 (ld_blk (m.blk 2 rfl) rfl)) <| hend <| hsub (ρ' := [(13, _), (3, _), (2, _), (1, _), (0, _)]) ⟨rfl, rfl, rfl, rfl, rfl, trivial⟩ <| hthen <| ?_
      refine hifb rfl (fun q1 => ?_) (fun q1 => ?_)
      · have hg0 : s.s0.good = ⟨true, s.s0.image, around s.s0.size 65537⟩ := if_pos q1
        have hu0 := good_wf0 h.w0
        rw [hg0] at hu0
        have hput0 := sup_put hP0 (i := 0) (by decide) hu0
        refine hdrw [6, 9] [(0, some 1), (1, some 1), (2, some 1), (3, some 0), (4, some 0), (5, some 0), (6, none), (7, some 1), (8, some 1), (9, none)] (by kernel_rfl) (by kernel_rfl) rfl 1 <| htyU (y_fld rfl fa27_2 (by decide)) <| htyU (y_fld rfl fa25_1 (by decide)) <| hty (fun m => yV (y_ldN rfl ag23 sz23 (by rw [b8s_length, h.w0.len]) (fun j u hu => by rw [add_add, add_add]; exact (m.blk 2 rfl).cells0 (2 + (1 + j)) u (sup_s0 (sl_im hu)))) ((rfl : _ = Value.agg (b8s s.s0.image).toArray))) <| htyU (y_fld rfl fa27_2 (by decide)) <| htyU (y_fld rfl fa25_2 (by decide)) <| hty (fun m => y_ld1 rfl ag3 ((m.blk 2 rfl).cells0 35 _ (sup_s0 (sl33 h.w0)))) <| ?_
        refine htx (xh_call rfl Tryd.call14 (aroundC h.w0.lo h.w0.hi (by decide) (n := s.s0.size) (m := 65537)) [] rfl [] rfl ?_)
        rintro _ _ _ ⟨rfl, rfl, rfl⟩
        refine ⟨(fun _ => wk [0, 0, 0] [] rfl rfl), ?_⟩
        refine htyU (y_build ti25 rfl rfl (by kernel_rfl) (bld_sl (x := ⟨true, s.s0.image, around s.s0.size 65537⟩) h.w0.len rfl pl25_0 pl25_1 pl25_2)) <| htyU (y_fld rfl fa27_2 (by decide)) <| ?_
        refine htx0 (xh_stNa 0 rfl rfl rfl sz25 (Sl.cs_len hu0) Sl.cs_one (by rw [Sup.cs_len hP0]; decide) ⟨(fun h => absurd h (by decide)), ?_⟩)
        refine htmem (fun w m => m.eqX 0 rfl (show _ = RBlk g3 27 (Sup.mk (around s.active 2) (around s.gen 2147483648) ⟨true, s.s0.image, around s.s0.size 65537⟩ Sl.zero).cs from congrArg (RBlk _ _) hput0)) ?_
        refine htend <| hsub (ρ' := [(13, _), (3, _), (2, _), (1, _), (0, _)]) ⟨rfl, rfl, rfl, rfl, rfl, trivial⟩ <| hmemQ (X' := [_, _, _]) (S' := []) (fun _ m => m) <| hthen <| hseq <| hseq <| hreg <| hy (fun _ => y_fld rfl fa27_3 (by decide)) <| hy (fun _ => y_fld rfl fa25_0 (by decide)) <| hy (fun m => y_ld1 rfl ag4 ((m.blk 2 rfl).cells0 36 _ (sup_s1 h (j := 0) sl0))) <| hend <| hsub (ρ' := [(25, _), (13, _), (3, _), (2, _), (1, _), (0, _)]) ⟨rfl, rfl, rfl, rfl, rfl, rfl, trivial⟩ <| hthen <| ?_
        refine hifb rfl (fun kq1 => ?_) (fun kq1 => ?_)
        · have hg1 : s.s1.good = ⟨true, s.s1.image, around s.s1.size 65537⟩ := if_pos kq1
          have hu1 := good_wf0 h.w1
          rw [hg1] at hu1
          have hP2 : (Sup.mk (around s.active 2) (around s.gen 2147483648) (⟨true, s.s0.image, around s.s0.size 65537⟩) ⟨true, s.s1.image, around s.s1.size 65537⟩).wf := ⟨hP0.a0, hP0.a1, hP0.g0, hP0.g1, hu0, hu1⟩
          have hP1 : (Sup.mk (around s.active 2) (around s.gen 2147483648) (⟨true, s.s0.image, around s.s0.size 65537⟩) Sl.zero).wf := ⟨hP0.a0, hP0.a1, hP0.g0, hP0.g1, hu0, Sl.zero_wf⟩
          have hput := sup_put hP1 (i := 1) (by decide) hu1
          refine hdrw [6, 9] [(0, some 1), (1, some 1), (2, some 1), (3, some 0), (4, some 0), (5, some 0), (6, none), (7, some 1), (8, some 1), (9, none)] (by kernel_rfl) (by kernel_rfl) rfl 1 <| htyU (y_fld rfl fa27_3 (by decide)) <| htyU (y_fld rfl fa25_1 (by decide)) <| hty (fun m => yV (y_ldN rfl ag23 sz23 (by rw [b8s_length, h.w1.len]) (fun j u hu => by rw [add_add, add_add]; exact (m.blk 2 rfl).cells0 (36 + (1 + j)) u (sup_s1 h (sl_im hu)))) ((rfl : _ = Value.agg (b8s s.s1.image).toArray))) <| htyU (y_fld rfl fa27_3 (by decide)) <| htyU (y_fld rfl fa25_2 (by decide)) <| hty (fun m => y_ld1 rfl ag3 ((m.blk 2 rfl).cells0 69 _ (sup_s1 h (sl33 h.w1)))) <| ?_
          refine htx (xh_call rfl Tryd.call14 (aroundC h.w1.lo h.w1.hi (by decide) (n := s.s1.size) (m := 65537)) [] rfl [] rfl ?_)
          rintro _ _ _ ⟨rfl, rfl, rfl⟩
          refine ⟨(fun _ => wk [0, 0, 0] [] rfl rfl), ?_⟩
          refine htyU (y_build ti25 rfl rfl (by kernel_rfl) (bld_sl (x := ⟨true, s.s1.image, around s.s1.size 65537⟩) h.w1.len rfl pl25_0 pl25_1 pl25_2)) <| htyU (y_fld rfl fa27_3 (by decide)) <| ?_
          refine htx0 (xh_stNa 0 rfl rfl rfl sz25 (Sl.cs_len hu1) Sl.cs_one (by rw [Sup.cs_len hP1]; decide) ⟨(fun h => absurd h (by decide)), ?_⟩)
          refine htmem (fun w m => m.eqX 0 rfl (show _ = RBlk g3 27 (Sup.mk (around s.active 2) (around s.gen 2147483648) (⟨true, s.s0.image, around s.s0.size 65537⟩) ⟨true, s.s1.image, around s.s1.size 65537⟩).cs from congrArg (RBlk _ _) hput)) ?_
          refine htend <| hsub (ρ' := [(25, _), (13, _), (3, _), (2, _), (1, _), (0, _)]) ⟨rfl, rfl, rfl, rfl, rfl, rfl, trivial⟩ <| hmemQ (X' := [_, _, _]) (S' := []) (fun _ m => m) <| hthen <| hseq <| hreg <| hy (fun m => yV (y_ldN rfl ag27 sz27 (Sup.cs_len hP2) ((m.blk 0 rfl).cells0)) ((rfl : _ = Value.agg (Sup.mk (around s.active 2) (around s.gen 2147483648) (⟨true, s.s0.image, around s.s0.size 65537⟩) ⟨true, s.s1.image, around s.s1.size 65537⟩).cs.toArray))) <| ?_
          rw [show s.good = Sup.mk (around s.active 2) (around s.gen 2147483648) (⟨true, s.s0.image, around s.s0.size 65537⟩) ⟨true, s.s1.image, around s.s1.size 65537⟩ by rw [Sup.good, hg0, hg1]]
          refine hx0 (xh_stA 1 rfl rfl rfl sz27 (Sup.cs_len hP2) (Sup.cs_one (s := Sup.mk (around s.active 2) (around s.gen 2147483648) (⟨true, s.s0.image, around s.s0.size 65537⟩) ⟨true, s.s1.image, around s.s1.size 65537⟩)) rfl ?_)
          refine hend <| hsub (ρ' := [(25, _), (13, _), (3, _), (2, _), (1, _), (0, _)]) ⟨rfl, rfl, rfl, rfl, rfl, rfl, trivial⟩ <| hmemQ (X' := [_, _, _]) (S' := []) (fun _ m => m) <| hthen <| hret <| ?_
          exact hretN trivial rfl rfl ag27 sz27 (Sup.cs_len hP2) (fun m => (m.blk 0 rfl).cells0) [] rfl [] rfl ⟨rfl, rfl, rfl⟩
        · have hg1 : s.s1.good = Sl.zero := if_neg (by rw [kq1]; decide)
          have hP1 : (Sup.mk (around s.active 2) (around s.gen 2147483648) (⟨true, s.s0.image, around s.s0.size 65537⟩) Sl.zero).wf := ⟨hP0.a0, hP0.a1, hP0.g0, hP0.g1, hu0, Sl.zero_wf⟩
          refine hcskip <| hthen <| hseq <| hreg <| hy (fun m => yV (y_ldN rfl ag27 sz27 (Sup.cs_len hP1) ((m.blk 0 rfl).cells0)) ((rfl : _ = Value.agg (Sup.mk (around s.active 2) (around s.gen 2147483648) (⟨true, s.s0.image, around s.s0.size 65537⟩) Sl.zero).cs.toArray))) <| ?_
          rw [show s.good = Sup.mk (around s.active 2) (around s.gen 2147483648) (⟨true, s.s0.image, around s.s0.size 65537⟩) Sl.zero by rw [Sup.good, hg0, hg1]]
          refine hx0 (xh_stA 1 rfl rfl rfl sz27 (Sup.cs_len hP1) (Sup.cs_one (s := Sup.mk (around s.active 2) (around s.gen 2147483648) (⟨true, s.s0.image, around s.s0.size 65537⟩) Sl.zero)) rfl ?_)
          refine hend <| hsub (ρ' := [(25, _), (13, _), (3, _), (2, _), (1, _), (0, _)]) ⟨rfl, rfl, rfl, rfl, rfl, rfl, trivial⟩ <| hmemQ (X' := [_, _, _]) (S' := []) (fun _ m => m) <| hthen <| hret <| ?_
          exact hretN trivial rfl rfl ag27 sz27 (Sup.cs_len hP1) (fun m => (m.blk 0 rfl).cells0) [] rfl [] rfl ⟨rfl, rfl, rfl⟩
      · have hg0 : s.s0.good = Sl.zero := if_neg (by rw [q1]; decide)
        refine hcskip <| hthen <| hseq <| hseq <| hreg <| hy (fun _ => y_fld rfl fa27_3 (by decide)) <| hy (fun _ => y_fld rfl fa25_0 (by decide)) <| hy (fun m => y_ld1 rfl ag4 ((m.blk 2 rfl).cells0 36 _ (sup_s1 h (j := 0) sl0))) <| hend <| hsub (ρ' := [(25, _), (13, _), (3, _), (2, _), (1, _), (0, _)]) ⟨rfl, rfl, rfl, rfl, rfl, rfl, trivial⟩ <| hthen <| ?_
        refine hifb rfl (fun jq1 => ?_) (fun jq1 => ?_)
        · have hg1 : s.s1.good = ⟨true, s.s1.image, around s.s1.size 65537⟩ := if_pos jq1
          have hu1 := good_wf0 h.w1
          rw [hg1] at hu1
          have hP2 : (Sup.mk (around s.active 2) (around s.gen 2147483648) (Sl.zero) ⟨true, s.s1.image, around s.s1.size 65537⟩).wf := ⟨hP0.a0, hP0.a1, hP0.g0, hP0.g1, Sl.zero_wf, hu1⟩
          have hP1 : (Sup.mk (around s.active 2) (around s.gen 2147483648) (Sl.zero) Sl.zero).wf := ⟨hP0.a0, hP0.a1, hP0.g0, hP0.g1, Sl.zero_wf, Sl.zero_wf⟩
          have hput := sup_put hP1 (i := 1) (by decide) hu1
          refine hdrw [6, 9] [(0, some 1), (1, some 1), (2, some 1), (3, some 0), (4, some 0), (5, some 0), (6, none), (7, some 1), (8, some 1), (9, none)] (by kernel_rfl) (by kernel_rfl) rfl 1 <| htyU (y_fld rfl fa27_3 (by decide)) <| htyU (y_fld rfl fa25_1 (by decide)) <| hty (fun m => yV (y_ldN rfl ag23 sz23 (by rw [b8s_length, h.w1.len]) (fun j u hu => by rw [add_add, add_add]; exact (m.blk 2 rfl).cells0 (36 + (1 + j)) u (sup_s1 h (sl_im hu)))) ((rfl : _ = Value.agg (b8s s.s1.image).toArray))) <| htyU (y_fld rfl fa27_3 (by decide)) <| htyU (y_fld rfl fa25_2 (by decide)) <| hty (fun m => y_ld1 rfl ag3 ((m.blk 2 rfl).cells0 69 _ (sup_s1 h (sl33 h.w1)))) <| ?_
          refine htx (xh_call rfl Tryd.call14 (aroundC h.w1.lo h.w1.hi (by decide) (n := s.s1.size) (m := 65537)) [] rfl [] rfl ?_)
          rintro _ _ _ ⟨rfl, rfl, rfl⟩
          refine ⟨(fun _ => wk [0, 0, 0] [] rfl rfl), ?_⟩
          refine htyU (y_build ti25 rfl rfl (by kernel_rfl) (bld_sl (x := ⟨true, s.s1.image, around s.s1.size 65537⟩) h.w1.len rfl pl25_0 pl25_1 pl25_2)) <| htyU (y_fld rfl fa27_3 (by decide)) <| ?_
          refine htx0 (xh_stNa 0 rfl rfl rfl sz25 (Sl.cs_len hu1) Sl.cs_one (by rw [Sup.cs_len hP1]; decide) ⟨(fun h => absurd h (by decide)), ?_⟩)
          refine htmem (fun w m => m.eqX 0 rfl (show _ = RBlk g3 27 (Sup.mk (around s.active 2) (around s.gen 2147483648) (Sl.zero) ⟨true, s.s1.image, around s.s1.size 65537⟩).cs from congrArg (RBlk _ _) hput)) ?_
          refine htend <| hsub (ρ' := [(25, _), (13, _), (3, _), (2, _), (1, _), (0, _)]) ⟨rfl, rfl, rfl, rfl, rfl, rfl, trivial⟩ <| hmemQ (X' := [_, _, _]) (S' := []) (fun _ m => m) <| hthen <| hseq <| hreg <| hy (fun m => yV (y_ldN rfl ag27 sz27 (Sup.cs_len hP2) ((m.blk 0 rfl).cells0)) ((rfl : _ = Value.agg (Sup.mk (around s.active 2) (around s.gen 2147483648) (Sl.zero) ⟨true, s.s1.image, around s.s1.size 65537⟩).cs.toArray))) <| ?_
          rw [show s.good = Sup.mk (around s.active 2) (around s.gen 2147483648) (Sl.zero) ⟨true, s.s1.image, around s.s1.size 65537⟩ by rw [Sup.good, hg0, hg1]]
          refine hx0 (xh_stA 1 rfl rfl rfl sz27 (Sup.cs_len hP2) (Sup.cs_one (s := Sup.mk (around s.active 2) (around s.gen 2147483648) (Sl.zero) ⟨true, s.s1.image, around s.s1.size 65537⟩)) rfl ?_)
          refine hend <| hsub (ρ' := [(25, _), (13, _), (3, _), (2, _), (1, _), (0, _)]) ⟨rfl, rfl, rfl, rfl, rfl, rfl, trivial⟩ <| hmemQ (X' := [_, _, _]) (S' := []) (fun _ m => m) <| hthen <| hret <| ?_
          exact hretN trivial rfl rfl ag27 sz27 (Sup.cs_len hP2) (fun m => (m.blk 0 rfl).cells0) [] rfl [] rfl ⟨rfl, rfl, rfl⟩
        · have hg1 : s.s1.good = Sl.zero := if_neg (by rw [jq1]; decide)
          have hP1 : (Sup.mk (around s.active 2) (around s.gen 2147483648) (Sl.zero) Sl.zero).wf := ⟨hP0.a0, hP0.a1, hP0.g0, hP0.g1, Sl.zero_wf, Sl.zero_wf⟩
          refine hcskip <| hthen <| hseq <| hreg <| hy (fun m => yV (y_ldN rfl ag27 sz27 (Sup.cs_len hP1) ((m.blk 0 rfl).cells0)) ((rfl : _ = Value.agg (Sup.mk (around s.active 2) (around s.gen 2147483648) (Sl.zero) Sl.zero).cs.toArray))) <| ?_
          rw [show s.good = Sup.mk (around s.active 2) (around s.gen 2147483648) (Sl.zero) Sl.zero by rw [Sup.good, hg0, hg1]]
          refine hx0 (xh_stA 1 rfl rfl rfl sz27 (Sup.cs_len hP1) (Sup.cs_one (s := Sup.mk (around s.active 2) (around s.gen 2147483648) (Sl.zero) Sl.zero)) rfl ?_)
          refine hend <| hsub (ρ' := [(25, _), (13, _), (3, _), (2, _), (1, _), (0, _)]) ⟨rfl, rfl, rfl, rfl, rfl, rfl, trivial⟩ <| hmemQ (X' := [_, _, _]) (S' := []) (fun _ m => m) <| hthen <| hret <| ?_
          exact hretN trivial rfl rfl ag27 sz27 (Sup.cs_len hP1) (fun m => (m.blk 0 rfl).cells0) [] rfl [] rfl ⟨rfl, rfl, rfl⟩
    · refine hpx (xh_alloc ti27 (fun g3 => ⟨(fun _ => wk [1, 1] [] rfl rfl), ?_⟩))
      refine hpx (xh_call rfl Tryd.call14 (aroundC h.g0 h.g1 (by decide) (n := s.gen) (m := 2147483648)) [] rfl [] rfl ?_)
      rintro _ _ _ ⟨rfl, rfl, rfl⟩
      refine ⟨(fun _ => wk [1, 1] [] rfl rfl), ?_⟩
      refine hpyU (yV (y_build ti27 rfl rfl (by kernel_rfl) (.cons (o := 0) (sz := 1) (by kernel_rfl) rfl rfl (Nat.le_of_ble_eq_true rfl) (.cons (o := 1) (sz := 1) (by kernel_rfl) rfl rfl (Nat.le_of_ble_eq_true rfl) .nil))) ((rfl : _ = Value.agg (Sup.mk (around s.active 2) (around s.gen 2147483648) Sl.zero Sl.zero).cs.toArray))) <| ?_
      refine hpx0 (xh_stA 0 rfl rfl rfl sz27 (Sup.cs_len hP0) (Sup.cs_one (s := Sup.mk (around s.active 2) (around s.gen 2147483648) Sl.zero Sl.zero)) rfl ⟨(fun h => absurd h (by decide)), ?_⟩)
      refine hpend <| hsub (ρ' := [(3, _), (2, _), (1, _), (0, _)]) ⟨rfl, rfl, rfl, rfl, trivial⟩ <| hmemQ (X' := [_, _, _]) (S' := []) (fun _ m => m) <| hthen <| hseq <| hseq <| hreg <| hy (fun _ => y_fld rfl fa27_2 (by decide)) <| hy (fun _ => y_fld rfl fa25_0 (by decide)) <| hy (fun m => y_ld1 rfl ag4 (ld_blk (m.blk 2 rfl) rfl)) <| hend <| hsub (ρ' := [(13, _), (3, _), (2, _), (1, _), (0, _)]) ⟨rfl, rfl, rfl, rfl, rfl, trivial⟩ <| hthen <| ?_
      refine hifb rfl (fun q2 => ?_) (fun q2 => ?_)
      · have hg0 : s.s0.good = ⟨true, s.s0.image, around s.s0.size 65537⟩ := if_pos q2
        have hu0 := good_wf0 h.w0
        rw [hg0] at hu0
        have hput0 := sup_put hP0 (i := 0) (by decide) hu0
        refine hdrw [6, 9] [(0, some 1), (1, some 1), (2, some 1), (3, some 0), (4, some 0), (5, some 0), (6, none), (7, some 1), (8, some 1), (9, none)] (by kernel_rfl) (by kernel_rfl) rfl 1 <| htyU (y_fld rfl fa27_2 (by decide)) <| htyU (y_fld rfl fa25_1 (by decide)) <| hty (fun m => yV (y_ldN rfl ag23 sz23 (by rw [b8s_length, h.w0.len]) (fun j u hu => by rw [add_add, add_add]; exact (m.blk 2 rfl).cells0 (2 + (1 + j)) u (sup_s0 (sl_im hu)))) ((rfl : _ = Value.agg (b8s s.s0.image).toArray))) <| htyU (y_fld rfl fa27_2 (by decide)) <| htyU (y_fld rfl fa25_2 (by decide)) <| hty (fun m => y_ld1 rfl ag3 ((m.blk 2 rfl).cells0 35 _ (sup_s0 (sl33 h.w0)))) <| ?_
        refine htx (xh_call rfl Tryd.call14 (aroundC h.w0.lo h.w0.hi (by decide) (n := s.s0.size) (m := 65537)) [] rfl [] rfl ?_)
        rintro _ _ _ ⟨rfl, rfl, rfl⟩
        refine ⟨(fun _ => wk [0, 0, 0] [] rfl rfl), ?_⟩
        refine htyU (y_build ti25 rfl rfl (by kernel_rfl) (bld_sl (x := ⟨true, s.s0.image, around s.s0.size 65537⟩) h.w0.len rfl pl25_0 pl25_1 pl25_2)) <| htyU (y_fld rfl fa27_2 (by decide)) <| ?_
        refine htx0 (xh_stNa 0 rfl rfl rfl sz25 (Sl.cs_len hu0) Sl.cs_one (by rw [Sup.cs_len hP0]; decide) ⟨(fun h => absurd h (by decide)), ?_⟩)
        refine htmem (fun w m => m.eqX 0 rfl (show _ = RBlk g3 27 (Sup.mk (around s.active 2) (around s.gen 2147483648) ⟨true, s.s0.image, around s.s0.size 65537⟩ Sl.zero).cs from congrArg (RBlk _ _) hput0)) ?_
        refine htend <| hsub (ρ' := [(13, _), (3, _), (2, _), (1, _), (0, _)]) ⟨rfl, rfl, rfl, rfl, rfl, trivial⟩ <| hmemQ (X' := [_, _, _]) (S' := []) (fun _ m => m) <| hthen <| hseq <| hseq <| hreg <| hy (fun _ => y_fld rfl fa27_3 (by decide)) <| hy (fun _ => y_fld rfl fa25_0 (by decide)) <| hy (fun m => y_ld1 rfl ag4 ((m.blk 2 rfl).cells0 36 _ (sup_s1 h (j := 0) sl0))) <| hend <| hsub (ρ' := [(25, _), (13, _), (3, _), (2, _), (1, _), (0, _)]) ⟨rfl, rfl, rfl, rfl, rfl, rfl, trivial⟩ <| hthen <| ?_
        refine hifb rfl (fun kq2 => ?_) (fun kq2 => ?_)
        · have hg1 : s.s1.good = ⟨true, s.s1.image, around s.s1.size 65537⟩ := if_pos kq2
          have hu1 := good_wf0 h.w1
          rw [hg1] at hu1
          have hP2 : (Sup.mk (around s.active 2) (around s.gen 2147483648) (⟨true, s.s0.image, around s.s0.size 65537⟩) ⟨true, s.s1.image, around s.s1.size 65537⟩).wf := ⟨hP0.a0, hP0.a1, hP0.g0, hP0.g1, hu0, hu1⟩
          have hP1 : (Sup.mk (around s.active 2) (around s.gen 2147483648) (⟨true, s.s0.image, around s.s0.size 65537⟩) Sl.zero).wf := ⟨hP0.a0, hP0.a1, hP0.g0, hP0.g1, hu0, Sl.zero_wf⟩
          have hput := sup_put hP1 (i := 1) (by decide) hu1
          refine hdrw [6, 9] [(0, some 1), (1, some 1), (2, some 1), (3, some 0), (4, some 0), (5, some 0), (6, none), (7, some 1), (8, some 1), (9, none)] (by kernel_rfl) (by kernel_rfl) rfl 1 <| htyU (y_fld rfl fa27_3 (by decide)) <| htyU (y_fld rfl fa25_1 (by decide)) <| hty (fun m => yV (y_ldN rfl ag23 sz23 (by rw [b8s_length, h.w1.len]) (fun j u hu => by rw [add_add, add_add]; exact (m.blk 2 rfl).cells0 (36 + (1 + j)) u (sup_s1 h (sl_im hu)))) ((rfl : _ = Value.agg (b8s s.s1.image).toArray))) <| htyU (y_fld rfl fa27_3 (by decide)) <| htyU (y_fld rfl fa25_2 (by decide)) <| hty (fun m => y_ld1 rfl ag3 ((m.blk 2 rfl).cells0 69 _ (sup_s1 h (sl33 h.w1)))) <| ?_
          refine htx (xh_call rfl Tryd.call14 (aroundC h.w1.lo h.w1.hi (by decide) (n := s.s1.size) (m := 65537)) [] rfl [] rfl ?_)
          rintro _ _ _ ⟨rfl, rfl, rfl⟩
          refine ⟨(fun _ => wk [0, 0, 0] [] rfl rfl), ?_⟩
          refine htyU (y_build ti25 rfl rfl (by kernel_rfl) (bld_sl (x := ⟨true, s.s1.image, around s.s1.size 65537⟩) h.w1.len rfl pl25_0 pl25_1 pl25_2)) <| htyU (y_fld rfl fa27_3 (by decide)) <| ?_
          refine htx0 (xh_stNa 0 rfl rfl rfl sz25 (Sl.cs_len hu1) Sl.cs_one (by rw [Sup.cs_len hP1]; decide) ⟨(fun h => absurd h (by decide)), ?_⟩)
          refine htmem (fun w m => m.eqX 0 rfl (show _ = RBlk g3 27 (Sup.mk (around s.active 2) (around s.gen 2147483648) (⟨true, s.s0.image, around s.s0.size 65537⟩) ⟨true, s.s1.image, around s.s1.size 65537⟩).cs from congrArg (RBlk _ _) hput)) ?_
          refine htend <| hsub (ρ' := [(25, _), (13, _), (3, _), (2, _), (1, _), (0, _)]) ⟨rfl, rfl, rfl, rfl, rfl, rfl, trivial⟩ <| hmemQ (X' := [_, _, _]) (S' := []) (fun _ m => m) <| hthen <| hseq <| hreg <| hy (fun m => yV (y_ldN rfl ag27 sz27 (Sup.cs_len hP2) ((m.blk 0 rfl).cells0)) ((rfl : _ = Value.agg (Sup.mk (around s.active 2) (around s.gen 2147483648) (⟨true, s.s0.image, around s.s0.size 65537⟩) ⟨true, s.s1.image, around s.s1.size 65537⟩).cs.toArray))) <| ?_
          rw [show s.good = Sup.mk (around s.active 2) (around s.gen 2147483648) (⟨true, s.s0.image, around s.s0.size 65537⟩) ⟨true, s.s1.image, around s.s1.size 65537⟩ by rw [Sup.good, hg0, hg1]]
          refine hx0 (xh_stA 1 rfl rfl rfl sz27 (Sup.cs_len hP2) (Sup.cs_one (s := Sup.mk (around s.active 2) (around s.gen 2147483648) (⟨true, s.s0.image, around s.s0.size 65537⟩) ⟨true, s.s1.image, around s.s1.size 65537⟩)) rfl ?_)
          refine hend <| hsub (ρ' := [(25, _), (13, _), (3, _), (2, _), (1, _), (0, _)]) ⟨rfl, rfl, rfl, rfl, rfl, rfl, trivial⟩ <| hmemQ (X' := [_, _, _]) (S' := []) (fun _ m => m) <| hthen <| hret <| ?_
          exact hretN trivial rfl rfl ag27 sz27 (Sup.cs_len hP2) (fun m => (m.blk 0 rfl).cells0) [] rfl [] rfl ⟨rfl, rfl, rfl⟩
        · have hg1 : s.s1.good = Sl.zero := if_neg (by rw [kq2]; decide)
          have hP1 : (Sup.mk (around s.active 2) (around s.gen 2147483648) (⟨true, s.s0.image, around s.s0.size 65537⟩) Sl.zero).wf := ⟨hP0.a0, hP0.a1, hP0.g0, hP0.g1, hu0, Sl.zero_wf⟩
          refine hcskip <| hthen <| hseq <| hreg <| hy (fun m => yV (y_ldN rfl ag27 sz27 (Sup.cs_len hP1) ((m.blk 0 rfl).cells0)) ((rfl : _ = Value.agg (Sup.mk (around s.active 2) (around s.gen 2147483648) (⟨true, s.s0.image, around s.s0.size 65537⟩) Sl.zero).cs.toArray))) <| ?_
          rw [show s.good = Sup.mk (around s.active 2) (around s.gen 2147483648) (⟨true, s.s0.image, around s.s0.size 65537⟩) Sl.zero by rw [Sup.good, hg0, hg1]]
          refine hx0 (xh_stA 1 rfl rfl rfl sz27 (Sup.cs_len hP1) (Sup.cs_one (s := Sup.mk (around s.active 2) (around s.gen 2147483648) (⟨true, s.s0.image, around s.s0.size 65537⟩) Sl.zero)) rfl ?_)
          refine hend <| hsub (ρ' := [(25, _), (13, _), (3, _), (2, _), (1, _), (0, _)]) ⟨rfl, rfl, rfl, rfl, rfl, rfl, trivial⟩ <| hmemQ (X' := [_, _, _]) (S' := []) (fun _ m => m) <| hthen <| hret <| ?_
          exact hretN trivial rfl rfl ag27 sz27 (Sup.cs_len hP1) (fun m => (m.blk 0 rfl).cells0) [] rfl [] rfl ⟨rfl, rfl, rfl⟩
      · have hg0 : s.s0.good = Sl.zero := if_neg (by rw [q2]; decide)
        refine hcskip <| hthen <| hseq <| hseq <| hreg <| hy (fun _ => y_fld rfl fa27_3 (by decide)) <| hy (fun _ => y_fld rfl fa25_0 (by decide)) <| hy (fun m => y_ld1 rfl ag4 ((m.blk 2 rfl).cells0 36 _ (sup_s1 h (j := 0) sl0))) <| hend <| hsub (ρ' := [(25, _), (13, _), (3, _), (2, _), (1, _), (0, _)]) ⟨rfl, rfl, rfl, rfl, rfl, rfl, trivial⟩ <| hthen <| ?_
        refine hifb rfl (fun jq2 => ?_) (fun jq2 => ?_)
        · have hg1 : s.s1.good = ⟨true, s.s1.image, around s.s1.size 65537⟩ := if_pos jq2
          have hu1 := good_wf0 h.w1
          rw [hg1] at hu1
          have hP2 : (Sup.mk (around s.active 2) (around s.gen 2147483648) (Sl.zero) ⟨true, s.s1.image, around s.s1.size 65537⟩).wf := ⟨hP0.a0, hP0.a1, hP0.g0, hP0.g1, Sl.zero_wf, hu1⟩
          have hP1 : (Sup.mk (around s.active 2) (around s.gen 2147483648) (Sl.zero) Sl.zero).wf := ⟨hP0.a0, hP0.a1, hP0.g0, hP0.g1, Sl.zero_wf, Sl.zero_wf⟩
          have hput := sup_put hP1 (i := 1) (by decide) hu1
          refine hdrw [6, 9] [(0, some 1), (1, some 1), (2, some 1), (3, some 0), (4, some 0), (5, some 0), (6, none), (7, some 1), (8, some 1), (9, none)] (by kernel_rfl) (by kernel_rfl) rfl 1 <| htyU (y_fld rfl fa27_3 (by decide)) <| htyU (y_fld rfl fa25_1 (by decide)) <| hty (fun m => yV (y_ldN rfl ag23 sz23 (by rw [b8s_length, h.w1.len]) (fun j u hu => by rw [add_add, add_add]; exact (m.blk 2 rfl).cells0 (36 + (1 + j)) u (sup_s1 h (sl_im hu)))) ((rfl : _ = Value.agg (b8s s.s1.image).toArray))) <| htyU (y_fld rfl fa27_3 (by decide)) <| htyU (y_fld rfl fa25_2 (by decide)) <| hty (fun m => y_ld1 rfl ag3 ((m.blk 2 rfl).cells0 69 _ (sup_s1 h (sl33 h.w1)))) <| ?_
          refine htx (xh_call rfl Tryd.call14 (aroundC h.w1.lo h.w1.hi (by decide) (n := s.s1.size) (m := 65537)) [] rfl [] rfl ?_)
          rintro _ _ _ ⟨rfl, rfl, rfl⟩
          refine ⟨(fun _ => wk [0, 0, 0] [] rfl rfl), ?_⟩
          refine htyU (y_build ti25 rfl rfl (by kernel_rfl) (bld_sl (x := ⟨true, s.s1.image, around s.s1.size 65537⟩) h.w1.len rfl pl25_0 pl25_1 pl25_2)) <| htyU (y_fld rfl fa27_3 (by decide)) <| ?_
          refine htx0 (xh_stNa 0 rfl rfl rfl sz25 (Sl.cs_len hu1) Sl.cs_one (by rw [Sup.cs_len hP1]; decide) ⟨(fun h => absurd h (by decide)), ?_⟩)
          refine htmem (fun w m => m.eqX 0 rfl (show _ = RBlk g3 27 (Sup.mk (around s.active 2) (around s.gen 2147483648) (Sl.zero) ⟨true, s.s1.image, around s.s1.size 65537⟩).cs from congrArg (RBlk _ _) hput)) ?_
          refine htend <| hsub (ρ' := [(25, _), (13, _), (3, _), (2, _), (1, _), (0, _)]) ⟨rfl, rfl, rfl, rfl, rfl, rfl, trivial⟩ <| hmemQ (X' := [_, _, _]) (S' := []) (fun _ m => m) <| hthen <| hseq <| hreg <| hy (fun m => yV (y_ldN rfl ag27 sz27 (Sup.cs_len hP2) ((m.blk 0 rfl).cells0)) ((rfl : _ = Value.agg (Sup.mk (around s.active 2) (around s.gen 2147483648) (Sl.zero) ⟨true, s.s1.image, around s.s1.size 65537⟩).cs.toArray))) <| ?_
          rw [show s.good = Sup.mk (around s.active 2) (around s.gen 2147483648) (Sl.zero) ⟨true, s.s1.image, around s.s1.size 65537⟩ by rw [Sup.good, hg0, hg1]]
          refine hx0 (xh_stA 1 rfl rfl rfl sz27 (Sup.cs_len hP2) (Sup.cs_one (s := Sup.mk (around s.active 2) (around s.gen 2147483648) (Sl.zero) ⟨true, s.s1.image, around s.s1.size 65537⟩)) rfl ?_)
          refine hend <| hsub (ρ' := [(25, _), (13, _), (3, _), (2, _), (1, _), (0, _)]) ⟨rfl, rfl, rfl, rfl, rfl, rfl, trivial⟩ <| hmemQ (X' := [_, _, _]) (S' := []) (fun _ m => m) <| hthen <| hret <| ?_
          exact hretN trivial rfl rfl ag27 sz27 (Sup.cs_len hP2) (fun m => (m.blk 0 rfl).cells0) [] rfl [] rfl ⟨rfl, rfl, rfl⟩
        · have hg1 : s.s1.good = Sl.zero := if_neg (by rw [jq2]; decide)
          have hP1 : (Sup.mk (around s.active 2) (around s.gen 2147483648) (Sl.zero) Sl.zero).wf := ⟨hP0.a0, hP0.a1, hP0.g0, hP0.g1, Sl.zero_wf, Sl.zero_wf⟩
          refine hcskip <| hthen <| hseq <| hreg <| hy (fun m => yV (y_ldN rfl ag27 sz27 (Sup.cs_len hP1) ((m.blk 0 rfl).cells0)) ((rfl : _ = Value.agg (Sup.mk (around s.active 2) (around s.gen 2147483648) (Sl.zero) Sl.zero).cs.toArray))) <| ?_
          rw [show s.good = Sup.mk (around s.active 2) (around s.gen 2147483648) (Sl.zero) Sl.zero by rw [Sup.good, hg0, hg1]]
          refine hx0 (xh_stA 1 rfl rfl rfl sz27 (Sup.cs_len hP1) (Sup.cs_one (s := Sup.mk (around s.active 2) (around s.gen 2147483648) (Sl.zero) Sl.zero)) rfl ?_)
          refine hend <| hsub (ρ' := [(25, _), (13, _), (3, _), (2, _), (1, _), (0, _)]) ⟨rfl, rfl, rfl, rfl, rfl, rfl, trivial⟩ <| hmemQ (X' := [_, _, _]) (S' := []) (fun _ m => m) <| hthen <| hret <| ?_
          exact hretN trivial rfl rfl ag27 sz27 (Sup.cs_len hP1) (fun m => (m.blk 0 rfl).cells0) [] rfl [] rfl ⟨rfl, rfl, rfl⟩
  · refine hpx (xh_alloc ti27 (fun g3 => ⟨(fun _ => wk [1, 1] [] rfl rfl), ?_⟩))
    refine hpx (xh_call rfl Tryd.call14 (aroundC h.a0 h.a1 (by decide) (n := s.active) (m := 2)) [] rfl [] rfl ?_)
    rintro _ _ _ ⟨rfl, rfl, rfl⟩
    refine ⟨(fun _ => wk [1, 1] [] rfl rfl), ?_⟩
    refine hpx (xh_call rfl Tryd.call14 (aroundC h.g0 h.g1 (by decide) (n := s.gen) (m := 2147483648)) [] rfl [] rfl ?_)
    rintro _ _ _ ⟨rfl, rfl, rfl⟩
    refine ⟨(fun _ => wk [1, 1] [] rfl rfl), ?_⟩
    refine hpyU (yV (y_build ti27 rfl rfl (by kernel_rfl) (.cons (o := 0) (sz := 1) (by kernel_rfl) rfl rfl (Nat.le_of_ble_eq_true rfl) (.cons (o := 1) (sz := 1) (by kernel_rfl) rfl rfl (Nat.le_of_ble_eq_true rfl) .nil))) ((rfl : _ = Value.agg (Sup.mk (around s.active 2) (around s.gen 2147483648) Sl.zero Sl.zero).cs.toArray))) <| ?_
    refine hpx0 (xh_stA 0 rfl rfl rfl sz27 (Sup.cs_len hP0) (Sup.cs_one (s := Sup.mk (around s.active 2) (around s.gen 2147483648) Sl.zero Sl.zero)) rfl ⟨(fun h => absurd h (by decide)), ?_⟩)
    refine hpend <| hsub (ρ' := [(3, _), (2, _), (1, _), (0, _)]) ⟨rfl, rfl, rfl, rfl, trivial⟩ <| hmemQ (X' := [_, _, _]) (S' := []) (fun _ m => m) <| hthen <| hseq <| hseq <| hreg <| hy (fun _ => y_fld rfl fa27_2 (by decide)) <| hy (fun _ => y_fld rfl fa25_0 (by decide)) <| hy (fun m => y_ld1 rfl ag4 (ld_blk (m.blk 2 rfl) rfl)) <| hend <| hsub (ρ' := [(13, _), (3, _), (2, _), (1, _), (0, _)]) ⟨rfl, rfl, rfl, rfl, rfl, trivial⟩ <| hthen <| ?_
    refine hifb rfl (fun q3 => ?_) (fun q3 => ?_)
    · have hg0 : s.s0.good = ⟨true, s.s0.image, around s.s0.size 65537⟩ := if_pos q3
      have hu0 := good_wf0 h.w0
      rw [hg0] at hu0
      have hput0 := sup_put hP0 (i := 0) (by decide) hu0
      refine hdrw [6, 9] [(0, some 1), (1, some 1), (2, some 1), (3, some 0), (4, some 0), (5, some 0), (6, none), (7, some 1), (8, some 1), (9, none)] (by kernel_rfl) (by kernel_rfl) rfl 1 <| htyU (y_fld rfl fa27_2 (by decide)) <| htyU (y_fld rfl fa25_1 (by decide)) <| hty (fun m => yV (y_ldN rfl ag23 sz23 (by rw [b8s_length, h.w0.len]) (fun j u hu => by rw [add_add, add_add]; exact (m.blk 2 rfl).cells0 (2 + (1 + j)) u (sup_s0 (sl_im hu)))) ((rfl : _ = Value.agg (b8s s.s0.image).toArray))) <| htyU (y_fld rfl fa27_2 (by decide)) <| htyU (y_fld rfl fa25_2 (by decide)) <| hty (fun m => y_ld1 rfl ag3 ((m.blk 2 rfl).cells0 35 _ (sup_s0 (sl33 h.w0)))) <| ?_
      refine htx (xh_call rfl Tryd.call14 (aroundC h.w0.lo h.w0.hi (by decide) (n := s.s0.size) (m := 65537)) [] rfl [] rfl ?_)
      rintro _ _ _ ⟨rfl, rfl, rfl⟩
      refine ⟨(fun _ => wk [0, 0, 0] [] rfl rfl), ?_⟩
      refine htyU (y_build ti25 rfl rfl (by kernel_rfl) (bld_sl (x := ⟨true, s.s0.image, around s.s0.size 65537⟩) h.w0.len rfl pl25_0 pl25_1 pl25_2)) <| htyU (y_fld rfl fa27_2 (by decide)) <| ?_
      refine htx0 (xh_stNa 0 rfl rfl rfl sz25 (Sl.cs_len hu0) Sl.cs_one (by rw [Sup.cs_len hP0]; decide) ⟨(fun h => absurd h (by decide)), ?_⟩)
      refine htmem (fun w m => m.eqX 0 rfl (show _ = RBlk g3 27 (Sup.mk (around s.active 2) (around s.gen 2147483648) ⟨true, s.s0.image, around s.s0.size 65537⟩ Sl.zero).cs from congrArg (RBlk _ _) hput0)) ?_
      refine htend <| hsub (ρ' := [(13, _), (3, _), (2, _), (1, _), (0, _)]) ⟨rfl, rfl, rfl, rfl, rfl, trivial⟩ <| hmemQ (X' := [_, _, _]) (S' := []) (fun _ m => m) <| hthen <| hseq <| hseq <| hreg <| hy (fun _ => y_fld rfl fa27_3 (by decide)) <| hy (fun _ => y_fld rfl fa25_0 (by decide)) <| hy (fun m => y_ld1 rfl ag4 ((m.blk 2 rfl).cells0 36 _ (sup_s1 h (j := 0) sl0))) <| hend <| hsub (ρ' := [(25, _), (13, _), (3, _), (2, _), (1, _), (0, _)]) ⟨rfl, rfl, rfl, rfl, rfl, rfl, trivial⟩ <| hthen <| ?_
      refine hifb rfl (fun kq3 => ?_) (fun kq3 => ?_)
      · have hg1 : s.s1.good = ⟨true, s.s1.image, around s.s1.size 65537⟩ := if_pos kq3
        have hu1 := good_wf0 h.w1
        rw [hg1] at hu1
        have hP2 : (Sup.mk (around s.active 2) (around s.gen 2147483648) (⟨true, s.s0.image, around s.s0.size 65537⟩) ⟨true, s.s1.image, around s.s1.size 65537⟩).wf := ⟨hP0.a0, hP0.a1, hP0.g0, hP0.g1, hu0, hu1⟩
        have hP1 : (Sup.mk (around s.active 2) (around s.gen 2147483648) (⟨true, s.s0.image, around s.s0.size 65537⟩) Sl.zero).wf := ⟨hP0.a0, hP0.a1, hP0.g0, hP0.g1, hu0, Sl.zero_wf⟩
        have hput := sup_put hP1 (i := 1) (by decide) hu1
        refine hdrw [6, 9] [(0, some 1), (1, some 1), (2, some 1), (3, some 0), (4, some 0), (5, some 0), (6, none), (7, some 1), (8, some 1), (9, none)] (by kernel_rfl) (by kernel_rfl) rfl 1 <| htyU (y_fld rfl fa27_3 (by decide)) <| htyU (y_fld rfl fa25_1 (by decide)) <| hty (fun m => yV (y_ldN rfl ag23 sz23 (by rw [b8s_length, h.w1.len]) (fun j u hu => by rw [add_add, add_add]; exact (m.blk 2 rfl).cells0 (36 + (1 + j)) u (sup_s1 h (sl_im hu)))) ((rfl : _ = Value.agg (b8s s.s1.image).toArray))) <| htyU (y_fld rfl fa27_3 (by decide)) <| htyU (y_fld rfl fa25_2 (by decide)) <| hty (fun m => y_ld1 rfl ag3 ((m.blk 2 rfl).cells0 69 _ (sup_s1 h (sl33 h.w1)))) <| ?_
        refine htx (xh_call rfl Tryd.call14 (aroundC h.w1.lo h.w1.hi (by decide) (n := s.s1.size) (m := 65537)) [] rfl [] rfl ?_)
        rintro _ _ _ ⟨rfl, rfl, rfl⟩
        refine ⟨(fun _ => wk [0, 0, 0] [] rfl rfl), ?_⟩
        refine htyU (y_build ti25 rfl rfl (by kernel_rfl) (bld_sl (x := ⟨true, s.s1.image, around s.s1.size 65537⟩) h.w1.len rfl pl25_0 pl25_1 pl25_2)) <| htyU (y_fld rfl fa27_3 (by decide)) <| ?_
        refine htx0 (xh_stNa 0 rfl rfl rfl sz25 (Sl.cs_len hu1) Sl.cs_one (by rw [Sup.cs_len hP1]; decide) ⟨(fun h => absurd h (by decide)), ?_⟩)
        refine htmem (fun w m => m.eqX 0 rfl (show _ = RBlk g3 27 (Sup.mk (around s.active 2) (around s.gen 2147483648) (⟨true, s.s0.image, around s.s0.size 65537⟩) ⟨true, s.s1.image, around s.s1.size 65537⟩).cs from congrArg (RBlk _ _) hput)) ?_
        refine htend <| hsub (ρ' := [(25, _), (13, _), (3, _), (2, _), (1, _), (0, _)]) ⟨rfl, rfl, rfl, rfl, rfl, rfl, trivial⟩ <| hmemQ (X' := [_, _, _]) (S' := []) (fun _ m => m) <| hthen <| hseq <| hreg <| hy (fun m => yV (y_ldN rfl ag27 sz27 (Sup.cs_len hP2) ((m.blk 0 rfl).cells0)) ((rfl : _ = Value.agg (Sup.mk (around s.active 2) (around s.gen 2147483648) (⟨true, s.s0.image, around s.s0.size 65537⟩) ⟨true, s.s1.image, around s.s1.size 65537⟩).cs.toArray))) <| ?_
        rw [show s.good = Sup.mk (around s.active 2) (around s.gen 2147483648) (⟨true, s.s0.image, around s.s0.size 65537⟩) ⟨true, s.s1.image, around s.s1.size 65537⟩ by rw [Sup.good, hg0, hg1]]
        refine hx0 (xh_stA 1 rfl rfl rfl sz27 (Sup.cs_len hP2) (Sup.cs_one (s := Sup.mk (around s.active 2) (around s.gen 2147483648) (⟨true, s.s0.image, around s.s0.size 65537⟩) ⟨true, s.s1.image, around s.s1.size 65537⟩)) rfl ?_)
        refine hend <| hsub (ρ' := [(25, _), (13, _), (3, _), (2, _), (1, _), (0, _)]) ⟨rfl, rfl, rfl, rfl, rfl, rfl, trivial⟩ <| hmemQ (X' := [_, _, _]) (S' := []) (fun _ m => m) <| hthen <| hret <| ?_
        exact hretN trivial rfl rfl ag27 sz27 (Sup.cs_len hP2) (fun m => (m.blk 0 rfl).cells0) [] rfl [] rfl ⟨rfl, rfl, rfl⟩
      · have hg1 : s.s1.good = Sl.zero := if_neg (by rw [kq3]; decide)
        have hP1 : (Sup.mk (around s.active 2) (around s.gen 2147483648) (⟨true, s.s0.image, around s.s0.size 65537⟩) Sl.zero).wf := ⟨hP0.a0, hP0.a1, hP0.g0, hP0.g1, hu0, Sl.zero_wf⟩
        refine hcskip <| hthen <| hseq <| hreg <| hy (fun m => yV (y_ldN rfl ag27 sz27 (Sup.cs_len hP1) ((m.blk 0 rfl).cells0)) ((rfl : _ = Value.agg (Sup.mk (around s.active 2) (around s.gen 2147483648) (⟨true, s.s0.image, around s.s0.size 65537⟩) Sl.zero).cs.toArray))) <| ?_
        rw [show s.good = Sup.mk (around s.active 2) (around s.gen 2147483648) (⟨true, s.s0.image, around s.s0.size 65537⟩) Sl.zero by rw [Sup.good, hg0, hg1]]
        refine hx0 (xh_stA 1 rfl rfl rfl sz27 (Sup.cs_len hP1) (Sup.cs_one (s := Sup.mk (around s.active 2) (around s.gen 2147483648) (⟨true, s.s0.image, around s.s0.size 65537⟩) Sl.zero)) rfl ?_)
        refine hend <| hsub (ρ' := [(25, _), (13, _), (3, _), (2, _), (1, _), (0, _)]) ⟨rfl, rfl, rfl, rfl, rfl, rfl, trivial⟩ <| hmemQ (X' := [_, _, _]) (S' := []) (fun _ m => m) <| hthen <| hret <| ?_
        exact hretN trivial rfl rfl ag27 sz27 (Sup.cs_len hP1) (fun m => (m.blk 0 rfl).cells0) [] rfl [] rfl ⟨rfl, rfl, rfl⟩
    · have hg0 : s.s0.good = Sl.zero := if_neg (by rw [q3]; decide)
      refine hcskip <| hthen <| hseq <| hseq <| hreg <| hy (fun _ => y_fld rfl fa27_3 (by decide)) <| hy (fun _ => y_fld rfl fa25_0 (by decide)) <| hy (fun m => y_ld1 rfl ag4 ((m.blk 2 rfl).cells0 36 _ (sup_s1 h (j := 0) sl0))) <| hend <| hsub (ρ' := [(25, _), (13, _), (3, _), (2, _), (1, _), (0, _)]) ⟨rfl, rfl, rfl, rfl, rfl, rfl, trivial⟩ <| hthen <| ?_
      refine hifb rfl (fun jq3 => ?_) (fun jq3 => ?_)
      · have hg1 : s.s1.good = ⟨true, s.s1.image, around s.s1.size 65537⟩ := if_pos jq3
        have hu1 := good_wf0 h.w1
        rw [hg1] at hu1
        have hP2 : (Sup.mk (around s.active 2) (around s.gen 2147483648) (Sl.zero) ⟨true, s.s1.image, around s.s1.size 65537⟩).wf := ⟨hP0.a0, hP0.a1, hP0.g0, hP0.g1, Sl.zero_wf, hu1⟩
        have hP1 : (Sup.mk (around s.active 2) (around s.gen 2147483648) (Sl.zero) Sl.zero).wf := ⟨hP0.a0, hP0.a1, hP0.g0, hP0.g1, Sl.zero_wf, Sl.zero_wf⟩
        have hput := sup_put hP1 (i := 1) (by decide) hu1
        refine hdrw [6, 9] [(0, some 1), (1, some 1), (2, some 1), (3, some 0), (4, some 0), (5, some 0), (6, none), (7, some 1), (8, some 1), (9, none)] (by kernel_rfl) (by kernel_rfl) rfl 1 <| htyU (y_fld rfl fa27_3 (by decide)) <| htyU (y_fld rfl fa25_1 (by decide)) <| hty (fun m => yV (y_ldN rfl ag23 sz23 (by rw [b8s_length, h.w1.len]) (fun j u hu => by rw [add_add, add_add]; exact (m.blk 2 rfl).cells0 (36 + (1 + j)) u (sup_s1 h (sl_im hu)))) ((rfl : _ = Value.agg (b8s s.s1.image).toArray))) <| htyU (y_fld rfl fa27_3 (by decide)) <| htyU (y_fld rfl fa25_2 (by decide)) <| hty (fun m => y_ld1 rfl ag3 ((m.blk 2 rfl).cells0 69 _ (sup_s1 h (sl33 h.w1)))) <| ?_
        refine htx (xh_call rfl Tryd.call14 (aroundC h.w1.lo h.w1.hi (by decide) (n := s.s1.size) (m := 65537)) [] rfl [] rfl ?_)
        rintro _ _ _ ⟨rfl, rfl, rfl⟩
        refine ⟨(fun _ => wk [0, 0, 0] [] rfl rfl), ?_⟩
        refine htyU (y_build ti25 rfl rfl (by kernel_rfl) (bld_sl (x := ⟨true, s.s1.image, around s.s1.size 65537⟩) h.w1.len rfl pl25_0 pl25_1 pl25_2)) <| htyU (y_fld rfl fa27_3 (by decide)) <| ?_
        refine htx0 (xh_stNa 0 rfl rfl rfl sz25 (Sl.cs_len hu1) Sl.cs_one (by rw [Sup.cs_len hP1]; decide) ⟨(fun h => absurd h (by decide)), ?_⟩)
        refine htmem (fun w m => m.eqX 0 rfl (show _ = RBlk g3 27 (Sup.mk (around s.active 2) (around s.gen 2147483648) (Sl.zero) ⟨true, s.s1.image, around s.s1.size 65537⟩).cs from congrArg (RBlk _ _) hput)) ?_
        refine htend <| hsub (ρ' := [(25, _), (13, _), (3, _), (2, _), (1, _), (0, _)]) ⟨rfl, rfl, rfl, rfl, rfl, rfl, trivial⟩ <| hmemQ (X' := [_, _, _]) (S' := []) (fun _ m => m) <| hthen <| hseq <| hreg <| hy (fun m => yV (y_ldN rfl ag27 sz27 (Sup.cs_len hP2) ((m.blk 0 rfl).cells0)) ((rfl : _ = Value.agg (Sup.mk (around s.active 2) (around s.gen 2147483648) (Sl.zero) ⟨true, s.s1.image, around s.s1.size 65537⟩).cs.toArray))) <| ?_
        rw [show s.good = Sup.mk (around s.active 2) (around s.gen 2147483648) (Sl.zero) ⟨true, s.s1.image, around s.s1.size 65537⟩ by rw [Sup.good, hg0, hg1]]
        refine hx0 (xh_stA 1 rfl rfl rfl sz27 (Sup.cs_len hP2) (Sup.cs_one (s := Sup.mk (around s.active 2) (around s.gen 2147483648) (Sl.zero) ⟨true, s.s1.image, around s.s1.size 65537⟩)) rfl ?_)
        refine hend <| hsub (ρ' := [(25, _), (13, _), (3, _), (2, _), (1, _), (0, _)]) ⟨rfl, rfl, rfl, rfl, rfl, rfl, trivial⟩ <| hmemQ (X' := [_, _, _]) (S' := []) (fun _ m => m) <| hthen <| hret <| ?_
        exact hretN trivial rfl rfl ag27 sz27 (Sup.cs_len hP2) (fun m => (m.blk 0 rfl).cells0) [] rfl [] rfl ⟨rfl, rfl, rfl⟩
      · have hg1 : s.s1.good = Sl.zero := if_neg (by rw [jq3]; decide)
        have hP1 : (Sup.mk (around s.active 2) (around s.gen 2147483648) (Sl.zero) Sl.zero).wf := ⟨hP0.a0, hP0.a1, hP0.g0, hP0.g1, Sl.zero_wf, Sl.zero_wf⟩
        refine hcskip <| hthen <| hseq <| hreg <| hy (fun m => yV (y_ldN rfl ag27 sz27 (Sup.cs_len hP1) ((m.blk 0 rfl).cells0)) ((rfl : _ = Value.agg (Sup.mk (around s.active 2) (around s.gen 2147483648) (Sl.zero) Sl.zero).cs.toArray))) <| ?_
        rw [show s.good = Sup.mk (around s.active 2) (around s.gen 2147483648) (Sl.zero) Sl.zero by rw [Sup.good, hg0, hg1]]
        refine hx0 (xh_stA 1 rfl rfl rfl sz27 (Sup.cs_len hP1) (Sup.cs_one (s := Sup.mk (around s.active 2) (around s.gen 2147483648) (Sl.zero) Sl.zero)) rfl ?_)
        refine hend <| hsub (ρ' := [(25, _), (13, _), (3, _), (2, _), (1, _), (0, _)]) ⟨rfl, rfl, rfl, rfl, rfl, rfl, trivial⟩ <| hmemQ (X' := [_, _, _]) (S' := []) (fun _ m => m) <| hthen <| hret <| ?_
        exact hretN trivial rfl rfl ag27 sz27 (Sup.cs_len hP1) (fun m => (m.blk 0 rfl).cells0) [] rfl [] rfl ⟨rfl, rfl, rfl⟩
end Go.Proofs.YtfikjheicjamhaaDoor
end
section
/- Contracts: law 22's of and as. -/
set_option linter.unusedVariables false
set_option linter.unusedSimpArgs false
set_option maxRecDepth 20000
namespace Go.Proofs.YtfikjheicjamhaaDoor
open Go.Eng Go.Hx
theorem splice_front {zs a : List Value} {n : Nat} (ha : a.length = n) : splice zs 0 a = a ++ zs.drop n := by rw [splice, List.take_zero, List.nil_append, Nat.zero_add, ha]
theorem splice_back {a r c : List Value} {o : Nat} (ha : a.length = o) (hc : c.length = r.length) : splice (a ++ r) o c = a ++ c := by
  have := splice_app (a := a) (b := r) (c := []) (vs := c) ha hc
  simpa using this
theorem bld_two {P : Program} {pl : Nat → Option (Nat × Nat)} {x y : Sl} (ha : x.wf) (hc : y.wf) {zs : List Value} (hz : zs.length = 68) (p0 : pl 0 = some (0, 34)) (p1 : pl 1 = some (34, 34)) :
    Bld P pl zs [(0, .agg x.cs.toArray), (1, .agg y.cs.toArray)] (x.cs ++ y.cs) := by
  have h1 := Sl.cs_len ha
  have h2 := Sl.cs_len hc
  have l1 : (splice zs 0 x.cs).length = 68 := by rw [splice_length (by omega), hz]
  refine .cons (vs := x.cs) p0 rfl h1 (by omega) (.cons (vs := y.cs) p1 rfl h2 (by omega) ?_)
  rw [splice_front h1, splice_back h1 (by rw [List.length_drop]; omega)]
  exact .nil
theorem bld_sup3 {P : Program} {pl : Nat → Option (Nat × Nat)} {s : Sup} (h : s.wf) {zs : List Value} (hz : zs.length = 70) (p0 : pl 0 = some (0, 1)) (p1 : pl 1 = some (1, 1)) (p2 : pl 2 = some (2, 68)) :
    Bld P pl zs [(0, .int .i64 s.active), (1, .int .i64 s.gen), (2, .agg (s.s0.cs ++ s.s1.cs).toArray)] s.cs := by
  match zs, hz with
  | z0 :: z1 :: r, hz =>
    have hr : r.length = 68 := by simpa using hz
    have h3 : (s.s0.cs ++ s.s1.cs).length = 68 := by rw [List.length_append, Sl.cs_len h.w0, Sl.cs_len h.w1]
    refine .cons (vs := [.int .i64 s.active]) p0 rfl rfl (by show 0 + 1 ≤ (z0 :: z1 :: r).length; omega) (.cons (vs := [.int .i64 s.gen]) p1 rfl rfl (by show 1 + 1 ≤ (Value.int .i64 s.active :: z1 :: r).length; simp) (.cons (vs := s.s0.cs ++ s.s1.cs) p2 rfl h3 (by show 2 + 68 ≤ (Value.int .i64 s.active :: Value.int .i64 s.gen :: r).length; simp; omega) ?_))
    have e : splice ([Value.int .i64 s.active, .int .i64 s.gen] ++ r) 2 (s.s0.cs ++ s.s1.cs) = s.cs := splice_back rfl (by omega)
    show Bld P pl (splice ([Value.int .i64 s.active, .int .i64 s.gen] ++ r) 2 (s.s0.cs ++ s.s1.cs)) [] s.cs
    rw [e]
    exact .nil
theorem bld_sup4 {P : Program} {pl : Nat → Option (Nat × Nat)} {s : Sup} (h : s.wf) {zs : List Value} (hz : zs.length = 70) (p0 : pl 0 = some (0, 1)) (p1 : pl 1 = some (1, 1)) (p2 : pl 2 = some (2, 34)) (p3 : pl 3 = some (36, 34)) :
    Bld P pl zs [(0, .int .i64 s.active), (1, .int .i64 s.gen), (2, .agg s.s0.cs.toArray), (3, .agg s.s1.cs.toArray)] s.cs := by
  match zs, hz with
  | z0 :: z1 :: r, hz =>
    have hr : r.length = 68 := by simpa using hz
    have h1 := Sl.cs_len h.w0
    have h2 := Sl.cs_len h.w1
    have e1 : splice ([Value.int .i64 s.active, .int .i64 s.gen] ++ r) 2 s.s0.cs = ([Value.int .i64 s.active, .int .i64 s.gen] ++ s.s0.cs) ++ r.drop 34 := by
      have := splice_app (a := [Value.int .i64 s.active, .int .i64 s.gen]) (b := r.take 34) (c := r.drop 34) (vs := s.s0.cs) (o := 2) rfl (by rw [List.length_take]; omega)
      rwa [List.append_assoc _ (r.take 34), List.take_append_drop] at this
    refine .cons (vs := [.int .i64 s.active]) p0 rfl rfl (by show 0 + 1 ≤ (z0 :: z1 :: r).length; omega) (.cons (vs := [.int .i64 s.gen]) p1 rfl rfl (by show 1 + 1 ≤ (Value.int .i64 s.active :: z1 :: r).length; simp) (.cons (vs := s.s0.cs) p2 rfl h1 (by show 2 + 34 ≤ (Value.int .i64 s.active :: Value.int .i64 s.gen :: r).length; simp; omega) ?_))
    show Bld P pl (splice ([Value.int .i64 s.active, .int .i64 s.gen] ++ r) 2 s.s0.cs) [(3, .agg s.s1.cs.toArray)] s.cs
    rw [e1]
    have e2 : splice (([Value.int .i64 s.active, .int .i64 s.gen] ++ s.s0.cs) ++ r.drop 34) 36 s.s1.cs = s.cs := splice_back (by rw [List.length_append, h1]; rfl) (by rw [List.length_drop]; omega)
    refine .cons (vs := s.s1.cs) p3 rfl h2 (by simp; omega) ?_
    rw [e2]
    exact .nil
theorem ofSC {s : Sup} (h : s.wf) : Con Tryd.prog 17 [.agg s.cs.toArray] [] [] (fun v_ X_ S_ => v_ = (.agg s.cs.toArray) ∧ X_ = [] ∧ S_ = []) := by
  refine henter (N := 13) Tryd.func17 rfl rfl (by simp) fun b => ?_
  refine hseq <| hreg <| ?_
  refine hx (xh_box rfl (fun g1 => ?_))
  refine hmemL (fun w m => m.eqX 0 rfl (show _ = RBlk g1 27 s.cs from congrArg (RBlk _ _) (cells_agg _))) ?_
  refine hx (xh_alloc ti39 (fun g2 => ?_))
  refine hend <| hmemQ (X' := [_, _]) (S' := []) (fun _ m => m) <| hthen <| hseq <| hreg <| hy (fun _ => y_fld rfl fa27_0 (by decide)) <| hy (fun m => y_ld1 rfl ag3 ((m.blk 1 rfl).cells0 0 _ sup0)) <| hy (fun _ => y_fld rfl fa27_1 (by decide)) <| hy (fun m => y_ld1 rfl ag3 ((m.blk 1 rfl).cells0 1 _ sup1)) <| hy (fun _ => y_fld rfl fa27_2 (by decide)) <| hy (fun m => yV (y_ldN rfl ag25 sz25 (Sl.cs_len h.w0) (fun j u hu => by rw [add_add]; exact (m.blk 1 rfl).cells0 (2 + j) u (sup_s0 hu))) ((rfl : _ = Value.agg s.s0.cs.toArray))) <| hy (fun _ => y_fld rfl fa27_3 (by decide)) <| hy (fun m => yV (y_ldN rfl ag25 sz25 (Sl.cs_len h.w1) (fun j u hu => by rw [add_add]; exact (m.blk 1 rfl).cells0 (36 + j) u (sup_s1 h hu))) ((rfl : _ = Value.agg s.s1.cs.toArray))) <| hy (fun _ => y_build ti37 rfl rfl (by kernel_rfl) (bld_two h.w0 h.w1 rfl (by kernel_rfl) (by kernel_rfl))) <| hy (fun _ => y_build ti39 rfl rfl (by kernel_rfl) (bld_sup3 h rfl pl39_0 pl39_1 pl39_2)) <| ?_
  refine hx0 (xh_stA 0 rfl rfl rfl sz39 (Sup.cs_len h) (Sup.cs_one (s := s)) rfl ?_)
  refine hend <| hsub (ρ' := [(2, _), (1, _), (0, _)]) ⟨rfl, rfl, rfl, trivial⟩ <| hmemQ (X' := [_, _]) (S' := []) (fun _ m => m) <| hthen <| hret <| ?_
  exact hretN trivial rfl rfl ag39 sz39 (Sup.cs_len h) (fun m => (m.blk 0 rfl).cells0) [] rfl [] rfl ⟨rfl, rfl, rfl⟩
theorem asSC {s : Sup} (h : s.wf) : Con Tryd.prog 25 [.agg s.cs.toArray] [] [] (fun v_ X_ S_ => v_ = (.agg s.cs.toArray) ∧ X_ = [] ∧ S_ = []) := by
  refine henter (N := 14) Tryd.func25 rfl rfl (by simp) fun b => ?_
  refine hseq <| hreg <| ?_
  refine hx (xh_box rfl (fun g1 => ?_))
  refine hmemL (fun w m => m.eqX 0 rfl (show _ = RBlk g1 39 s.cs from congrArg (RBlk _ _) (cells_agg _))) ?_
  refine hx (xh_alloc ti27 (fun g2 => ?_))
  refine hend <| hmemQ (X' := [_, _]) (S' := []) (fun _ m => m) <| hthen <| hseq <| hreg <| hy (fun _ => y_fld rfl fa39_0 (by decide)) <| hy (fun m => y_ld1 rfl ag3 ((m.blk 1 rfl).cells0 0 _ sup0)) <| hy (fun _ => y_fld rfl fa39_1 (by decide)) <| hy (fun m => y_ld1 rfl ag3 ((m.blk 1 rfl).cells0 1 _ sup1)) <| hy (fun _ => y_fld rfl fa39_2 (by decide)) <| hy (fun _ => y_idxA rfl rfl Tryd.underlying37 sz36 (show ((0 : Nat) : Int) = 0 from rfl) (by omega)) <| hy (fun m => yV (y_ldN rfl ag36 sz36 (Sl.cs_len h.w0) (fun j u hu => by rw [add_add, add_add, show 2 + (0 * 34 + j) = 2 + j by omega]; exact (m.blk 1 rfl).cells0 (2 + j) u (sup_s0 hu))) ((rfl : _ = Value.agg s.s0.cs.toArray))) <| hy (fun _ => y_fld rfl fa39_2 (by decide)) <| hy (fun _ => y_idxA rfl rfl Tryd.underlying37 sz36 (show ((1 : Nat) : Int) = 1 from rfl) (by omega)) <| hy (fun m => yV (y_ldN rfl ag36 sz36 (Sl.cs_len h.w1) (fun j u hu => by rw [add_add, add_add, show 2 + (1 * 34 + j) = 36 + j by omega]; exact (m.blk 1 rfl).cells0 (36 + j) u (sup_s1 h hu))) ((rfl : _ = Value.agg s.s1.cs.toArray))) <| hy (fun _ => y_build ti27 rfl rfl (by kernel_rfl) (bld_sup4 h rfl pl27_0 pl27_1 pl27_2 pl27_3)) <| ?_
  refine hx0 (xh_stA 0 rfl rfl rfl sz27 (Sup.cs_len h) (Sup.cs_one (s := s)) rfl ?_)
  refine hend <| hsub (ρ' := [(2, _), (1, _), (0, _)]) ⟨rfl, rfl, rfl, trivial⟩ <| hmemQ (X' := [_, _]) (S' := []) (fun _ m => m) <| hthen <| hret <| ?_
  exact hretN trivial rfl rfl ag27 sz27 (Sup.cs_len h) (fun m => (m.blk 0 rfl).cells0) [] rfl [] rfl ⟨rfl, rfl, rfl⟩
end Go.Proofs.YtfikjheicjamhaaDoor
end
section
/- Contract: the document's Read of a superblock. -/
set_option linter.unusedVariables false
set_option linter.unusedSimpArgs false
set_option maxRecDepth 20000
namespace Go.Proofs.YtfikjheicjamhaaDoor
open Go.Eng Go.Hx
theorem rtakeC {A : Option Addr} {n c : Nat} {l : List UInt8} (hc : n ≤ c) (hn : n ≤ 70368744177664) : Con Tryd.prog 70 [.slice A n c] [] [RRd 1 A n (b8s l)] (fun v_ X_ S_ => ∃ v, v_ = (.tuple #[v, .int .i64 (takeE l)]) ∧ X_ = [] ∧ S_ = [] ∧ (takeE l = 0 → v = .slice A (n - 4) c)) := by
  exact con_pure fun m => Calls.mono (rTake A n c l _ (m.rd 0 rfl) hc hn) (fun e w' ⟨⟨v, h1, h2⟩, hf⟩ => ⟨_, h1, ⟨v, rfl, rfl, rfl, fun h => (h2 h).1⟩, hf⟩)
theorem numSC {A : Option Addr} {n c i : Nat} {l : List UInt8} (hi : i + 4 ≤ n) (hn : n ≤ 1000000000) : Con Tryd.prog 71 [.slice A n c, .int .i64 (i : Nat)] [] [RRd 1 A n (b8s l)] (fun v_ X_ S_ => v_ = (.int .i64 (num4 (l.drop i) : Nat)) ∧ X_ = [] ∧ S_ = []) := by
  have hv : num4 (l.drop i) = (l.getD i 0).toNat + 256 * (l.getD (i + 1) 0).toNat + 65536 * (l.getD (i + 2) 0).toNat + 16777216 * (l.getD (i + 3) 0).toNat := by simp [num4, List.getD]
  have b0 := (l.getD i 0).toNat_lt
  have b1 := (l.getD (i + 1) 0).toNat_lt
  have b2 := (l.getD (i + 2) 0).toNat_lt
  have b3 := (l.getD (i + 3) 0).toNat_lt
  refine henter (N := 34) Tryd.func71 rfl rfl (by simp) fun b => ?_
  refine hfactC (fun m => rdB (m.rd 0 rfl)) ?_
  rintro ⟨hl_r, hA_r⟩
  refine hseq <| hreg <| hy (fun _ => y_assign rfl) <| hend <| hthen <| hseq <| hdrw [] [(0, some 0), (1, some 0), (2, some 0), (3, some 0), (4, some 0), (5, some 0), (6, some 0), (7, some 0), (8, some 0), (9, some 0), (10, some 0), (11, some 0), (12, some 0), (13, some 0), (14, some 0), (15, some 0), (16, some 0), (17, some 0), (18, some 0), (19, some 0), (20, some 0), (21, some 0), (22, some 0), (23, some 0), (24, some 0), (25, some 0), (26, some 0), (27, some 0), (28, some 0), (29, some 0)] (by kernel_rfl) (by kernel_rfl) rfl 99 <| htyU (y_move rfl) <| htyU (y_move rfl) <| htyU (y_idxS1 rfl rfl Tryd.underlying32 sz5 hA_r rfl (by omega)) <| hty (fun m => y_ld1 rfl ag5 ((m.rd 0 rfl).cell (b8s_get (by omega)))) <| htyU (y_conv rfl Tryd.underlying5 Tryd.underlying3 (w64 (by omega) (by omega))) <| htyU (y_move rfl) <| htyU (y_move rfl) <| htyU (y_add rfl rfl (w64 (by omega) (by omega))) <| htyU (y_idxS1 rfl rfl Tryd.underlying32 sz5 hA_r (show ((i + 1 : Nat) : Int) = _ by omega) (by omega)) <| hty (fun m => y_ld1 rfl ag5 ((m.rd 0 rfl).cell (b8s_get (by omega)))) <| htyU (y_conv rfl Tryd.underlying5 Tryd.underlying3 (w64 (by omega) (by omega))) <| htyU (y_mul rfl rfl (w64 (by omega) (by omega))) <| htyU (y_add rfl rfl (w64 (by omega) (by omega))) <| htyU (y_move rfl) <| htyU (y_move rfl) <| htyU (y_add rfl rfl (w64 (by omega) (by omega))) <| htyU (y_idxS1 rfl rfl Tryd.underlying32 sz5 hA_r (show ((i + 2 : Nat) : Int) = _ by omega) (by omega)) <| hty (fun m => y_ld1 rfl ag5 ((m.rd 0 rfl).cell (b8s_get (by omega)))) <| htyU (y_conv rfl Tryd.underlying5 Tryd.underlying3 (w64 (by omega) (by omega))) <| htyU (y_mul rfl rfl (w64 (by omega) (by omega))) <| htyU (y_add rfl rfl (w64 (by omega) (by omega))) <| htyU (y_move rfl) <| htyU (y_move rfl) <| htyU (y_add rfl rfl (w64 (by omega) (by omega))) <| htyU (y_idxS1 rfl rfl Tryd.underlying32 sz5 hA_r (show ((i + 3 : Nat) : Int) = _ by omega) (by omega)) <| hty (fun m => y_ld1 rfl ag5 ((m.rd 0 rfl).cell (b8s_get (by omega)))) <| htyU (y_conv rfl Tryd.underlying5 Tryd.underlying3 (w64 (by omega) (by omega))) <| htyU (y_mul rfl rfl (w64 (by omega) (by omega))) <| htyU (yV (y_add rfl rfl (w64 (by omega) (by omega))) ((show Value.int .i64 (((l.getD i 0).toNat : Int) + 256 * ((l.getD (i + 1) 0).toNat : Int) + 65536 * ((l.getD (i + 2) 0).toNat : Int) + 16777216 * ((l.getD (i + 3) 0).toNat : Int)) = .int .i64 (num4 (l.drop i) : Nat) by rw [hv]; congr 1))) <| htyU (y_assign rfl) <| htend <| hsub (ρ' := [(4, _), (0, _), (1, _)]) ⟨rfl, rfl, rfl, trivial⟩ <| hthen <| hret <| ?_
  exact hret1 trivial rfl rfl [] rfl [] rfl ⟨rfl, rfl, rfl⟩
theorem rreadSC {A : Option Addr} {n c : Nat} {l : List UInt8} (hc : n ≤ c) (hn : n ≤ 1000000000) : Con Tryd.prog 24 [.slice A n c] [] [RRd 1 A n (b8s l)] (fun v_ X_ S_ => v_ = (.tuple #[.agg (rdSup l).1.cs.toArray, .int .i64 (rdSup l).2]) ∧ X_ = [] ∧ S_ = []) := by
  refine henter (N := 64) Tryd.func24 rfl rfl (by simp) fun b => ?_
  refine hfactC (fun m => rdB (m.rd 0 rfl)) ?_
  rintro ⟨hl_r, hA_r⟩
  refine hseq <| hreg <| ?_
  refine hx (xh_alloc ti27 (fun g2 => ?_))
  refine hy (fun _ => y_assign rfl) <| hend <| hmemQ (X' := [_]) (S' := [_]) (fun _ m => m) <| hthen <| hseq <| hreg <| hy (fun _ => y_move rfl) <| ?_
  refine hx (xh_call rfl Tryd.call70 (rtakeC (by omega) (by omega)) [] rfl [0] rfl ?_)
  rintro _ _ _ ⟨v, rfl, rfl, rfl, hp⟩
  refine hy (fun _ => y_move rfl) <| hy (fun _ => y_extract rfl rfl) <| hy (fun _ => y_extract rfl rfl) <| hy (fun _ => y_assign rfl) <| hy (fun _ => y_assign rfl) <| hend <| hsub (ρ' := [(5, _), (4, _), (3, _), (2, _), (0, _)]) ⟨rfl, rfl, rfl, rfl, rfl, trivial⟩ <| hmemQ (X' := [_]) (S' := [_]) (fun _ m => m) <| hthen <| hseq <| hseq <| hreg <| hy (fun _ => y_move rfl) <| hy (fun _ => y_neq rfl rfl) <| hend <| hsub (ρ' := [(14, _), (5, _), (4, _), (3, _), (2, _), (0, _)]) ⟨rfl, rfl, rfl, rfl, rfl, rfl, trivial⟩ <| hthen <| ?_
  refine hif rfl (fun h0 => ?_) (fun h0 => ?_)
  · rw [show rdSup l = (Sup.zero, takeE l) by rw [rdSup, if_pos h0]]
    refine hseq <| hreg <| hy (fun _ => y_build0 ti27 rfl (by kernel_rfl)) <| hy (fun _ => y_move rfl) <| ?_
    refine hx0 (xh_stA 0 rfl rfl rfl sz27 (Sup.cs_len Sup.zero_wf) (Sup.cs_one (s := Sup.zero)) rfl ?_)
    refine hy (fun _ => y_assign rfl) <| hend <| hsub (ρ' := [(3, _), (14, _), (5, _), (4, _), (2, _), (0, _)]) ⟨rfl, rfl, rfl, rfl, rfl, rfl, trivial⟩ <| hmemQ (X' := [_]) (S' := [_]) (fun _ m => m) <| hthen <| hret <| hthen_ret <| ?_
    exact hretN1 trivial rfl rfl rfl ag27 sz27 (Sup.cs_len Sup.zero_wf) (fun m => (m.blk 0 rfl).cells0) [] rfl [] rfl ⟨rfl, rfl, rfl⟩
  · have h0 := Decidable.not_not.1 h0
    have hn4 : 4 ≤ n := by
      rcases Nat.lt_or_ge l.length 4 with hlt | hge
      · rw [(takeE_2 hlt).1] at h0; omega
      · omega
    obtain rfl := hp h0
    have hbad : ¬ rdOk (l.take (l.length - 4)) → rdSup l = (Sup.zero, 2) := fun hb => by rw [rdSup, if_neg (by omega), if_neg hb]
    have hok : rdOk (l.take (l.length - 4)) → rdSup l = (rdBody (l.take (l.length - 4)), 0) := fun hb => by rw [rdSup, if_neg (by omega), if_pos hb]
    have href := fun h83 => rdSup_ref h0 h83
    have hbl : (l.take (l.length - 4)).length = n - 4 := by rw [List.length_take]; omega
    refine hmemC (fun w m => m.asV 0 rfl (View.take (k := n - 4) (by omega))) ?_
    refine hfactC (fun m => rdB (m.rd 0 rfl)) ?_
    rintro ⟨hl_bd, hA_bd⟩
    have hln : l.take (n - 4) = l.take (l.length - 4) := by rw [hl_r]
    rw [hln]
    generalize l.take (l.length - 4) = B at hbad hok href hbl ⊢
    refine hcskip <| hthen <| hseq <| hseq <| hreg <| hy (fun _ => y_move rfl) <| hy (fun _ => y_lenS rfl Tryd.underlying32) <| hy (fun _ => y_neq rfl rfl) <| hend <| hsub (ρ' := [(19, _), (14, _), (5, _), (4, _), (3, _), (2, _), (0, _)]) ⟨rfl, rfl, rfl, rfl, rfl, rfl, rfl, trivial⟩ <| hthen <| ?_
    refine hif rfl (fun h83 => ?_) (fun h83 => ?_)
    · rw [hbad (fun hb => h83 (by have := hb.1; omega))]
      refine hseq <| hreg <| hy (fun _ => y_build0 ti27 rfl (by kernel_rfl)) <| ?_
      refine hx0 (xh_stA 0 rfl rfl rfl sz27 (Sup.cs_len Sup.zero_wf) (Sup.cs_one (s := Sup.zero)) rfl ?_)
      refine hy (fun _ => y_assign rfl) <| hend <| hsub (ρ' := [(3, _), (19, _), (14, _), (5, _), (4, _), (2, _), (0, _)]) ⟨rfl, rfl, rfl, rfl, rfl, rfl, rfl, trivial⟩ <| hmemQ (X' := [_]) (S' := [_, _]) (fun _ m => m) <| hthen <| hret <| hthen_ret <| ?_
      exact hretN1 trivial rfl rfl rfl ag27 sz27 (Sup.cs_len Sup.zero_wf) (fun m => (m.blk 0 rfl).cells0) [] rfl [] rfl ⟨rfl, rfl, rfl⟩
    · have h83 : B.length = 83 := by omega
      have hb4 := (B.getD 4 0).toNat_lt
      have hW := rdBody_wf h83
      have hS0 := hW.w0
      have hS1 := hW.w1
      have hP0 : (Sup.mk (rdBody B).active (rdBody B).gen Sl.zero Sl.zero).wf := ⟨hW.a0, hW.a1, hW.g0, hW.g1, Sl.zero_wf, Sl.zero_wf⟩
      have hP1 : (Sup.mk (rdBody B).active (rdBody B).gen (rdBody B).s0 Sl.zero).wf := ⟨hW.a0, hW.a1, hW.g0, hW.g1, hS0, Sl.zero_wf⟩
      have hput0 := sup_put hP0 (i := 0) (by decide) hS0
      have hput1 := sup_put hP1 (i := 1) (by decide) hS1
      have e9 : (B.drop 9).getD 0 0 = B.getD 9 0 := by simp [List.getD]
      have e46 : (B.drop 46).getD 0 0 = B.getD 46 0 := by simp [List.getD]
      have q31 : (((B.getD 9 0).toNat : Int) = 1) ↔ (B.drop 9).getD 0 0 = 1 := by
        rw [e9]
        constructor
        · intro h; exact UInt8.toNat_inj.1 (by rw [show (1 : UInt8).toNat = 1 from rfl]; omega)
        · intro h; rw [h]; rfl
      have q42 : (((B.getD 46 0).toNat : Int) = 1) ↔ (B.drop 46).getD 0 0 = 1 := by
        rw [e46]
        constructor
        · intro h; exact UInt8.toNat_inj.1 (by rw [show (1 : UInt8).toNat = 1 from rfl]; omega)
        · intro h; rw [h]; rfl
      have v10 : (B.drop 10).take 32 = (rdBody B).s0.image := by
        show _ = ((B.drop 9).drop 1).take 32
        rw [List.drop_drop]
      have v47 : (B.drop 47).take 32 = (rdBody B).s1.image := by
        show _ = ((B.drop 46).drop 1).take 32
        rw [List.drop_drop]
      have v42 : B.drop 42 = (B.drop 9).drop 33 := by rw [List.drop_drop]
      have v79 : B.drop 79 = (B.drop 46).drop 33 := by rw [List.drop_drop]
      refine hcskip <| hthen <| hseq <| hdrwP [5, 7, 8] (.take 0 2 <| .take 1 2 <| .take 2 2 <| .take 3 2 <| .take 4 2 <| .alt 5 (.take 6 2 <| .alt 7 (.alt 8 (.done) (.stop)) (.stop)) (.alt 7 (.alt 5 (.take 6 2 <| .alt 8 (.done) (.stop)) (.stop)) (.stop))) (by kernel_rfl) (by kernel_rfl) rfl 2 <| hpyU (y_move rfl) <| hpyU (y_idxS1 rfl rfl Tryd.underlying32 sz5 hA_bd (show ((4 : Nat) : Int) = 4 from rfl) (by omega)) <| hpy (fun m => y_ld1 rfl ag5 ((m.rd 0 rfl).cell (b8s_get (by omega)))) <| hpyU (y_conv rfl Tryd.underlying5 Tryd.underlying3 (w64 (by omega) (by omega))) <| hpyU (y_move rfl) <| ?_
      refine hpfork ?_ ?_
      · refine hpx (xh_call rfl Tryd.call71 (numSC (by omega) (by omega) (i := 5) (l := B)) [] rfl [0] rfl ?_)
        rintro _ _ _ ⟨rfl, rfl, rfl⟩
        refine ⟨(fun _ => wk [0] [0, 1] rfl rfl), ?_⟩
        refine hpyU (yV (y_build ti27 rfl rfl (by kernel_rfl) (.cons (o := 0) (sz := 1) (by kernel_rfl) rfl rfl (Nat.le_of_ble_eq_true rfl) (.cons (o := 1) (sz := 1) (by kernel_rfl) rfl rfl (Nat.le_of_ble_eq_true rfl) .nil))) ((rfl : _ = Value.agg (Sup.mk (rdBody B).active (rdBody B).gen Sl.zero Sl.zero).cs.toArray))) <| ?_
        refine hpx (xh_alloc ti27 (fun g6 => ⟨(fun _ => wk [1] [0, 1] rfl rfl), ?_⟩))
        refine hpx0 (xh_stA 0 rfl rfl rfl sz27 (Sup.cs_len hP0) (Sup.cs_one (s := Sup.mk (rdBody B).active (rdBody B).gen Sl.zero Sl.zero)) rfl ⟨(fun h => absurd h (by decide)), ?_⟩)
        refine hpmem (fun w m => m.asV 0 rfl (View.sub (n := n - 4) (c := c) (k := 10) (m := 32) (by omega) (by omega))) ?_
        refine hpfact (fun m => rdB (m.rd 0 rfl)) ?_
        rintro ⟨hl_im, hA_im⟩
        refine hpmem (fun w m => m.asV 1 rfl (View.sub (n := n - 4) (c := c) (k := 47) (m := 32) (by omega) (by omega))) ?_
        refine hpfact (fun m => rdB (m.rd 0 rfl)) ?_
        rintro ⟨hl_jm, hA_jm⟩
        rw [v10, v47]
        refine hpend <| hsub (ρ' := [(6, _), (19, _), (14, _), (5, _), (4, _), (3, _), (2, _), (0, _)]) ⟨rfl, rfl, rfl, rfl, rfl, rfl, rfl, rfl, trivial⟩ <| hmemQ (X' := [_, _]) (S' := [_, _, _, _]) (fun _ m => m) <| hthen <| hseq <| hdrw [6, 8, 11] [(0, some 2), (1, some 2), (2, some 2), (3, some 2), (4, some 0), (5, some 0), (7, some 1), (6, none), (8, none), (9, some 2), (10, some 2), (11, none)] (by kernel_rfl) (by kernel_rfl) rfl 2 <| htyU (y_move rfl) <| htyU (y_idxS1 rfl rfl Tryd.underlying32 sz5 hA_bd (show ((9 : Nat) : Int) = 9 from rfl) (by omega)) <| hty (fun m => y_ld1 rfl ag5 ((m.rd 2 rfl).cell (b8s_get (by omega)))) <| htyU (yV (y_eql rfl rfl) ((show Value.bool (decide (((B.getD 9 0).toNat : Int) = 1)) = .bool (rdBody B).s0.full from congrArg Value.bool (decide_eq_decide.2 q31)))) <| htyU (y_move rfl) <| htyU (y_slBoth rfl rfl rfl Tryd.underlying32 sz5 (show ((10 : Nat) : Int) = 10 from rfl) (show ((42 : Nat) : Int) = 42 from rfl) (by omega) (by omega)) <| htyU (y_move rfl) <| ?_
        refine htx (xh_call rfl Tryd.call72 (ofC rfl) [] rfl [1] rfl ?_)
        rintro _ _ _ ⟨rfl, rfl, rfl⟩
        refine ⟨(fun _ => wk [0, 0] [0, 1, 2, 3] rfl rfl), ?_⟩
        refine htx (xh_call rfl Tryd.call71 (numSC (by omega) (by omega) (i := 42) (l := B)) [] rfl [2] rfl ?_)
        rintro _ _ _ ⟨rfl, rfl, rfl⟩
        refine ⟨(fun _ => wk [0, 0] [0, 1, 2, 3] rfl rfl), ?_⟩
        rw [v42]
        refine htyU (y_build ti25 rfl rfl (by kernel_rfl) (bld_sl (x := (rdBody B).s0) hS0.len rfl pl25_0 pl25_1 pl25_2)) <| htyU (y_fld rfl fa27_2 (by decide)) <| ?_
        refine htx0 (xh_stNa 0 rfl rfl rfl sz25 (Sl.cs_len hS0) Sl.cs_one (by rw [Sup.cs_len hP0]; decide) ⟨(fun h => absurd h (by decide)), ?_⟩)
        refine htmem (fun w m => m.eqX 0 rfl (show _ = RBlk g6 27 (Sup.mk (rdBody B).active (rdBody B).gen (rdBody B).s0 Sl.zero).cs from congrArg (RBlk _ _) hput0)) ?_
        refine htend <| hsub (ρ' := [(6, _), (19, _), (14, _), (5, _), (4, _), (3, _), (2, _), (0, _)]) ⟨rfl, rfl, rfl, rfl, rfl, rfl, rfl, rfl, trivial⟩ <| hmemQ (X' := [_, _]) (S' := [_, _, _, _]) (fun _ m => m) <| hthen <| hseq <| hdrw [6, 8, 11] [(0, some 2), (1, some 2), (2, some 2), (3, some 2), (4, some 0), (5, some 0), (7, some 1), (6, none), (8, none), (9, some 2), (10, some 2), (11, none)] (by kernel_rfl) (by kernel_rfl) rfl 2 <| htyU (y_move rfl) <| htyU (y_idxS1 rfl rfl Tryd.underlying32 sz5 hA_bd (show ((46 : Nat) : Int) = 46 from rfl) (by omega)) <| hty (fun m => y_ld1 rfl ag5 ((m.rd 2 rfl).cell (b8s_get (by omega)))) <| htyU (yV (y_eql rfl rfl) ((show Value.bool (decide (((B.getD 46 0).toNat : Int) = 1)) = .bool (rdBody B).s1.full from congrArg Value.bool (decide_eq_decide.2 q42)))) <| htyU (y_move rfl) <| htyU (y_slBoth rfl rfl rfl Tryd.underlying32 sz5 (show ((47 : Nat) : Int) = 47 from rfl) (show ((79 : Nat) : Int) = 79 from rfl) (by omega) (by omega)) <| htyU (y_move rfl) <| ?_
        refine htx (xh_call rfl Tryd.call72 (ofC rfl) [] rfl [0] rfl ?_)
        rintro _ _ _ ⟨rfl, rfl, rfl⟩
        refine ⟨(fun _ => wk [0, 0] [0, 1, 2, 3] rfl rfl), ?_⟩
        refine htx (xh_call rfl Tryd.call71 (numSC (by omega) (by omega) (i := 79) (l := B)) [] rfl [2] rfl ?_)
        rintro _ _ _ ⟨rfl, rfl, rfl⟩
        refine ⟨(fun _ => wk [0, 0] [0, 1, 2, 3] rfl rfl), ?_⟩
        rw [v79]
        refine htyU (y_build ti25 rfl rfl (by kernel_rfl) (bld_sl (x := (rdBody B).s1) hS1.len rfl pl25_0 pl25_1 pl25_2)) <| htyU (y_fld rfl fa27_3 (by decide)) <| ?_
        refine htx0 (xh_stNa 0 rfl rfl rfl sz25 (Sl.cs_len hS1) Sl.cs_one (by rw [Sup.cs_len hP1]; decide) ⟨(fun h => absurd h (by decide)), ?_⟩)
        refine htmem (fun w m => m.eqX 0 rfl (show _ = RBlk g6 27 (rdBody B).cs from congrArg (RBlk _ _) hput1)) ?_
        refine htend <| hsub (ρ' := [(6, _), (19, _), (14, _), (5, _), (4, _), (3, _), (2, _), (0, _)]) ⟨rfl, rfl, rfl, rfl, rfl, rfl, rfl, rfl, trivial⟩ <| hmemQ (X' := [_, _]) (S' := [_, _, _, _]) (fun _ m => m) <| hthen <| hseq <| hreg <| hy (fun m => yV (y_ldN rfl ag27 sz27 (Sup.cs_len hW) ((m.blk 0 rfl).cells0)) ((rfl : _ = Value.agg (rdBody B).cs.toArray))) <| ?_
        refine hx (xh_call rfl Tryd.call15 (rmaySC hW) [] rfl [] rfl ?_)
        rintro _ _ _ ⟨rfl, rfl, rfl⟩
        refine hy (fun _ => y_assign rfl) <| hend <| hsub (ρ' := [(7, _), (6, _), (19, _), (14, _), (5, _), (4, _), (3, _), (2, _), (0, _)]) ⟨rfl, rfl, rfl, rfl, rfl, rfl, rfl, rfl, rfl, trivial⟩ <| hmemQ (X' := [_, _]) (S' := [_, _, _, _]) (fun _ m => m) <| hthen <| hseq <| hseq <| hdrw [4, 5] [(0, some 0), (1, some 0), (2, some 0), (3, some 0), (6, some 2), (7, some 2), (4, none), (5, none), (8, some 2), (9, some 2)] (by kernel_rfl) (by kernel_rfl) rfl 99 <| ?_
        by_cases hm : (rdBody B).may
        · refine htyU (y_move rfl) <| htyU (yF (y_notp rfl) ((decide_eq_false (fun h => h hm)))) <| htyU (y_move rfl) <| htyg (o := _) rfl rfl rfl (fun m => yV (y_ldN rfl ag27 sz27 (Sup.cs_len hW) ((m.blk 0 rfl).cells0)) ((rfl : _ = Value.agg (rdBody B).cs.toArray))) <| htyUg (o := _) rfl rfl rfl (y_move rfl) <| htyg (o := _) rfl rfl rfl (fun m => y_b2s rfl Tryd.underlying32 Tryd.underlying5 Tryd.underlying9 (m.rd 3 rfl)) <| ?_
          refine htxg (o := _) rfl rfl rfl (xh_call rfl Tryd.call19 (rbytesSC hW hm) [] rfl [] rfl ?_)
          rintro _ _ _ ⟨v2, rfl, rfl, rfl⟩
          refine ⟨(fun _ => wk [1, 1] [0, 1, 2, 3] rfl rfl), ?_⟩
          refine htfact (fun m => (m.own 0 rfl).slice) ?_
          rintro ⟨A_x, c_x, rfl, hc_x⟩
          refine htfact (fun m => (m.ord 0 rfl).2.1) fun hA_x => ?_
          refine htsg (o := _) rfl rfl rfl (fun _ => wk [1, 1] [0, 1, 2, 3] rfl rfl) (fun m => y_b2s rfl Tryd.underlying32 Tryd.underlying5 Tryd.underlying9 (m.ord 0 rfl)) <| htyUg (o := _) rfl rfl rfl (y_sne rfl rfl) <| htyU (y_pickF rfl rfl) <| htend <| hsub (ρ' := [(61, _), (7, _), (6, _), (19, _), (14, _), (5, _), (4, _), (3, _), (2, _), (0, _)]) ⟨rfl, rfl, rfl, rfl, rfl, rfl, rfl, rfl, rfl, rfl, trivial⟩ <| hmemQ (X' := [_, _, _]) (S' := [_, _, _, _]) (fun _ m => m) <| hthen <| ?_
          refine hif rfl (fun hq => ?_) (fun hq => ?_)
          · rw [hbad (fun hb => hq (congrArg strOf ((href h83).1 hb).2))]
            refine hseq <| hreg <| hy (fun _ => y_build0 ti27 rfl (by kernel_rfl)) <| ?_
            refine hx0 (xh_stA 2 rfl rfl rfl sz27 (Sup.cs_len Sup.zero_wf) (Sup.cs_one (s := Sup.zero)) rfl ?_)
            refine hy (fun _ => y_assign rfl) <| hend <| hsub (ρ' := [(3, _), (61, _), (7, _), (6, _), (19, _), (14, _), (5, _), (4, _), (2, _), (0, _)]) ⟨rfl, rfl, rfl, rfl, rfl, rfl, rfl, rfl, rfl, rfl, trivial⟩ <| hmemQ (X' := [_, _, _]) (S' := [_, _, _, _]) (fun _ m => m) <| hthen <| hret <| hthen_ret <| ?_
            exact hretN1 trivial rfl rfl rfl ag27 sz27 (Sup.cs_len Sup.zero_wf) (fun m => (m.blk 0 rfl).cells0) [] rfl [] rfl ⟨rfl, rfl, rfl⟩
          · have hq := strOf_inj.1 (Decidable.not_not.1 hq)
            rw [hok ((href h83).2 ⟨hm, hq⟩)]
            refine hcskip <| hthen <| hseq <| hreg <| hy (fun m => yV (y_ldN rfl ag27 sz27 (Sup.cs_len hW) ((m.blk 1 rfl).cells0)) ((rfl : _ = Value.agg (rdBody B).cs.toArray))) <| ?_
            refine hx0 (xh_stA 2 rfl rfl rfl sz27 (Sup.cs_len hW) (Sup.cs_one (s := rdBody B)) rfl ?_)
            refine hy (fun _ => y_assign rfl) <| hend <| hsub (ρ' := [(3, _), (61, _), (7, _), (6, _), (19, _), (14, _), (5, _), (4, _), (2, _), (0, _)]) ⟨rfl, rfl, rfl, rfl, rfl, rfl, rfl, rfl, rfl, rfl, trivial⟩ <| hmemQ (X' := [_, _, _]) (S' := [_, _, _, _]) (fun _ m => m) <| hthen <| hret <| ?_
            exact hretN1 trivial rfl rfl rfl ag27 sz27 (Sup.cs_len hW) (fun m => (m.blk 0 rfl).cells0) [] rfl [] rfl ⟨rfl, rfl, rfl⟩
        · refine htyU (y_move rfl) <| htyU (yT (y_notp rfl) ((decide_eq_true hm))) <| htyU (y_move rfl) <| htskip rfl rfl rfl (by decide) <| htskip rfl rfl rfl (by decide) <| htskip rfl rfl rfl (by decide) <| htskipx rfl rfl rfl (by decide) (fun _ => wk [0, 0] [0, 1, 2, 3] rfl rfl) <| htskipx rfl rfl rfl (by decide) (fun _ => wk [0, 0] [0, 1, 2, 3] rfl rfl) <| htskip rfl rfl rfl (by decide) <| htyU (y_pickT rfl rfl) <| htend <| hsub (ρ' := [(61, _), (7, _), (6, _), (19, _), (14, _), (5, _), (4, _), (3, _), (2, _), (0, _)]) ⟨rfl, rfl, rfl, rfl, rfl, rfl, rfl, rfl, rfl, rfl, trivial⟩ <| hthen <| ?_
          refine hift rfl (rfl) ?_
          rw [hbad (fun hb => hm hb.2.2.2.2)]
          refine hseq <| hreg <| hy (fun _ => y_build0 ti27 rfl (by kernel_rfl)) <| ?_
          refine hx0 (xh_stA 1 rfl rfl rfl sz27 (Sup.cs_len Sup.zero_wf) (Sup.cs_one (s := Sup.zero)) rfl ?_)
          refine hy (fun _ => y_assign rfl) <| hend <| hsub (ρ' := [(3, _), (61, _), (7, _), (6, _), (19, _), (14, _), (5, _), (4, _), (2, _), (0, _)]) ⟨rfl, rfl, rfl, rfl, rfl, rfl, rfl, rfl, rfl, rfl, trivial⟩ <| hmemQ (X' := [_, _]) (S' := [_, _, _, _]) (fun _ m => m) <| hthen <| hret <| hthen_ret <| ?_
          exact hretN1 trivial rfl rfl rfl ag27 sz27 (Sup.cs_len Sup.zero_wf) (fun m => (m.blk 0 rfl).cells0) [] rfl [] rfl ⟨rfl, rfl, rfl⟩
      · refine hpx (xh_alloc ti27 (fun g6 => ⟨(fun _ => wk [1] [0, 1] rfl rfl), ?_⟩))
        refine hpx (xh_call rfl Tryd.call71 (numSC (by omega) (by omega) (i := 5) (l := B)) [] rfl [0] rfl ?_)
        rintro _ _ _ ⟨rfl, rfl, rfl⟩
        refine ⟨(fun _ => wk [1] [0, 1] rfl rfl), ?_⟩
        refine hpyU (yV (y_build ti27 rfl rfl (by kernel_rfl) (.cons (o := 0) (sz := 1) (by kernel_rfl) rfl rfl (Nat.le_of_ble_eq_true rfl) (.cons (o := 1) (sz := 1) (by kernel_rfl) rfl rfl (Nat.le_of_ble_eq_true rfl) .nil))) ((rfl : _ = Value.agg (Sup.mk (rdBody B).active (rdBody B).gen Sl.zero Sl.zero).cs.toArray))) <| ?_
        refine hpx0 (xh_stA 0 rfl rfl rfl sz27 (Sup.cs_len hP0) (Sup.cs_one (s := Sup.mk (rdBody B).active (rdBody B).gen Sl.zero Sl.zero)) rfl ⟨(fun h => absurd h (by decide)), ?_⟩)
        refine hpmem (fun w m => m.asV 0 rfl (View.sub (n := n - 4) (c := c) (k := 10) (m := 32) (by omega) (by omega))) ?_
        refine hpfact (fun m => rdB (m.rd 0 rfl)) ?_
        rintro ⟨hl_im, hA_im⟩
        refine hpmem (fun w m => m.asV 1 rfl (View.sub (n := n - 4) (c := c) (k := 47) (m := 32) (by omega) (by omega))) ?_
        refine hpfact (fun m => rdB (m.rd 0 rfl)) ?_
        rintro ⟨hl_jm, hA_jm⟩
        rw [v10, v47]
        refine hpend <| hsub (ρ' := [(6, _), (19, _), (14, _), (5, _), (4, _), (3, _), (2, _), (0, _)]) ⟨rfl, rfl, rfl, rfl, rfl, rfl, rfl, rfl, trivial⟩ <| hmemQ (X' := [_, _]) (S' := [_, _, _, _]) (fun _ m => m) <| hthen <| hseq <| hdrw [6, 8, 11] [(0, some 2), (1, some 2), (2, some 2), (3, some 2), (4, some 0), (5, some 0), (7, some 1), (6, none), (8, none), (9, some 2), (10, some 2), (11, none)] (by kernel_rfl) (by kernel_rfl) rfl 2 <| htyU (y_move rfl) <| htyU (y_idxS1 rfl rfl Tryd.underlying32 sz5 hA_bd (show ((9 : Nat) : Int) = 9 from rfl) (by omega)) <| hty (fun m => y_ld1 rfl ag5 ((m.rd 2 rfl).cell (b8s_get (by omega)))) <| htyU (yV (y_eql rfl rfl) ((show Value.bool (decide (((B.getD 9 0).toNat : Int) = 1)) = .bool (rdBody B).s0.full from congrArg Value.bool (decide_eq_decide.2 q31)))) <| htyU (y_move rfl) <| htyU (y_slBoth rfl rfl rfl Tryd.underlying32 sz5 (show ((10 : Nat) : Int) = 10 from rfl) (show ((42 : Nat) : Int) = 42 from rfl) (by omega) (by omega)) <| htyU (y_move rfl) <| ?_
        refine htx (xh_call rfl Tryd.call72 (ofC rfl) [] rfl [1] rfl ?_)
        rintro _ _ _ ⟨rfl, rfl, rfl⟩
        refine ⟨(fun _ => wk [0, 0] [0, 1, 2, 3] rfl rfl), ?_⟩
        refine htx (xh_call rfl Tryd.call71 (numSC (by omega) (by omega) (i := 42) (l := B)) [] rfl [2] rfl ?_)
        rintro _ _ _ ⟨rfl, rfl, rfl⟩
        refine ⟨(fun _ => wk [0, 0] [0, 1, 2, 3] rfl rfl), ?_⟩
        rw [v42]
        refine htyU (y_build ti25 rfl rfl (by kernel_rfl) (bld_sl (x := (rdBody B).s0) hS0.len rfl pl25_0 pl25_1 pl25_2)) <| htyU (y_fld rfl fa27_2 (by decide)) <| ?_
        refine htx0 (xh_stNa 0 rfl rfl rfl sz25 (Sl.cs_len hS0) Sl.cs_one (by rw [Sup.cs_len hP0]; decide) ⟨(fun h => absurd h (by decide)), ?_⟩)
        refine htmem (fun w m => m.eqX 0 rfl (show _ = RBlk g6 27 (Sup.mk (rdBody B).active (rdBody B).gen (rdBody B).s0 Sl.zero).cs from congrArg (RBlk _ _) hput0)) ?_
        refine htend <| hsub (ρ' := [(6, _), (19, _), (14, _), (5, _), (4, _), (3, _), (2, _), (0, _)]) ⟨rfl, rfl, rfl, rfl, rfl, rfl, rfl, rfl, trivial⟩ <| hmemQ (X' := [_, _]) (S' := [_, _, _, _]) (fun _ m => m) <| hthen <| hseq <| hdrw [6, 8, 11] [(0, some 2), (1, some 2), (2, some 2), (3, some 2), (4, some 0), (5, some 0), (7, some 1), (6, none), (8, none), (9, some 2), (10, some 2), (11, none)] (by kernel_rfl) (by kernel_rfl) rfl 2 <| htyU (y_move rfl) <| htyU (y_idxS1 rfl rfl Tryd.underlying32 sz5 hA_bd (show ((46 : Nat) : Int) = 46 from rfl) (by omega)) <| hty (fun m => y_ld1 rfl ag5 ((m.rd 2 rfl).cell (b8s_get (by omega)))) <| htyU (yV (y_eql rfl rfl) ((show Value.bool (decide (((B.getD 46 0).toNat : Int) = 1)) = .bool (rdBody B).s1.full from congrArg Value.bool (decide_eq_decide.2 q42)))) <| htyU (y_move rfl) <| htyU (y_slBoth rfl rfl rfl Tryd.underlying32 sz5 (show ((47 : Nat) : Int) = 47 from rfl) (show ((79 : Nat) : Int) = 79 from rfl) (by omega) (by omega)) <| htyU (y_move rfl) <| ?_
        refine htx (xh_call rfl Tryd.call72 (ofC rfl) [] rfl [0] rfl ?_)
        rintro _ _ _ ⟨rfl, rfl, rfl⟩
        refine ⟨(fun _ => wk [0, 0] [0, 1, 2, 3] rfl rfl), ?_⟩
        refine htx (xh_call rfl Tryd.call71 (numSC (by omega) (by omega) (i := 79) (l := B)) [] rfl [2] rfl ?_)
        rintro _ _ _ ⟨rfl, rfl, rfl⟩
        refine ⟨(fun _ => wk [0, 0] [0, 1, 2, 3] rfl rfl), ?_⟩
        rw [v79]
        refine htyU (y_build ti25 rfl rfl (by kernel_rfl) (bld_sl (x := (rdBody B).s1) hS1.len rfl pl25_0 pl25_1 pl25_2)) <| htyU (y_fld rfl fa27_3 (by decide)) <| ?_
        refine htx0 (xh_stNa 0 rfl rfl rfl sz25 (Sl.cs_len hS1) Sl.cs_one (by rw [Sup.cs_len hP1]; decide) ⟨(fun h => absurd h (by decide)), ?_⟩)
        refine htmem (fun w m => m.eqX 0 rfl (show _ = RBlk g6 27 (rdBody B).cs from congrArg (RBlk _ _) hput1)) ?_
        refine htend <| hsub (ρ' := [(6, _), (19, _), (14, _), (5, _), (4, _), (3, _), (2, _), (0, _)]) ⟨rfl, rfl, rfl, rfl, rfl, rfl, rfl, rfl, trivial⟩ <| hmemQ (X' := [_, _]) (S' := [_, _, _, _]) (fun _ m => m) <| hthen <| hseq <| hreg <| hy (fun m => yV (y_ldN rfl ag27 sz27 (Sup.cs_len hW) ((m.blk 0 rfl).cells0)) ((rfl : _ = Value.agg (rdBody B).cs.toArray))) <| ?_
        refine hx (xh_call rfl Tryd.call15 (rmaySC hW) [] rfl [] rfl ?_)
        rintro _ _ _ ⟨rfl, rfl, rfl⟩
        refine hy (fun _ => y_assign rfl) <| hend <| hsub (ρ' := [(7, _), (6, _), (19, _), (14, _), (5, _), (4, _), (3, _), (2, _), (0, _)]) ⟨rfl, rfl, rfl, rfl, rfl, rfl, rfl, rfl, rfl, trivial⟩ <| hmemQ (X' := [_, _]) (S' := [_, _, _, _]) (fun _ m => m) <| hthen <| hseq <| hseq <| hdrw [4, 5] [(0, some 0), (1, some 0), (2, some 0), (3, some 0), (6, some 2), (7, some 2), (4, none), (5, none), (8, some 2), (9, some 2)] (by kernel_rfl) (by kernel_rfl) rfl 99 <| ?_
        by_cases hm : (rdBody B).may
        · refine htyU (y_move rfl) <| htyU (yF (y_notp rfl) ((decide_eq_false (fun h => h hm)))) <| htyU (y_move rfl) <| htyg (o := _) rfl rfl rfl (fun m => yV (y_ldN rfl ag27 sz27 (Sup.cs_len hW) ((m.blk 0 rfl).cells0)) ((rfl : _ = Value.agg (rdBody B).cs.toArray))) <| htyUg (o := _) rfl rfl rfl (y_move rfl) <| htyg (o := _) rfl rfl rfl (fun m => y_b2s rfl Tryd.underlying32 Tryd.underlying5 Tryd.underlying9 (m.rd 3 rfl)) <| ?_
          refine htxg (o := _) rfl rfl rfl (xh_call rfl Tryd.call19 (rbytesSC hW hm) [] rfl [] rfl ?_)
          rintro _ _ _ ⟨v2, rfl, rfl, rfl⟩
          refine ⟨(fun _ => wk [1, 1] [0, 1, 2, 3] rfl rfl), ?_⟩
          refine htfact (fun m => (m.own 0 rfl).slice) ?_
          rintro ⟨A_x, c_x, rfl, hc_x⟩
          refine htfact (fun m => (m.ord 0 rfl).2.1) fun hA_x => ?_
          refine htsg (o := _) rfl rfl rfl (fun _ => wk [1, 1] [0, 1, 2, 3] rfl rfl) (fun m => y_b2s rfl Tryd.underlying32 Tryd.underlying5 Tryd.underlying9 (m.ord 0 rfl)) <| htyUg (o := _) rfl rfl rfl (y_sne rfl rfl) <| htyU (y_pickF rfl rfl) <| htend <| hsub (ρ' := [(61, _), (7, _), (6, _), (19, _), (14, _), (5, _), (4, _), (3, _), (2, _), (0, _)]) ⟨rfl, rfl, rfl, rfl, rfl, rfl, rfl, rfl, rfl, rfl, trivial⟩ <| hmemQ (X' := [_, _, _]) (S' := [_, _, _, _]) (fun _ m => m) <| hthen <| ?_
          refine hif rfl (fun hq => ?_) (fun hq => ?_)
          · rw [hbad (fun hb => hq (congrArg strOf ((href h83).1 hb).2))]
            refine hseq <| hreg <| hy (fun _ => y_build0 ti27 rfl (by kernel_rfl)) <| ?_
            refine hx0 (xh_stA 2 rfl rfl rfl sz27 (Sup.cs_len Sup.zero_wf) (Sup.cs_one (s := Sup.zero)) rfl ?_)
            refine hy (fun _ => y_assign rfl) <| hend <| hsub (ρ' := [(3, _), (61, _), (7, _), (6, _), (19, _), (14, _), (5, _), (4, _), (2, _), (0, _)]) ⟨rfl, rfl, rfl, rfl, rfl, rfl, rfl, rfl, rfl, rfl, trivial⟩ <| hmemQ (X' := [_, _, _]) (S' := [_, _, _, _]) (fun _ m => m) <| hthen <| hret <| hthen_ret <| ?_
            exact hretN1 trivial rfl rfl rfl ag27 sz27 (Sup.cs_len Sup.zero_wf) (fun m => (m.blk 0 rfl).cells0) [] rfl [] rfl ⟨rfl, rfl, rfl⟩
          · have hq := strOf_inj.1 (Decidable.not_not.1 hq)
            rw [hok ((href h83).2 ⟨hm, hq⟩)]
            refine hcskip <| hthen <| hseq <| hreg <| hy (fun m => yV (y_ldN rfl ag27 sz27 (Sup.cs_len hW) ((m.blk 1 rfl).cells0)) ((rfl : _ = Value.agg (rdBody B).cs.toArray))) <| ?_
            refine hx0 (xh_stA 2 rfl rfl rfl sz27 (Sup.cs_len hW) (Sup.cs_one (s := rdBody B)) rfl ?_)
            refine hy (fun _ => y_assign rfl) <| hend <| hsub (ρ' := [(3, _), (61, _), (7, _), (6, _), (19, _), (14, _), (5, _), (4, _), (2, _), (0, _)]) ⟨rfl, rfl, rfl, rfl, rfl, rfl, rfl, rfl, rfl, rfl, trivial⟩ <| hmemQ (X' := [_, _, _]) (S' := [_, _, _, _]) (fun _ m => m) <| hthen <| hret <| ?_
            exact hretN1 trivial rfl rfl rfl ag27 sz27 (Sup.cs_len hW) (fun m => (m.blk 0 rfl).cells0) [] rfl [] rfl ⟨rfl, rfl, rfl⟩
        · refine htyU (y_move rfl) <| htyU (yT (y_notp rfl) ((decide_eq_true hm))) <| htyU (y_move rfl) <| htskip rfl rfl rfl (by decide) <| htskip rfl rfl rfl (by decide) <| htskip rfl rfl rfl (by decide) <| htskipx rfl rfl rfl (by decide) (fun _ => wk [0, 0] [0, 1, 2, 3] rfl rfl) <| htskipx rfl rfl rfl (by decide) (fun _ => wk [0, 0] [0, 1, 2, 3] rfl rfl) <| htskip rfl rfl rfl (by decide) <| htyU (y_pickT rfl rfl) <| htend <| hsub (ρ' := [(61, _), (7, _), (6, _), (19, _), (14, _), (5, _), (4, _), (3, _), (2, _), (0, _)]) ⟨rfl, rfl, rfl, rfl, rfl, rfl, rfl, rfl, rfl, rfl, trivial⟩ <| hthen <| ?_
          refine hift rfl (rfl) ?_
          rw [hbad (fun hb => hm hb.2.2.2.2)]
          refine hseq <| hreg <| hy (fun _ => y_build0 ti27 rfl (by kernel_rfl)) <| ?_
          refine hx0 (xh_stA 1 rfl rfl rfl sz27 (Sup.cs_len Sup.zero_wf) (Sup.cs_one (s := Sup.zero)) rfl ?_)
          refine hy (fun _ => y_assign rfl) <| hend <| hsub (ρ' := [(3, _), (61, _), (7, _), (6, _), (19, _), (14, _), (5, _), (4, _), (2, _), (0, _)]) ⟨rfl, rfl, rfl, rfl, rfl, rfl, rfl, rfl, rfl, rfl, trivial⟩ <| hmemQ (X' := [_, _]) (S' := [_, _, _, _]) (fun _ m => m) <| hthen <| hret <| hthen_ret <| ?_
          exact hretN1 trivial rfl rfl rfl ag27 sz27 (Sup.cs_len Sup.zero_wf) (fun m => (m.blk 0 rfl).cells0) [] rfl [] rfl ⟨rfl, rfl, rfl⟩
end Go.Proofs.YtfikjheicjamhaaDoor
end
