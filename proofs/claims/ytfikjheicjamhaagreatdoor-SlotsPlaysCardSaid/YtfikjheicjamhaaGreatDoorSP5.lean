/- What the claim leans on, part 5. -/
import Derived.Test.YtfikjheicjamhaaGreatDoorSP4
import Derived.Recover
import Derived.Test.YtfikjheicjamhaaGreatDoorProg
import Derived.Shelf.Sort.Plain
import Derived.Shelf.Lay
import Derived.Sort.OwnSorted
section
/- Contracts: the document's slots: Load, Of, with, file, Image, Active, turn, Back (layer 22). -/
set_option linter.unusedVariables false
set_option linter.unusedSimpArgs false
set_option maxRecDepth 20000
set_option maxHeartbeats 2000000
namespace Go.Proofs.YtfikjheicjamhaaGreatDoor
open Go.Eng Go.Hx
theorem RD.ok.rd_len {d : RD} {k : Nat} (h : d.ok k) (p : List UInt8) : (d.readB p).length ≤ 1048576 := by
  obtain ⟨st, h⟩ := h
  exact h.rd_len p
theorem rloadSC {x : RX} {kk : Nat} (hD : x.d.ok kk) (hkk : kk ≤ 90000) : Con Tryz.prog 13 [.agg x.cs.toArray] [] [RRef x] (fun v_ X_ S_ => v_ = (.tuple #[.agg x.d.loadS.1.cs.toArray, .int .i64 x.d.loadS.2]) ∧ X_ = [] ∧ S_ = []) := by
  have hlen := hD.rd_len nSup
  have okr := hD.rok
  refine henter (N := 20) Tryz.func13 rfl rfl (by simp) fun b => ?_
  refine hseq <| hreg <| ?_
  refine hx (xh_box rfl (fun g1 => ?_))
  refine hmemL (fun w m => m.eqX 0 rfl (show _ = RBlk g1 46 x.cs from congrArg (RBlk _ _) (cells_agg _))) ?_
  refine hx (xh_alloc ti51 (fun g2 => ?_))
  refine hy (fun _ => y_assign rfl) <| hend <| hmemQ (X' := [_, _]) (S' := [_]) (fun _ m => m) <| hthen <| hseq <| hreg <| hy (fun m => yV (y_ldN rfl ag46 sz46 rfl ((m.blk 1 rfl).cells0)) ((rfl : _ = Value.agg x.cs.toArray))) <| ?_
  refine hx (xh_call rfl Tryz.call64 (rreadX okr (by omega) (p := nSup)) [] rfl [0] rfl ?_)
  rintro _ _ _ ⟨rfl, rfl, rfl⟩
  refine hy (fun _ => y_move rfl) <| hy (fun _ => y_extract rfl rfl) <| hy (fun _ => y_extract rfl rfl) <| hy (fun _ => y_assign rfl) <| hy (fun _ => y_assign rfl) <| hend <| hsub (ρ' := [(5, _), (4, _), (3, _), (2, _), (1, _), (0, _)]) ⟨rfl, rfl, rfl, rfl, rfl, rfl, trivial⟩ <| hmemQ (X' := [_, _]) (S' := [_]) (fun _ m => m) <| hthen <| hseq <| hseq <| hreg <| hy (fun _ => y_move rfl) <| hy (fun _ => y_neq rfl rfl) <| hend <| hsub (ρ' := [(12, _), (5, _), (4, _), (3, _), (2, _), (1, _), (0, _)]) ⟨rfl, rfl, rfl, rfl, rfl, rfl, rfl, trivial⟩ <| hthen <| ?_
  refine hif rfl (fun h1 => ?_) (fun h1 => ?_)
  · rw [show x.d.loadS = (Sup.zero, x.d.readE nSup) by rw [RD.loadS, if_pos h1]]
    refine hseq <| hreg <| hy (fun _ => y_build0 ti51 rfl (by kernel_rfl)) <| hy (fun _ => y_move rfl) <| ?_
    refine hx0 (xh_stA 0 rfl rfl rfl sz51 (Sup.cs_len Sup.zero_wf) (Sup.cs_one (s := Sup.zero)) rfl ?_)
    refine hy (fun _ => y_assign rfl) <| hend <| hsub (ρ' := [(3, _), (12, _), (5, _), (4, _), (2, _), (1, _), (0, _)]) ⟨rfl, rfl, rfl, rfl, rfl, rfl, rfl, trivial⟩ <| hmemQ (X' := [_, _]) (S' := [_]) (fun _ m => m) <| hthen <| hret <| hthen_ret <| ?_
    exact hretN1 trivial rfl rfl rfl ag51 sz51 (Sup.cs_len Sup.zero_wf) (fun m => (m.blk 0 rfl).cells0) [] rfl [] rfl ⟨rfl, rfl, rfl⟩
  · rw [show x.d.loadS = rdSup (x.d.readB nSup) by rw [RD.loadS, if_neg h1]]
    have hw := rdSup_wf (x.d.readB nSup)
    refine hcskip <| hthen <| hseq <| hreg <| hy (fun _ => y_move rfl) <| ?_
    refine hx (xh_s2b rfl Tryz.underlying9 Tryz.underlying27 Tryz.underlying5 (by rw [bytesOf_strOf]; unfold maxLen; omega) (fun v16 => ?_))
    refine hfactL (fun m => (m.own 0 rfl).slice) ?_
    rintro ⟨A_b16, c_b16, rfl, hc_b16⟩
    refine hfactL (fun m => (m.ord 0 rfl).2.1) fun hA_b16 => ?_
    rw [bytesOf_strOf] at hc_b16 hA_b16 ⊢
    refine hmemL (fun w m => m.eqX 0 rfl (show _ = ROwn 5 1 (.slice A_b16 (x.d.readB nSup).length c_b16) (x.d.readB nSup).length (b8s (x.d.readB nSup)) from rfl)) ?_
    refine hx (xh_calll rfl Tryz.call66 (rreadSC (by omega) (by omega)) [] rfl (.x 0 rfl .own .nil) ?_)
    rintro _ _ _ ⟨rfl, rfl, rfl⟩
    refine ⟨rfl, ?_⟩
    refine hy (fun _ => y_extract rfl rfl) <| hy (fun _ => y_extract rfl rfl) <| ?_
    refine hx0 (xh_stA 1 rfl rfl rfl sz51 (Sup.cs_len hw) Sup.cs_one rfl ?_)
    refine hy (fun _ => y_assign rfl) <| hend <| hsub (ρ' := [(3, _), (12, _), (5, _), (4, _), (2, _), (1, _), (0, _)]) ⟨rfl, rfl, rfl, rfl, rfl, rfl, rfl, trivial⟩ <| hmemQ (X' := [_, _, _]) (S' := [_]) (fun _ m => m) <| hthen <| hret <| ?_
    exact hretN1 trivial rfl rfl rfl ag51 sz51 (Sup.cs_len hw) (fun m => (m.blk 0 rfl).cells0) [] rfl [] rfl ⟨rfl, rfl, rfl⟩
theorem rofSC {s : Sup} {i : Nat} (h : s.wf) (hi : i < 2) : Con Tryz.prog 126 [.agg s.cs.toArray, .int .i64 (i : Nat)] [] [] (fun v_ X_ S_ => v_ = (.agg (s.at i).cs.toArray) ∧ X_ = [] ∧ S_ = []) := by
  refine henter (N := 11) Tryz.func126 rfl rfl (by simp) fun b => ?_
  refine hseq <| hreg <| ?_
  refine hx (xh_box rfl (fun g2 => ?_))
  refine hmemL (fun w m => m.eqX 0 rfl (show _ = RBlk g2 51 s.cs from congrArg (RBlk _ _) (cells_agg _))) ?_
  refine hx (xh_alloc ti49 (fun g4 => ?_))
  refine hend <| hmemQ (X' := [_, _]) (S' := []) (fun _ m => m) <| hthen <| hseq <| hseq <| hreg <| hy (fun _ => y_move rfl) <| hy (fun _ => y_eql rfl rfl) <| hend <| hsub (ρ' := [(6, _), (4, _), (2, _), (0, _), (1, _)]) ⟨rfl, rfl, rfl, rfl, rfl, trivial⟩ <| hthen <| ?_
  refine hif rfl (fun h0 => ?_) (fun h0 => ?_)
  · obtain rfl : i = 0 := by omega
    rw [show s.at 0 = s.s0 from rfl]
    refine hseq <| hreg <| hy (fun _ => y_fld rfl fa51_2 (by decide)) <| hy (fun m => yV (y_ldN rfl ag49 sz49 (Sl.cs_len h.w0) (fun j u hu => by rw [add_add]; exact (m.blk 1 rfl).cells0 (2 + j) u (sup_s0 hu))) ((rfl : _ = Value.agg s.s0.cs.toArray))) <| ?_
    refine hx0 (xh_stA 0 rfl rfl rfl sz49 (Sl.cs_len h.w0) Sl.cs_one rfl ?_)
    refine hend <| hsub (ρ' := [(6, _), (4, _), (2, _), (0, _), (1, _)]) ⟨rfl, rfl, rfl, rfl, rfl, trivial⟩ <| hmemQ (X' := [_, _]) (S' := []) (fun _ m => m) <| hthen <| hret <| hthen_ret <| ?_
    exact hretN trivial rfl rfl ag49 sz49 (Sl.cs_len h.w0) (fun m => (m.blk 0 rfl).cells0) [] rfl [] rfl ⟨rfl, rfl, rfl⟩
  · obtain rfl : i = 1 := by omega
    rw [show s.at 1 = s.s1 from rfl]
    refine hcskip <| hthen <| hseq <| hreg <| hy (fun _ => y_fld rfl fa51_3 (by decide)) <| hy (fun m => yV (y_ldN rfl ag49 sz49 (Sl.cs_len h.w1) (fun j u hu => by rw [add_add]; exact (m.blk 1 rfl).cells0 (36 + j) u (sup_s1 h hu))) ((rfl : _ = Value.agg s.s1.cs.toArray))) <| ?_
    refine hx0 (xh_stA 0 rfl rfl rfl sz49 (Sl.cs_len h.w1) Sl.cs_one rfl ?_)
    refine hend <| hsub (ρ' := [(6, _), (4, _), (2, _), (0, _), (1, _)]) ⟨rfl, rfl, rfl, rfl, rfl, trivial⟩ <| hmemQ (X' := [_, _]) (S' := []) (fun _ m => m) <| hthen <| hret <| ?_
    exact hretN trivial rfl rfl ag49 sz49 (Sl.cs_len h.w1) (fun m => (m.blk 0 rfl).cells0) [] rfl [] rfl ⟨rfl, rfl, rfl⟩
theorem rwithSC {s : Sup} {i : Nat} {x : Sl} (h : s.wf) (hi : i < 2) (hxx : x.wf) : Con Tryz.prog 123 [.agg s.cs.toArray, .int .i64 (i : Nat), .agg x.cs.toArray] [] [] (fun v_ X_ S_ => v_ = (.agg (s.put i x).cs.toArray) ∧ X_ = [] ∧ S_ = []) := by
  have hp := Sup.put_wf h (i := i) hxx
  have hput := sup_put h hi hxx
  refine henter (N := 14) Tryz.func123 rfl rfl (by simp) fun b => ?_
  refine hseq <| hreg <| ?_
  refine hx (xh_box rfl (fun g3 => ?_))
  refine hmemL (fun w m => m.eqX 0 rfl (show _ = RBlk g3 51 s.cs from congrArg (RBlk _ _) (cells_agg _))) ?_
  refine hx (xh_box rfl (fun g5 => ?_))
  refine hmemL (fun w m => m.eqX 0 rfl (show _ = RBlk g5 49 x.cs from congrArg (RBlk _ _) (cells_agg _))) ?_
  refine hx (xh_alloc ti51 (fun g6 => ?_))
  refine hend <| hmemQ (X' := [_, _, _]) (S' := []) (fun _ m => m) <| hthen <| hseq <| hseq <| hreg <| hy (fun _ => y_move rfl) <| hy (fun _ => y_eql rfl rfl) <| hend <| hsub (ρ' := [(8, _), (6, _), (5, _), (3, _), (0, _), (1, _), (2, _)]) ⟨rfl, rfl, rfl, rfl, rfl, rfl, rfl, trivial⟩ <| hthen <| ?_
  refine hif rfl (fun h0 => ?_) (fun h0 => ?_)
  · obtain rfl : i = 0 := by omega
    refine hreg <| hy (fun m => yV (y_ldN rfl ag49 sz49 (Sl.cs_len hxx) ((m.blk 1 rfl).cells0)) ((rfl : _ = Value.agg x.cs.toArray))) <| hy (fun _ => y_fld rfl fa51_2 (by decide)) <| ?_
    refine hx0 (xh_stNa 2 rfl rfl rfl sz49 (Sl.cs_len hxx) Sl.cs_one (by rw [Sup.cs_len h]; decide) ?_)
    refine hmemL (fun w m => m.eqX 0 rfl (show _ = RBlk g3 51 (s.put 0 x).cs from congrArg (RBlk _ _) hput)) ?_
    refine hend <| hsub (ρ' := [(8, _), (6, _), (5, _), (3, _), (0, _), (1, _), (2, _)]) ⟨rfl, rfl, rfl, rfl, rfl, rfl, rfl, trivial⟩ <| hmemQ (X' := [_, _, _]) (S' := []) (fun _ m => m) <| hthen <| hseq <| hreg <| hy (fun m => yV (y_ldN rfl ag51 sz51 (Sup.cs_len hp) ((m.blk 0 rfl).cells0)) ((rfl : _ = Value.agg (s.put 0 x).cs.toArray))) <| ?_
    refine hx0 (xh_stA 1 rfl rfl rfl sz51 (Sup.cs_len hp) Sup.cs_one rfl ?_)
    refine hend <| hsub (ρ' := [(8, _), (6, _), (5, _), (3, _), (0, _), (1, _), (2, _)]) ⟨rfl, rfl, rfl, rfl, rfl, rfl, rfl, trivial⟩ <| hmemQ (X' := [_, _, _]) (S' := []) (fun _ m => m) <| hthen <| hret <| ?_
    exact hretN trivial rfl rfl ag51 sz51 (Sup.cs_len hp) (fun m => (m.blk 0 rfl).cells0) [] rfl [] rfl ⟨rfl, rfl, rfl⟩
  · obtain rfl : i = 1 := by omega
    refine hreg <| hy (fun m => yV (y_ldN rfl ag49 sz49 (Sl.cs_len hxx) ((m.blk 1 rfl).cells0)) ((rfl : _ = Value.agg x.cs.toArray))) <| hy (fun _ => y_fld rfl fa51_3 (by decide)) <| ?_
    refine hx0 (xh_stNa 2 rfl rfl rfl sz49 (Sl.cs_len hxx) Sl.cs_one (by rw [Sup.cs_len h]; decide) ?_)
    refine hmemL (fun w m => m.eqX 0 rfl (show _ = RBlk g3 51 (s.put 1 x).cs from congrArg (RBlk _ _) hput)) ?_
    refine hend <| hsub (ρ' := [(8, _), (6, _), (5, _), (3, _), (0, _), (1, _), (2, _)]) ⟨rfl, rfl, rfl, rfl, rfl, rfl, rfl, trivial⟩ <| hmemQ (X' := [_, _, _]) (S' := []) (fun _ m => m) <| hthen <| hseq <| hreg <| hy (fun m => yV (y_ldN rfl ag51 sz51 (Sup.cs_len hp) ((m.blk 0 rfl).cells0)) ((rfl : _ = Value.agg (s.put 1 x).cs.toArray))) <| ?_
    refine hx0 (xh_stA 1 rfl rfl rfl sz51 (Sup.cs_len hp) Sup.cs_one rfl ?_)
    refine hend <| hsub (ρ' := [(8, _), (6, _), (5, _), (3, _), (0, _), (1, _), (2, _)]) ⟨rfl, rfl, rfl, rfl, rfl, rfl, rfl, trivial⟩ <| hmemQ (X' := [_, _, _]) (S' := []) (fun _ m => m) <| hthen <| hret <| ?_
    exact hretN trivial rfl rfl ag51 sz51 (Sup.cs_len hp) (fun m => (m.blk 0 rfl).cells0) [] rfl [] rfl ⟨rfl, rfl, rfl⟩
theorem rfileSC {i : Nat} (hi : i < 2) : Con Tryz.prog 121 [.int .i64 (i : Nat)] [] [] (fun v_ X_ S_ => v_ = (.string (strOf (nSlot i))) ∧ X_ = [] ∧ S_ = []) := by
  refine henter (N := 5) Tryz.func121 rfl rfl (by simp) fun b => ?_
  refine hseq <| hreg <| hy (fun _ => y_assign rfl) <| hend <| hthen <| hseq <| hseq <| hreg <| hy (fun _ => y_move rfl) <| hy (fun _ => y_eql rfl rfl) <| hend <| hsub (ρ' := [(4, _), (2, _), (0, _)]) ⟨rfl, rfl, rfl, trivial⟩ <| hthen <| ?_
  refine hif rfl (fun h0 => ?_) (fun h0 => ?_)
  · obtain rfl : i = 0 := by omega
    refine hseq <| hreg <| hy (fun _ => y_assign rfl) <| hend <| hthen <| hret <| hthen_ret <| ?_
    exact hret1 trivial rfl rfl [] rfl [] rfl ⟨rfl, rfl, rfl⟩
  · obtain rfl : i = 1 := by omega
    refine hcskip <| hthen <| hseq <| hreg <| hy (fun _ => y_assign rfl) <| hend <| hthen <| hret <| ?_
    exact hret1 trivial rfl rfl [] rfl [] rfl ⟨rfl, rfl, rfl⟩
def RD.imageI (d : RD) (i : Int) : List UInt8 × Int := if d.loadS.2 ≠ 0 then ([], d.loadS.2) else if i < 0 ∨ 1 < i then ([], 1) else d.imageS d.loadS.1 i.toNat
theorem rimageSC {x : RX} {kk : Nat} {z : Int} (hD : x.d.ok kk) (hkk : kk ≤ 90000) : Con Tryz.prog 56 [.agg x.cs.toArray, .int .i64 z] [] [RRef x, RRoots] (fun v_ X_ S_ => v_ = (.tuple #[.string (strOf (x.d.imageI z).1), .int .i64 (x.d.imageI z).2]) ∧ X_ = [] ∧ S_ = []) := by
  have okr := hD.rok
  have hw := x.d.loadS_wf
  refine henter (N := 55) Tryz.func56 rfl rfl (by simp) fun b => ?_
  refine hseq <| hreg <| ?_
  refine hx (xh_box rfl (fun g2 => ?_))
  refine hmemL (fun w m => m.eqX 0 rfl (show _ = RBlk g2 46 x.cs from congrArg (RBlk _ _) (cells_agg _))) ?_
  refine hy (fun _ => y_assign rfl) <| hy (fun _ => y_assign rfl) <| hend <| hmemQ (X' := [_]) (S' := [_, _]) (fun _ m => m) <| hthen <| hseq <| hreg <| hy (fun m => yV (y_ldN rfl ag46 sz46 rfl ((m.blk 0 rfl).cells0)) ((rfl : _ = Value.agg x.cs.toArray))) <| ?_
  refine hx (xh_call rfl Tryz.call13 (rloadSC hD hkk) [] rfl [0] rfl ?_)
  rintro _ _ _ ⟨rfl, rfl, rfl⟩
  refine hy (fun _ => y_move rfl) <| hy (fun _ => y_extract rfl rfl) <| hy (fun _ => y_extract rfl rfl) <| ?_
  refine hx (xh_alloc ti51 (fun g6 => ?_))
  refine hx0 (xh_stA 0 rfl rfl rfl sz51 (Sup.cs_len hw) Sup.cs_one rfl ?_)
  refine hy (fun _ => y_assign rfl) <| hend <| hsub (ρ' := [(7, _), (6, _), (5, _), (4, _), (2, _), (0, _), (1, _)]) ⟨rfl, rfl, rfl, rfl, rfl, rfl, rfl, trivial⟩ <| hmemQ (X' := [_, _]) (S' := [_, _]) (fun _ m => m) <| hthen <| hseq <| hseq <| hreg <| hy (fun _ => y_move rfl) <| hy (fun _ => y_neq rfl rfl) <| hend <| hsub (ρ' := [(17, _), (7, _), (6, _), (5, _), (4, _), (2, _), (0, _), (1, _)]) ⟨rfl, rfl, rfl, rfl, rfl, rfl, rfl, rfl, trivial⟩ <| hthen <| ?_
  refine hif rfl (fun h1 => ?_) (fun h1 => ?_)
  · rw [show x.d.imageI z = ([], x.d.loadS.2) by rw [RD.imageI, if_pos h1]]
    refine hseq <| hreg <| hy (fun _ => y_move rfl) <| hy (fun _ => y_assign rfl) <| hy (fun _ => y_assign rfl) <| hend <| hsub (ρ' := [(5, _), (4, _), (17, _), (7, _), (6, _), (2, _), (0, _), (1, _)]) ⟨rfl, rfl, rfl, rfl, rfl, rfl, rfl, rfl, trivial⟩ <| hthen <| hret <| hthen_ret <| ?_
    exact hret2 trivial rfl rfl rfl [] rfl [] rfl ⟨rfl, rfl, rfl⟩
  · refine hcskip <| hthen <| hseq <| hseq <| hreg <| hy (fun _ => y_move rfl) <| hy (fun _ => y_lss rfl rfl) <| hy (fun _ => y_move rfl) <| ?_
    refine hsplit 21 rfl (fun hneg => ?_) (fun hneg => ?_)
    · rw [show x.d.imageI z = ([], 1) by rw [RD.imageI, if_neg h1, if_pos (.inl hneg)]]
      refine hskip rfl rfl rfl (by decide) <| hskip rfl rfl rfl (by decide) <| hy (fun _ => y_pickT rfl rfl) <| hend <| hsub (ρ' := [(24, _), (17, _), (7, _), (6, _), (5, _), (4, _), (2, _), (0, _), (1, _)]) ⟨rfl, rfl, rfl, rfl, rfl, rfl, rfl, rfl, rfl, trivial⟩ <| hthen <| ?_
      refine hift rfl (rfl) ?_
      refine hseq <| hreg <| hy (fun _ => y_assign rfl) <| hy (fun _ => y_assign rfl) <| hend <| hthen <| hret <| hthen_ret <| ?_
      exact hret2 trivial rfl rfl rfl [] rfl [] rfl ⟨rfl, rfl, rfl⟩
    · refine hyg (o := _) rfl rfl rfl (fun _ => y_move rfl) <| hyg (o := _) rfl rfl rfl (fun _ => y_gtr rfl rfl) <| hy (fun _ => y_pickF rfl rfl) <| hend <| hsub (ρ' := [(24, _), (17, _), (7, _), (6, _), (5, _), (4, _), (2, _), (0, _), (1, _)]) ⟨rfl, rfl, rfl, rfl, rfl, rfl, rfl, rfl, rfl, trivial⟩ <| hthen <| ?_
      refine hif rfl (fun hbig => ?_) (fun hbig => ?_)
      · rw [show x.d.imageI z = ([], 1) by rw [RD.imageI, if_neg h1, if_pos (.inr (by omega))]]
        refine hseq <| hreg <| hy (fun _ => y_assign rfl) <| hy (fun _ => y_assign rfl) <| hend <| hthen <| hret <| hthen_ret <| ?_
        exact hret2 trivial rfl rfl rfl [] rfl [] rfl ⟨rfl, rfl, rfl⟩
      · rw [show x.d.imageI z = x.d.imageS x.d.loadS.1 z.toNat by rw [RD.imageI, if_neg h1, if_neg (by omega)]]
        obtain ⟨i, hzi, hi⟩ : ∃ i : Nat, z = (i : Int) ∧ i < 2 := ⟨z.toNat, by omega, by omega⟩
        subst hzi
        rw [show ((i : Int)).toNat = i from Int.toNat_natCast i]
        generalize x.d.loadS.1 = s at hw ⊢
        have hs := Sup.at_wf hw i
        have hxl := hs.lo
        have hxh := hs.hi
        have hlen := hD.rd_len (nSlot i)
        refine hcskip <| hthen <| hseq <| hreg <| hy (fun m => yV (y_ldN rfl ag51 sz51 (Sup.cs_len hw) ((m.blk 0 rfl).cells0)) ((rfl : _ = Value.agg s.cs.toArray))) <| hy (fun _ => y_move rfl) <| ?_
        refine hx (xh_call rfl Tryz.call126 (rofSC hw hi) [] rfl [] rfl ?_)
        rintro _ _ _ ⟨rfl, rfl, rfl⟩
        refine hx (xh_alloc ti49 (fun g8 => ?_))
        refine hx0 (xh_stA 0 rfl rfl rfl sz49 (Sl.cs_len hs) Sl.cs_one rfl ?_)
        refine hend <| hsub (ρ' := [(8, _), (24, _), (17, _), (7, _), (6, _), (5, _), (4, _), (2, _), (0, _), (1, _)]) ⟨rfl, rfl, rfl, rfl, rfl, rfl, rfl, rfl, rfl, rfl, trivial⟩ <| hmemQ (X' := [_, _, _]) (S' := [_, _]) (fun _ m => m) <| hthen <| hseq <| hseq <| hreg <| hy (fun _ => y_fld rfl fa49_0 (by decide)) <| hy (fun m => y_ld1 rfl ag4 ((m.blk 0 rfl).cells0 0 _ sl0)) <| hy (fun _ => (y_not rfl)) <| hend <| hsub (ρ' := [(30, _), (8, _), (24, _), (17, _), (7, _), (6, _), (5, _), (4, _), (2, _), (0, _), (1, _)]) ⟨rfl, rfl, rfl, rfl, rfl, rfl, rfl, rfl, rfl, rfl, rfl, trivial⟩ <| hthen <| ?_
        refine hifb rfl (fun hf => ?_) (fun hf => ?_)
        · have hf' : (s.at i).full = false := by simpa using hf
          rw [show x.d.imageS s i = ([], 4) by rw [RD.imageS, if_pos hf']]
          refine hseq <| hreg <| hy (fun _ => y_assign rfl) <| hy (fun _ => y_assign rfl) <| hend <| hthen <| hret <| hthen_ret <| ?_
          exact hret2 trivial rfl rfl rfl [] rfl [] rfl ⟨rfl, rfl, rfl⟩
        · have hf' : (s.at i).full ≠ false := by simpa using hf
          refine hcskip <| hthen <| hseq <| hdrw [2, 3] [(0, some 1), (1, some 0), (2, none), (3, none), (4, some 2), (5, some 2), (6, some 2), (7, some 2), (8, some 2)] (by kernel_rfl) (by kernel_rfl) rfl 99 <| hty (fun m => yV (y_ldN rfl ag46 sz46 rfl ((m.blk 2 rfl).cells0)) ((rfl : _ = Value.agg x.cs.toArray))) <| htyU (y_move rfl) <| ?_
          refine htx (xh_call rfl Tryz.call121 (rfileSC hi) [] rfl [] rfl ?_)
          rintro _ _ _ ⟨rfl, rfl, rfl⟩
          refine ⟨(fun _ => wk [0, 0, 0] [0, 1] rfl rfl), ?_⟩
          refine htx (xh_call rfl Tryz.call64 (rreadX okr (by omega) (p := (nSlot i))) [] rfl [0] rfl ?_)
          rintro _ _ _ ⟨rfl, rfl, rfl⟩
          refine ⟨(fun _ => wk [0, 0, 0] [0, 1] rfl rfl), ?_⟩
          refine htyU (y_move rfl) <| htyU (y_extract rfl rfl) <| htyU (y_extract rfl rfl) <| htyU (y_assign rfl) <| htyU (y_assign rfl) <| htend <| hsub (ρ' := [(10, _), (9, _), (30, _), (8, _), (24, _), (17, _), (7, _), (6, _), (5, _), (4, _), (2, _), (0, _), (1, _)]) ⟨rfl, rfl, rfl, rfl, rfl, rfl, rfl, rfl, rfl, rfl, rfl, rfl, rfl, trivial⟩ <| hmemQ (X' := [_, _, _]) (S' := [_, _]) (fun _ m => m) <| hthen <| hseq <| hseq <| hreg <| hy (fun _ => y_move rfl) <| hy (fun _ => y_neq rfl rfl) <| hend <| hsub (ρ' := [(39, _), (10, _), (9, _), (30, _), (8, _), (24, _), (17, _), (7, _), (6, _), (5, _), (4, _), (2, _), (0, _), (1, _)]) ⟨rfl, rfl, rfl, rfl, rfl, rfl, rfl, rfl, rfl, rfl, rfl, rfl, rfl, rfl, trivial⟩ <| hthen <| ?_
          refine hif rfl (fun h2 => ?_) (fun h2 => ?_)
          · rw [show x.d.imageS s i = ([], x.d.readE (nSlot i)) by rw [RD.imageS, if_neg hf', if_pos h2]]
            refine hseq <| hreg <| hy (fun _ => y_move rfl) <| hy (fun _ => y_assign rfl) <| hy (fun _ => y_assign rfl) <| hend <| hsub (ρ' := [(5, _), (4, _), (39, _), (10, _), (9, _), (30, _), (8, _), (24, _), (17, _), (7, _), (6, _), (2, _), (0, _), (1, _)]) ⟨rfl, rfl, rfl, rfl, rfl, rfl, rfl, rfl, rfl, rfl, rfl, rfl, rfl, rfl, trivial⟩ <| hthen <| hret <| hthen_ret <| ?_
            exact hret2 trivial rfl rfl rfl [] rfl [] rfl ⟨rfl, rfl, rfl⟩
          · have hln := strOf_size (x.d.readB (nSlot i))
            refine hcskip <| hthen <| hseq <| hseq <| hdrw [7, 8] [(0, some 0), (1, some 0), (2, some 0), (3, some 0), (4, some 0), (5, some 0), (6, some 0), (9, some 2), (10, some 2), (7, none), (8, none), (11, some 2), (12, some 2)] (by kernel_rfl) (by kernel_rfl) rfl 99 <| htyU (y_move rfl) <| htyU (yV (y_lenStr rfl Tryz.underlying9) ((show Value.int .i64 ((strOf (x.d.readB (nSlot i))).size : Nat) = .int .i64 ((x.d.readB (nSlot i)).length : Nat) by rw [hln]))) <| htyU (y_fld rfl fa49_2 (by decide)) <| hty (fun m => y_ld1 rfl ag3 ((m.blk 0 rfl).cells0 33 _ (sl33 hs))) <| htyU (y_neq rfl rfl) <| htyU (y_move rfl) <| ?_
            refine htsplit 46 rfl (fun hz => ?_) (fun hz => ?_)
            · rw [show x.d.imageS s i = ([], 7) by rw [RD.imageS, if_neg hf', if_neg h2, if_pos (.inl hz)]]
              refine htskip rfl rfl rfl (by decide) <| htskip rfl rfl rfl (by decide) <| htskip rfl rfl rfl (by decide) <| htskipx rfl rfl rfl (by decide) (fun _ => wk [0, 0, 0] [0, 1] rfl rfl) <| htskipx rfl rfl rfl (by decide) (fun _ => wk [0, 0, 0] [0, 1] rfl rfl) <| htskip rfl rfl rfl (by decide) <| htyU (y_pickT rfl rfl) <| htend <| hsub (ρ' := [(53, _), (39, _), (10, _), (9, _), (30, _), (8, _), (24, _), (17, _), (7, _), (6, _), (5, _), (4, _), (2, _), (0, _), (1, _)]) ⟨rfl, rfl, rfl, rfl, rfl, rfl, rfl, rfl, rfl, rfl, rfl, rfl, rfl, rfl, rfl, trivial⟩ <| hthen <| ?_
              refine hift rfl (rfl) ?_
              refine hseq <| hreg <| hy (fun _ => y_assign rfl) <| hy (fun _ => y_assign rfl) <| hend <| hthen <| hret <| hthen_ret <| ?_
              exact hret2 trivial rfl rfl rfl [] rfl [] rfl ⟨rfl, rfl, rfl⟩
            · refine htyUg (o := _) rfl rfl rfl (y_move rfl) <| htyUg (o := _) rfl rfl rfl (y_fld rfl fa49_1 (by decide)) <| htyg (o := _) rfl rfl rfl (fun m => yV (y_ldN rfl ag33 sz33 (by rw [b8s_length, hs.len]) (fun j u hu => by rw [add_add]; exact (m.blk 0 rfl).cells0 (1 + j) u (sl_im hu))) ((rfl : _ = Value.agg (b8s (s.at i).image).toArray))) <| ?_
              refine htxg (o := _) rfl rfl rfl (xh_s2b rfl Tryz.underlying9 Tryz.underlying27 Tryz.underlying5 (by rw [bytesOf_strOf]; unfold maxLen; omega) (fun v48 => ⟨(fun _ => wk [1, 1, 1] [0, 1] rfl rfl), ?_⟩))
              refine htfact (fun m => (m.own 0 rfl).slice) ?_
              rintro ⟨A_b48, c_b48, rfl, hc_b48⟩
              refine htfact (fun m => (m.ord 0 rfl).2.1) fun hA_b48 => ?_
              rw [bytesOf_strOf] at hc_b48 hA_b48 ⊢
              refine htmem (fun w m => m.eqX 0 rfl (show _ = ROwn 5 1 (.slice A_b48 (x.d.readB (nSlot i)).length c_b48) (x.d.readB (nSlot i)).length (b8s (x.d.readB (nSlot i))) from rfl)) ?_
              refine htxg (o := _) rfl rfl rfl (xh_calll rfl Tryz.call23 (rshaSumC (by omega)) [] rfl (.x 0 rfl .own .nil) ?_)
              rintro _ _ _ ⟨rfl, rfl, rfl⟩
              refine ⟨rfl, ?_⟩
              refine ⟨(fun _ => wk [1, 1, 1] [0, 1] rfl rfl), ?_⟩
              refine htyUg (o := _) rfl rfl rfl (y_neD33 rfl rfl (shaL_length _) hs.len) <| htyU (y_pickF rfl rfl) <| htend <| hsub (ρ' := [(53, _), (39, _), (10, _), (9, _), (30, _), (8, _), (24, _), (17, _), (7, _), (6, _), (5, _), (4, _), (2, _), (0, _), (1, _)]) ⟨rfl, rfl, rfl, rfl, rfl, rfl, rfl, rfl, rfl, rfl, rfl, rfl, rfl, rfl, rfl, trivial⟩ <| hmemQ (X' := [_, _, _, _]) (S' := [_, _]) (fun _ m => m) <| hthen <| ?_
              refine hif rfl (fun hy2 => ?_) (fun hy2 => ?_)
              · rw [show x.d.imageS s i = ([], 7) by rw [RD.imageS, if_neg hf', if_neg h2, if_pos (.inr hy2)]]
                refine hseq <| hreg <| hy (fun _ => y_assign rfl) <| hy (fun _ => y_assign rfl) <| hend <| hthen <| hret <| hthen_ret <| ?_
                exact hret2 trivial rfl rfl rfl [] rfl [] rfl ⟨rfl, rfl, rfl⟩
              · rw [show x.d.imageS s i = (x.d.readB (nSlot i), 0) by rw [RD.imageS, if_neg hf', if_neg h2, if_neg (fun h => h.elim hz hy2)]]
                refine hcskip <| hthen <| hseq <| hreg <| hy (fun _ => y_move rfl) <| hy (fun _ => y_assign rfl) <| hy (fun _ => y_assign rfl) <| hend <| hsub (ρ' := [(5, _), (4, _), (53, _), (39, _), (10, _), (9, _), (30, _), (8, _), (24, _), (17, _), (7, _), (6, _), (2, _), (0, _), (1, _)]) ⟨rfl, rfl, rfl, rfl, rfl, rfl, rfl, rfl, rfl, rfl, rfl, rfl, rfl, rfl, rfl, trivial⟩ <| hthen <| hret <| ?_
                exact hret2 trivial rfl rfl rfl [] rfl [] rfl ⟨rfl, rfl, rfl⟩
theorem ractiveSC {x : RX} {kk : Nat} (hD : x.d.ok kk) (hkk : kk ≤ 90000) : Con Tryz.prog 15 [.agg x.cs.toArray] [] [RRef x, RRoots] (fun v_ X_ S_ => v_ = (.tuple #[.string (strOf x.d.activeS.1), .int .i64 x.d.activeS.2]) ∧ X_ = [] ∧ S_ = []) := by
  have hw := x.d.loadS_wf
  refine henter (N := 20) Tryz.func15 rfl rfl (by simp) fun b => ?_
  refine hseq <| hreg <| ?_
  refine hx (xh_box rfl (fun g1 => ?_))
  refine hmemL (fun w m => m.eqX 0 rfl (show _ = RBlk g1 46 x.cs from congrArg (RBlk _ _) (cells_agg _))) ?_
  refine hy (fun _ => y_assign rfl) <| hy (fun _ => y_assign rfl) <| hend <| hmemQ (X' := [_]) (S' := [_, _]) (fun _ m => m) <| hthen <| hseq <| hreg <| hy (fun m => yV (y_ldN rfl ag46 sz46 rfl ((m.blk 0 rfl).cells0)) ((rfl : _ = Value.agg x.cs.toArray))) <| ?_
  refine hx (xh_call rfl Tryz.call13 (rloadSC hD hkk) [] rfl [0] rfl ?_)
  rintro _ _ _ ⟨rfl, rfl, rfl⟩
  refine hy (fun _ => y_move rfl) <| hy (fun _ => y_extract rfl rfl) <| hy (fun _ => y_extract rfl rfl) <| ?_
  refine hx (xh_alloc ti51 (fun g4 => ?_))
  refine hx0 (xh_stA 0 rfl rfl rfl sz51 (Sup.cs_len hw) Sup.cs_one rfl ?_)
  refine hy (fun _ => y_assign rfl) <| hend <| hsub (ρ' := [(5, _), (4, _), (3, _), (2, _), (1, _), (0, _)]) ⟨rfl, rfl, rfl, rfl, rfl, rfl, trivial⟩ <| hmemQ (X' := [_, _]) (S' := [_, _]) (fun _ m => m) <| hthen <| hseq <| hseq <| hreg <| hy (fun _ => y_move rfl) <| hy (fun _ => y_neq rfl rfl) <| hend <| hsub (ρ' := [(12, _), (5, _), (4, _), (3, _), (2, _), (1, _), (0, _)]) ⟨rfl, rfl, rfl, rfl, rfl, rfl, rfl, trivial⟩ <| hthen <| ?_
  refine hif rfl (fun h1 => ?_) (fun h1 => ?_)
  · rw [show x.d.activeS = ([], x.d.loadS.2) by rw [RD.activeS, if_pos h1]]
    refine hseq <| hreg <| hy (fun _ => y_move rfl) <| hy (fun _ => y_assign rfl) <| hy (fun _ => y_assign rfl) <| hend <| hsub (ρ' := [(3, _), (2, _), (12, _), (5, _), (4, _), (1, _), (0, _)]) ⟨rfl, rfl, rfl, rfl, rfl, rfl, rfl, trivial⟩ <| hthen <| hret <| hthen_ret <| ?_
    exact hret2 trivial rfl rfl rfl [] rfl [] rfl ⟨rfl, rfl, rfl⟩
  · obtain ⟨_, _, ha, ha2⟩ := Sup.may_other (RD.loadS_may (Decidable.not_not.1 h1))
    rw [show x.d.activeS = x.d.imageI x.d.loadS.1.active by rw [RD.activeS, if_neg h1, RD.imageI, if_neg h1, if_neg (by omega)]]
    refine hcskip <| hthen <| hseq <| hreg <| hy (fun m => yV (y_ldN rfl ag46 sz46 rfl ((m.blk 1 rfl).cells0)) ((rfl : _ = Value.agg x.cs.toArray))) <| hy (fun _ => y_fld rfl fa51_0 (by decide)) <| hy (fun m => y_ld1 rfl ag3 ((m.blk 0 rfl).cells0 0 _ sup0)) <| ?_
    refine hx (xh_call rfl Tryz.call56 (rimageSC hD hkk) [] rfl [0, 1] rfl ?_)
    rintro _ _ _ ⟨rfl, rfl, rfl⟩
    refine hy (fun _ => y_extract rfl rfl) <| hy (fun _ => y_extract rfl rfl) <| hy (fun _ => y_assign rfl) <| hy (fun _ => y_assign rfl) <| hend <| hsub (ρ' := [(3, _), (2, _), (12, _), (5, _), (4, _), (1, _), (0, _)]) ⟨rfl, rfl, rfl, rfl, rfl, rfl, rfl, trivial⟩ <| hmemQ (X' := [_, _]) (S' := [_, _]) (fun _ m => m) <| hthen <| hret <| ?_
    exact hret2 trivial rfl rfl rfl [] rfl [] rfl ⟨rfl, rfl, rfl⟩
end Go.Proofs.YtfikjheicjamhaaGreatDoor
end
section
/- The engine over things in memory, eighth part: panics that go through a function's end, and what recovers them. No statement is proved here. -/
set_option linter.unusedVariables false
set_option linter.unusedSimpArgs false
set_option linter.unusedSectionVars false
namespace Go.Eng
open Go.RowKit
/-- a panic with one value that nobody has recovered -/
abbrev pan (v : Value) : List PanicEntry := [{ v, recovered := false }]
/-- how a call ends: with a value, or in a panic -/
def RE (b : Base) (R Rp : Value → List Res → List Res → Prop) : Ending → World → Prop := fun e w' =>
  (∃ v X' S', e = .returned v ∧ R v X' S' ∧ Mem b X' S' w') ∨ (∃ v X' S', e = .panicked (pan v) ∧ Rp v X' S' ∧ Mem b X' S' w')
/-- a contract of what may end in a panic -/
def ConE (P : Program) (f : Nat) (args : List Value) (X0 S0 : List Res) (R Rp : Value → List Res → List Res → Prop) : Prop :=
  ∀ w, Mem ⟨w, feet X0, feet S0⟩ X0 S0 w → Calls P f args.toArray w (RE ⟨w, feet X0, feet S0⟩ R Rp)
theorem ConE.mono {P : Program} {f : Nat} {vs : List Value} {X0 S0 : List Res} {R Rp R' Rp' : Value → List Res → List Res → Prop} (h : ConE P f vs X0 S0 R Rp) (h1 : ∀ v X S, R v X S → R' v X S) (h2 : ∀ v X S, Rp v X S → Rp' v X S) : ConE P f vs X0 S0 R' Rp' := fun w m =>
  Calls.mono (h w m) (fun e w' hr => by
    rcases hr with ⟨v, X', S', a1, a2, a3⟩ | ⟨v, X', S', a1, a2, a3⟩
    · exact .inl ⟨v, X', S', a1, h1 _ _ _ a2, a3⟩
    · exact .inr ⟨v, X', S', a1, h2 _ _ _ a2, a3⟩)
section
variable {P : Program} {Q : Exit → Act → World → Prop} {N : Nat} {D : List Deferred} {ρ : Env} {b : Base} {X X' X0 Xr S S' S0 : List Res} {ty : TypeId} {x : Operand} {K : Value → List Res → List Res → Prop}
end
section
variable {P : Program} {fn : Func} {R Rp : Value → List Res → List Res → Prop} {N : Nat} {D : List Deferred} {ρ : Env} {b : Base} {X X' Xz Xr X0 S S' S0 : List Res} {e : Exit} {u : FrameMode}
theorem hretN11 {t t' t'' sz : Nat} {ty : TypeId} {p : Addr} {cs : List Value} {v' v'' : Value} (he : Leaves e) (hr : fn.results = #[.cell t ty, .tmp t', .tmp t'']) (hv : get ρ t = some (.pointer (some p))) (hv' : get ρ t' = some v') (hv'' : get ρ t'' = some v'') (ha : aggB P ty = some true) (hs : szB P ty = some sz) (hl : cs.length = sz)
    (hc : ∀ {w}, Mem b X S w → ∀ j u, cs[j]? = some u → w.cell? (p.add j) = some u) (is : List Nat) (hX : takeR is X = some (X', Xz)) (js : List Nat) (hS : getR js S = some S') (hR : R (.tuple #[.agg cs.toArray, v', v'']) X' S') : HQ (bodyPost P fn (RB b R)) N [] e ρ b X S :=
  fun w m => wq_leave he (fun a hA => by have h1 := hA.getD hv; have h2 := hA.getD hv'; have h3 := hA.getD hv''; simp at h1 h2 h3; simp [results, hr, h1, h2, h3, asAddr, run_loadN ha hs hl (hc m)]) ⟨_, _, _, rfl, hR, m.out is hX js hS⟩
end
/-! ### what recovers -/
section
variable {P : Program} {ops : Array Oper} {fn : Func} {N : Nat} {D : List Deferred} {ρ ρ' : Env} {w : World} {c₀ : Frame} {cs : List Frame} {R : Ending → FrameMode → World → Prop} {Q : Exit → Act → List Frame → World → Prop} {op : Op} {ty : TypeId} {pos : String} {af : Array Edge} {d : Nat} {v : Value} {rest : List Nat} {u : FrameMode}
end
end Go.Eng
end
section
/- Contracts: the document's slots: turn, Back, Flip, Stage (layer 22). -/
set_option linter.unusedVariables false
set_option linter.unusedSimpArgs false
set_option maxRecDepth 20000
set_option maxHeartbeats 2000000
namespace Go.Proofs.YtfikjheicjamhaaGreatDoor
open Go.Eng Go.Hx
theorem rturnSC {x : RX} {kk : Nat} {s : Sup} (h : s.wf) (hm : s.may) (hD : x.d.ok kk) (hkk : kk ≤ 90000) : Con Tryz.prog 122 [.agg x.cs.toArray, .agg s.cs.toArray] [] [RRef x] (fun v_ X_ S_ => ∃ y, v_ = (.tuple #[.agg y.cs.toArray, .int .i64 (x.d.turnS s).2.1, .int .i64 (x.d.turnS s).2.2]) ∧ X_ = [] ∧ S_ = [RRef y] ∧ (y.d = (x.d.turnS s).1)) := by
  have hg0 := h.g0
  have hg1 := h.g1
  have hg2 := hm.2.2.1
  have ha3 := hm.1
  refine henter (N := 33) Tryz.func122 rfl rfl (by simp) fun b => ?_
  refine hseq <| hreg <| ?_
  refine hx (xh_box rfl (fun g2 => ?_))
  refine hmemL (fun w m => m.eqX 0 rfl (show _ = RBlk g2 46 x.cs from congrArg (RBlk _ _) (cells_agg _))) ?_
  refine hx (xh_box rfl (fun g3 => ?_))
  refine hmemL (fun w m => m.eqX 0 rfl (show _ = RBlk g3 51 s.cs from congrArg (RBlk _ _) (cells_agg _))) ?_
  refine hx (xh_alloc ti46 (fun g4 => ?_))
  refine hy (fun _ => y_assign rfl) <| hy (fun _ => y_assign rfl) <| hend <| hmemQ (X' := [_, _, _]) (S' := [_]) (fun _ m => m) <| hthen <| hseq <| hseq <| hreg <| hy (fun _ => y_fld rfl fa51_1 (by decide)) <| hy (fun m => y_ld1 rfl ag3 ((m.blk 1 rfl).cells0 1 _ sup1)) <| hy (fun _ => y_eql rfl rfl) <| hend <| hsub (ρ' := [(10, _), (6, _), (5, _), (4, _), (3, _), (2, _), (0, _), (1, _)]) ⟨rfl, rfl, rfl, rfl, rfl, rfl, rfl, rfl, trivial⟩ <| hthen <| ?_
  refine hif rfl (fun hg => ?_) (fun hg => ?_)
  · rw [show x.d.turnS s = (x.d, 0, 5) by rw [RD.turnS, if_pos (by omega)]]
    refine hseq <| hreg <| hy (fun m => yV (y_ldN rfl ag46 sz46 rfl ((m.blk 2 rfl).cells0)) ((rfl : _ = Value.agg x.cs.toArray))) <| ?_
    refine hx0 (xh_stA 0 rfl rfl rfl sz46 rfl cs_one rfl ?_)
    refine hy (fun _ => y_assign rfl) <| hy (fun _ => y_assign rfl) <| hend <| hsub (ρ' := [(6, _), (5, _), (10, _), (4, _), (3, _), (2, _), (0, _), (1, _)]) ⟨rfl, rfl, rfl, rfl, rfl, rfl, rfl, rfl, trivial⟩ <| hmemQ (X' := [_, _, _]) (S' := [_]) (fun _ m => m) <| hthen <| hret <| hthen_ret <| ?_
    exact hretN11 trivial rfl rfl rfl rfl ag46 sz46 rfl (fun m => (m.blk 0 rfl).cells0) [] rfl [0] rfl ⟨x, rfl, rfl, rfl, rfl⟩
  · have hgl : s.gen < 2147483647 := by omega
    have hw := turned_wf h hm.1 hgl
    have hwm := turned_may hm hgl
    have hsv : x.d.saveSup s.turned = x.d.saveS nNew nSup s.turned.bytes := if_pos hwm
    refine hcskip <| hthen <| hseq <| hreg <| hy (fun _ => y_fld rfl fa51_0 (by decide)) <| hy (fun m => y_ld1 rfl ag3 ((m.blk 1 rfl).cells0 0 _ sup0)) <| hy (fun _ => y_sub rfl rfl (w64 (by omega) (by omega))) <| hy (fun _ => y_fld rfl fa51_0 (by decide)) <| ?_
    refine hx0 (xh_st1a 1 rfl rfl rfl sz3 rfl (by first | exact Nat.le_of_ble_eq_true rfl | simp) ?_)
    refine hend <| hsub (ρ' := [(10, _), (6, _), (5, _), (4, _), (3, _), (2, _), (0, _), (1, _)]) ⟨rfl, rfl, rfl, rfl, rfl, rfl, rfl, rfl, trivial⟩ <| hmemQ (X' := [_, _, _]) (S' := [_]) (fun _ m => m) <| hthen <| hseq <| hreg <| hy (fun _ => y_fld rfl fa51_1 (by decide)) <| hy (fun m => y_ld1 rfl ag3 ((m.blk 0 rfl).cells0 1 _ rfl)) <| hy (fun _ => y_add rfl rfl (w64 (by omega) (by omega))) <| hy (fun _ => y_fld rfl fa51_1 (by decide)) <| ?_
    refine hx0 (xh_st1a 0 rfl rfl rfl sz3 rfl (by first | exact Nat.le_of_ble_eq_true rfl | simp) ?_)
    refine hend <| hsub (ρ' := [(10, _), (6, _), (5, _), (4, _), (3, _), (2, _), (0, _), (1, _)]) ⟨rfl, rfl, rfl, rfl, rfl, rfl, rfl, rfl, trivial⟩ <| hmemQ (X' := [_, _, _]) (S' := [_]) (fun _ m => m) <| hthen <| hseq <| hreg <| ?_
    refine hmemL (fun w m => m.eqX 0 rfl (show _ = RBlk g3 51 s.turned.cs from rfl)) ?_
    refine hy (fun m => yV (y_ldN rfl ag46 sz46 rfl ((m.blk 2 rfl).cells0)) ((rfl : _ = Value.agg x.cs.toArray))) <| hy (fun m => yV (y_ldN rfl ag51 sz51 (Sup.cs_len hw) ((m.blk 0 rfl).cells0)) ((rfl : _ = Value.agg s.turned.cs.toArray))) <| ?_
    refine hx (xh_call rfl Tryz.call50 (rsaveSC hw hwm hD hkk) [] rfl [0] rfl ?_)
    rintro _ _ _ ⟨y, rfl, rfl, rfl, h2⟩
    refine hy (fun _ => y_move rfl) <| hy (fun _ => y_extract rfl rfl) <| hy (fun _ => y_extract rfl rfl) <| ?_
    refine hx0 (xh_stA 2 rfl rfl rfl sz46 rfl cs_one rfl ?_)
    rw [← hsv] at h2 ⊢
    refine hy (fun _ => y_assign rfl) <| hend <| hsub (ρ' := [(7, _), (10, _), (6, _), (5, _), (4, _), (3, _), (2, _), (0, _), (1, _)]) ⟨rfl, rfl, rfl, rfl, rfl, rfl, rfl, rfl, rfl, trivial⟩ <| hmemQ (X' := [_, _, _]) (S' := [_, _]) (fun _ m => m) <| hthen <| hseq <| hseq <| hreg <| hy (fun _ => y_move rfl) <| hy (fun _ => y_neq rfl rfl) <| hend <| hsub (ρ' := [(27, _), (7, _), (10, _), (6, _), (5, _), (4, _), (3, _), (2, _), (0, _), (1, _)]) ⟨rfl, rfl, rfl, rfl, rfl, rfl, rfl, rfl, rfl, rfl, trivial⟩ <| hthen <| ?_
    refine hif rfl (fun h3 => ?_) (fun h3 => ?_)
    · rw [show x.d.turnS s = ((x.d.saveSup s.turned).1, 0, (x.d.saveSup s.turned).2) by rw [RD.turnS, if_neg (by omega)]; exact if_pos h3]
      refine hseq <| hreg <| hy (fun m => yV (y_ldN rfl ag46 sz46 rfl ((m.blk 0 rfl).cells0)) ((rfl : _ = Value.agg y.cs.toArray))) <| hy (fun _ => y_move rfl) <| ?_
      refine hx0 (xh_stA 2 rfl rfl rfl sz46 rfl cs_one rfl ?_)
      refine hy (fun _ => y_assign rfl) <| hy (fun _ => y_assign rfl) <| hend <| hsub (ρ' := [(6, _), (5, _), (27, _), (7, _), (10, _), (4, _), (3, _), (2, _), (0, _), (1, _)]) ⟨rfl, rfl, rfl, rfl, rfl, rfl, rfl, rfl, rfl, rfl, trivial⟩ <| hmemQ (X' := [_, _, _]) (S' := [_, _]) (fun _ m => m) <| hthen <| hret <| hthen_ret <| ?_
      exact hretN11 trivial rfl rfl rfl rfl ag46 sz46 rfl (fun m => (m.blk 0 rfl).cells0) [] rfl [0] rfl ⟨y, rfl, rfl, rfl, h2⟩
    · rw [show x.d.turnS s = ((x.d.saveSup s.turned).1, s.gen + 1, 0) by rw [RD.turnS, if_neg (by omega)]; exact if_neg h3]
      refine hcskip <| hthen <| hseq <| hdrwB [0, 0] [0, 1] rfl rfl [3] [(0, some 0), (1, some 1), (2, some 1), (3, none), (4, some 1), (5, some 1)] (by kernel_rfl) (by kernel_rfl) rfl 99 <| hty (fun m => yV (y_ldN rfl ag46 sz46 rfl ((m.blk 0 rfl).cells0)) ((rfl : _ = Value.agg y.cs.toArray))) <| htyU (y_fld rfl fa51_1 (by decide)) <| hty (fun m => y_ld1 rfl ag3 ((m.blk 1 rfl).cells0 1 _ sup1)) <| ?_
      refine htx0 (xh_stA 2 rfl rfl rfl sz46 rfl cs_one rfl ⟨(fun _ => wk [1, 1] [0, 1] rfl rfl), ?_⟩)
      refine htyU (y_assign rfl) <| htyU (y_assign rfl) <| htend <| hsub (ρ' := [(6, _), (5, _), (27, _), (7, _), (10, _), (4, _), (3, _), (2, _), (0, _), (1, _)]) ⟨rfl, rfl, rfl, rfl, rfl, rfl, rfl, rfl, rfl, rfl, trivial⟩ <| hmemQ (X' := [_, _, _]) (S' := [_, _]) (fun _ m => m) <| hthen <| hret <| ?_
      exact hretN11 trivial rfl rfl rfl rfl ag46 sz46 rfl (fun m => (m.blk 0 rfl).cells0) [] rfl [0] rfl ⟨y, rfl, rfl, rfl, h2⟩
theorem rbackSC {x : RX} {kk : Nat} (hD : x.d.ok kk) (hkk : kk ≤ 90000) : Con Tryz.prog 53 [.agg x.cs.toArray] [] [RRef x, RRoots] (fun v_ X_ S_ => ∃ y, v_ = (.tuple #[.agg y.cs.toArray, .int .i64 x.d.backS.2.1, .int .i64 x.d.backS.2.2]) ∧ X_ = [] ∧ S_ = [RRef y] ∧ (y.d = x.d.backS.1)) := by
  have hw := x.d.loadS_wf
  refine henter (N := 36) Tryz.func53 rfl rfl (by simp) fun b => ?_
  refine hseq <| hreg <| ?_
  refine hx (xh_box rfl (fun g1 => ?_))
  refine hmemL (fun w m => m.eqX 0 rfl (show _ = RBlk g1 46 x.cs from congrArg (RBlk _ _) (cells_agg _))) ?_
  refine hx (xh_alloc ti46 (fun g2 => ?_))
  refine hy (fun _ => y_assign rfl) <| hy (fun _ => y_assign rfl) <| hend <| hmemQ (X' := [_, _]) (S' := [_, _]) (fun _ m => m) <| hthen <| hseq <| hreg <| hy (fun m => yV (y_ldN rfl ag46 sz46 rfl ((m.blk 1 rfl).cells0)) ((rfl : _ = Value.agg x.cs.toArray))) <| ?_
  refine hx (xh_call rfl Tryz.call13 (rloadSC hD hkk) [] rfl [0] rfl ?_)
  rintro _ _ _ ⟨rfl, rfl, rfl⟩
  refine hy (fun _ => y_move rfl) <| hy (fun _ => y_extract rfl rfl) <| hy (fun _ => y_extract rfl rfl) <| ?_
  refine hx (xh_alloc ti51 (fun g5 => ?_))
  refine hx0 (xh_stA 0 rfl rfl rfl sz51 (Sup.cs_len hw) Sup.cs_one rfl ?_)
  refine hy (fun _ => y_assign rfl) <| hend <| hsub (ρ' := [(6, _), (5, _), (4, _), (3, _), (2, _), (1, _), (0, _)]) ⟨rfl, rfl, rfl, rfl, rfl, rfl, rfl, trivial⟩ <| hmemQ (X' := [_, _, _]) (S' := [_, _]) (fun _ m => m) <| hthen <| hseq <| hseq <| hreg <| hy (fun _ => y_move rfl) <| hy (fun _ => y_neq rfl rfl) <| hend <| hsub (ρ' := [(15, _), (6, _), (5, _), (4, _), (3, _), (2, _), (1, _), (0, _)]) ⟨rfl, rfl, rfl, rfl, rfl, rfl, rfl, rfl, trivial⟩ <| hthen <| ?_
  refine hif rfl (fun h1 => ?_) (fun h1 => ?_)
  · rw [show x.d.backS = (x.d, 0, x.d.loadS.2) by rw [RD.backS, if_pos h1]]
    refine hseq <| hreg <| hy (fun m => yV (y_ldN rfl ag46 sz46 rfl ((m.blk 2 rfl).cells0)) ((rfl : _ = Value.agg x.cs.toArray))) <| hy (fun _ => y_move rfl) <| ?_
    refine hx0 (xh_stA 1 rfl rfl rfl sz46 rfl cs_one rfl ?_)
    refine hy (fun _ => y_assign rfl) <| hy (fun _ => y_assign rfl) <| hend <| hsub (ρ' := [(4, _), (3, _), (15, _), (6, _), (5, _), (2, _), (1, _), (0, _)]) ⟨rfl, rfl, rfl, rfl, rfl, rfl, rfl, rfl, trivial⟩ <| hmemQ (X' := [_, _, _]) (S' := [_, _]) (fun _ m => m) <| hthen <| hret <| hthen_ret <| ?_
    exact hretN11 trivial rfl rfl rfl rfl ag46 sz46 rfl (fun m => (m.blk 0 rfl).cells0) [] rfl [0] rfl ⟨x, rfl, rfl, rfl, rfl⟩
  · have hm := RD.loadS_may (Decidable.not_not.1 h1)
    obtain ⟨ho, ho2, ha, ha2⟩ := Sup.may_other hm
    have hI : x.d.imageI (x.d.loadS.1.other : Nat) = x.d.imageS x.d.loadS.1 x.d.loadS.1.other := by rw [RD.imageI, if_neg h1, if_neg (by omega), Int.toNat_natCast]
    refine hcskip <| hthen <| hseq <| hreg <| hy (fun m => yV (y_ldN rfl ag46 sz46 rfl ((m.blk 2 rfl).cells0)) ((rfl : _ = Value.agg x.cs.toArray))) <| hy (fun _ => y_fld rfl fa51_0 (by decide)) <| hy (fun m => y_ld1 rfl ag3 ((m.blk 0 rfl).cells0 0 _ sup0)) <| hy (fun _ => yV (y_sub rfl rfl (w64 (by omega) (by omega))) ((show Value.int .i64 (1 - x.d.loadS.1.active) = .int .i64 (x.d.loadS.1.other : Nat) by rw [ho2]))) <| ?_
    refine hx (xh_call rfl Tryz.call56 (rimageSC hD hkk) [] rfl [0, 1] rfl ?_)
    rintro _ _ _ ⟨rfl, rfl, rfl⟩
    rw [hI]
    refine hy (fun _ => y_move rfl) <| hy (fun _ => y_extract rfl rfl) <| hy (fun _ => y_extract rfl rfl) <| hy (fun _ => y_assign rfl) <| hy (fun _ => y_assign rfl) <| hend <| hsub (ρ' := [(8, _), (15, _), (6, _), (5, _), (4, _), (3, _), (2, _), (1, _), (0, _)]) ⟨rfl, rfl, rfl, rfl, rfl, rfl, rfl, rfl, rfl, trivial⟩ <| hmemQ (X' := [_, _, _]) (S' := [_, _]) (fun _ m => m) <| hthen <| hseq <| hseq <| hreg <| hy (fun _ => y_move rfl) <| hy (fun _ => y_neq rfl rfl) <| hend <| hsub (ρ' := [(27, _), (8, _), (15, _), (6, _), (5, _), (4, _), (3, _), (2, _), (1, _), (0, _)]) ⟨rfl, rfl, rfl, rfl, rfl, rfl, rfl, rfl, rfl, rfl, trivial⟩ <| hthen <| ?_
    refine hif rfl (fun h2 => ?_) (fun h2 => ?_)
    · rw [show x.d.backS = (x.d, 0, (x.d.imageS x.d.loadS.1 x.d.loadS.1.other).2) by rw [RD.backS, if_neg h1]; exact if_pos h2]
      refine hseq <| hreg <| hy (fun m => yV (y_ldN rfl ag46 sz46 rfl ((m.blk 2 rfl).cells0)) ((rfl : _ = Value.agg x.cs.toArray))) <| hy (fun _ => y_move rfl) <| ?_
      refine hx0 (xh_stA 1 rfl rfl rfl sz46 rfl cs_one rfl ?_)
      refine hy (fun _ => y_assign rfl) <| hy (fun _ => y_assign rfl) <| hend <| hsub (ρ' := [(4, _), (3, _), (27, _), (8, _), (15, _), (6, _), (5, _), (2, _), (1, _), (0, _)]) ⟨rfl, rfl, rfl, rfl, rfl, rfl, rfl, rfl, rfl, rfl, trivial⟩ <| hmemQ (X' := [_, _, _]) (S' := [_, _]) (fun _ m => m) <| hthen <| hret <| hthen_ret <| ?_
      exact hretN11 trivial rfl rfl rfl rfl ag46 sz46 rfl (fun m => (m.blk 0 rfl).cells0) [] rfl [0] rfl ⟨x, rfl, rfl, rfl, rfl⟩
    · rw [show x.d.backS = x.d.turnS x.d.loadS.1 by rw [RD.backS, if_neg h1]; exact if_neg h2]
      refine hcskip <| hthen <| hseq <| hreg <| hy (fun m => yV (y_ldN rfl ag46 sz46 rfl ((m.blk 2 rfl).cells0)) ((rfl : _ = Value.agg x.cs.toArray))) <| hy (fun m => yV (y_ldN rfl ag51 sz51 (Sup.cs_len hw) ((m.blk 0 rfl).cells0)) ((rfl : _ = Value.agg x.d.loadS.1.cs.toArray))) <| ?_
      refine hx (xh_call rfl Tryz.call122 (rturnSC hw hm hD hkk) [] rfl [0] rfl ?_)
      rintro _ _ _ ⟨y, rfl, rfl, rfl, h3⟩
      refine hy (fun _ => y_extract rfl rfl) <| hy (fun _ => y_extract rfl rfl) <| hy (fun _ => y_extract rfl rfl) <| ?_
      refine hx0 (xh_stA 1 rfl rfl rfl sz46 rfl cs_one rfl ?_)
      refine hy (fun _ => y_assign rfl) <| hy (fun _ => y_assign rfl) <| hend <| hsub (ρ' := [(4, _), (3, _), (27, _), (8, _), (15, _), (6, _), (5, _), (2, _), (1, _), (0, _)]) ⟨rfl, rfl, rfl, rfl, rfl, rfl, rfl, rfl, rfl, rfl, trivial⟩ <| hmemQ (X' := [_, _, _]) (S' := [_, _, _]) (fun _ m => m) <| hthen <| hret <| ?_
      exact hretN11 trivial rfl rfl rfl rfl ag46 sz46 rfl (fun m => (m.blk 0 rfl).cells0) [] rfl [0] rfl ⟨y, rfl, rfl, rfl, h3⟩
theorem rflipSC {x : RX} {kk : Nat} {im : List UInt8} (hi : im.length = 32) (hD : x.d.ok kk) (hkk : kk ≤ 90000) : Con Tryz.prog 51 [.agg x.cs.toArray, .agg (b8s im).toArray] [] [RRef x, RRoots] (fun v_ X_ S_ => ∃ y, v_ = (.tuple #[.agg y.cs.toArray, .int .i64 (x.d.flipS im).2.1, .int .i64 (x.d.flipS im).2.2]) ∧ X_ = [] ∧ S_ = [RRef y] ∧ (y.d = (x.d.flipS im).1)) := by
  have hw := x.d.loadS_wf
  have okr := hD.rok
  refine henter (N := 57) Tryz.func51 rfl rfl (by simp) fun b => ?_
  refine hseq <| hreg <| ?_
  refine hx (xh_box rfl (fun g2 => ?_))
  refine hmemL (fun w m => m.eqX 0 rfl (show _ = RBlk g2 46 x.cs from congrArg (RBlk _ _) (cells_agg _))) ?_
  refine hx (xh_box rfl (fun g3 => ?_))
  refine hmemL (fun w m => m.eqX 0 rfl (show _ = RBlk g3 33 (b8s im) from congrArg (RBlk _ _) (cells_agg _))) ?_
  refine hx (xh_alloc ti46 (fun g4 => ?_))
  refine hy (fun _ => y_assign rfl) <| hy (fun _ => y_assign rfl) <| hend <| hmemQ (X' := [_, _, _]) (S' := [_, _]) (fun _ m => m) <| hthen <| hseq <| hreg <| hy (fun m => yV (y_ldN rfl ag46 sz46 rfl ((m.blk 2 rfl).cells0)) ((rfl : _ = Value.agg x.cs.toArray))) <| ?_
  refine hx (xh_call rfl Tryz.call13 (rloadSC hD hkk) [] rfl [0] rfl ?_)
  rintro _ _ _ ⟨rfl, rfl, rfl⟩
  refine hy (fun _ => y_move rfl) <| hy (fun _ => y_extract rfl rfl) <| hy (fun _ => y_extract rfl rfl) <| ?_
  refine hx (xh_alloc ti51 (fun g7 => ?_))
  refine hx0 (xh_stA 0 rfl rfl rfl sz51 (Sup.cs_len hw) Sup.cs_one rfl ?_)
  refine hy (fun _ => y_assign rfl) <| hend <| hsub (ρ' := [(8, _), (7, _), (6, _), (5, _), (4, _), (3, _), (2, _), (0, _), (1, _)]) ⟨rfl, rfl, rfl, rfl, rfl, rfl, rfl, rfl, rfl, trivial⟩ <| hmemQ (X' := [_, _, _, _]) (S' := [_, _]) (fun _ m => m) <| hthen <| hseq <| hseq <| hreg <| hy (fun _ => y_move rfl) <| hy (fun _ => y_neq rfl rfl) <| hend <| hsub (ρ' := [(18, _), (8, _), (7, _), (6, _), (5, _), (4, _), (3, _), (2, _), (0, _), (1, _)]) ⟨rfl, rfl, rfl, rfl, rfl, rfl, rfl, rfl, rfl, rfl, trivial⟩ <| hthen <| ?_
  refine hif rfl (fun h1 => ?_) (fun h1 => ?_)
  · rw [show x.d.flipS im = (x.d, 0, x.d.loadS.2) by rw [RD.flipS, if_pos h1]]
    refine hseq <| hreg <| hy (fun m => yV (y_ldN rfl ag46 sz46 rfl ((m.blk 3 rfl).cells0)) ((rfl : _ = Value.agg x.cs.toArray))) <| hy (fun _ => y_move rfl) <| ?_
    refine hx0 (xh_stA 1 rfl rfl rfl sz46 rfl cs_one rfl ?_)
    refine hy (fun _ => y_assign rfl) <| hy (fun _ => y_assign rfl) <| hend <| hsub (ρ' := [(6, _), (5, _), (18, _), (8, _), (7, _), (4, _), (3, _), (2, _), (0, _), (1, _)]) ⟨rfl, rfl, rfl, rfl, rfl, rfl, rfl, rfl, rfl, rfl, trivial⟩ <| hmemQ (X' := [_, _, _, _]) (S' := [_, _]) (fun _ m => m) <| hthen <| hret <| hthen_ret <| ?_
    exact hretN11 trivial rfl rfl rfl rfl ag46 sz46 rfl (fun m => (m.blk 0 rfl).cells0) [] rfl [0] rfl ⟨x, rfl, rfl, rfl, rfl⟩
  · have hm := RD.loadS_may (Decidable.not_not.1 h1)
    obtain ⟨ho, ho2, ha, ha2⟩ := Sup.may_other hm
    have hlen := hD.rd_len (nSlot x.d.loadS.1.other)
    refine hcskip <| hthen <| hseq <| hreg <| hy (fun _ => y_fld rfl fa51_0 (by decide)) <| hy (fun m => y_ld1 rfl ag3 ((m.blk 0 rfl).cells0 0 _ sup0)) <| hy (fun _ => yV (y_sub rfl rfl (w64 (by omega) (by omega))) ((show Value.int .i64 (1 - x.d.loadS.1.active) = .int .i64 (x.d.loadS.1.other : Nat) by rw [ho2]))) <| hy (fun _ => y_assign rfl) <| hend <| hsub (ρ' := [(9, _), (18, _), (8, _), (7, _), (6, _), (5, _), (4, _), (3, _), (2, _), (0, _), (1, _)]) ⟨rfl, rfl, rfl, rfl, rfl, rfl, rfl, rfl, rfl, rfl, rfl, trivial⟩ <| hthen <| hseq <| hdrw [2, 3] [(0, some 1), (1, some 0), (2, none), (3, none), (4, some 2), (5, some 2), (6, some 2), (7, some 2), (8, some 2)] (by kernel_rfl) (by kernel_rfl) rfl 99 <| hty (fun m => yV (y_ldN rfl ag46 sz46 rfl ((m.blk 3 rfl).cells0)) ((rfl : _ = Value.agg x.cs.toArray))) <| htyU (y_move rfl) <| ?_
    refine htx (xh_call rfl Tryz.call121 (rfileSC ho) [] rfl [] rfl ?_)
    rintro _ _ _ ⟨rfl, rfl, rfl⟩
    refine ⟨(fun _ => wk [0, 0, 0, 0] [0, 1] rfl rfl), ?_⟩
    refine htx (xh_call rfl Tryz.call64 (rreadX okr (by omega) (p := (nSlot x.d.loadS.1.other))) [] rfl [0] rfl ?_)
    rintro _ _ _ ⟨rfl, rfl, rfl⟩
    refine ⟨(fun _ => wk [0, 0, 0, 0] [0, 1] rfl rfl), ?_⟩
    refine htyU (y_move rfl) <| htyU (y_extract rfl rfl) <| htyU (y_extract rfl rfl) <| htyU (y_assign rfl) <| htyU (y_assign rfl) <| htend <| hsub (ρ' := [(11, _), (10, _), (9, _), (18, _), (8, _), (7, _), (6, _), (5, _), (4, _), (3, _), (2, _), (0, _), (1, _)]) ⟨rfl, rfl, rfl, rfl, rfl, rfl, rfl, rfl, rfl, rfl, rfl, rfl, rfl, trivial⟩ <| hmemQ (X' := [_, _, _, _]) (S' := [_, _]) (fun _ m => m) <| hthen <| hseq <| hseq <| hreg <| hy (fun _ => y_move rfl) <| hy (fun _ => y_neq rfl rfl) <| hend <| hsub (ρ' := [(32, _), (11, _), (10, _), (9, _), (18, _), (8, _), (7, _), (6, _), (5, _), (4, _), (3, _), (2, _), (0, _), (1, _)]) ⟨rfl, rfl, rfl, rfl, rfl, rfl, rfl, rfl, rfl, rfl, rfl, rfl, rfl, rfl, trivial⟩ <| hthen <| ?_
    generalize hse : x.d.loadS.1 = s at hw hm ho ho2 ha ha2 hlen ⊢
    generalize hie : s.other = i at ho ho2 hlen ⊢
    have hln := strOf_size (x.d.readB (nSlot i))
    refine hif rfl (fun h2 => ?_) (fun h2 => ?_)
    · rw [show x.d.flipS im = (x.d, 0, x.d.readE (nSlot i)) by rw [← hie, ← hse, RD.flipS, if_neg h1]; exact if_pos (by rw [hse, hie]; exact h2)]
      refine hseq <| hreg <| hy (fun m => yV (y_ldN rfl ag46 sz46 rfl ((m.blk 3 rfl).cells0)) ((rfl : _ = Value.agg x.cs.toArray))) <| hy (fun _ => y_move rfl) <| ?_
      refine hx0 (xh_stA 1 rfl rfl rfl sz46 rfl cs_one rfl ?_)
      refine hy (fun _ => y_assign rfl) <| hy (fun _ => y_assign rfl) <| hend <| hsub (ρ' := [(6, _), (5, _), (32, _), (11, _), (10, _), (9, _), (18, _), (8, _), (7, _), (4, _), (3, _), (2, _), (0, _), (1, _)]) ⟨rfl, rfl, rfl, rfl, rfl, rfl, rfl, rfl, rfl, rfl, rfl, rfl, rfl, rfl, trivial⟩ <| hmemQ (X' := [_, _, _, _]) (S' := [_, _]) (fun _ m => m) <| hthen <| hret <| hthen_ret <| ?_
      exact hretN11 trivial rfl rfl rfl rfl ag46 sz46 rfl (fun m => (m.blk 0 rfl).cells0) [] rfl [0] rfl ⟨x, rfl, rfl, rfl, rfl⟩
    · refine hcskip <| hthen <| hseq <| hseq <| hreg <| hy (fun _ => y_move rfl) <| hy (fun _ => y_lenStr rfl Tryz.underlying9) <| hy (fun _ => y_gtr rfl rfl) <| hend <| hsub (ρ' := [(37, _), (32, _), (11, _), (10, _), (9, _), (18, _), (8, _), (7, _), (6, _), (5, _), (4, _), (3, _), (2, _), (0, _), (1, _)]) ⟨rfl, rfl, rfl, rfl, rfl, rfl, rfl, rfl, rfl, rfl, rfl, rfl, rfl, rfl, rfl, trivial⟩ <| hthen <| ?_
      refine hif rfl (fun h3 => ?_) (fun h3 => ?_)
      · rw [show x.d.flipS im = (x.d, 0, 3) by rw [RD.flipS, if_neg h1]; simp only [hse, hie]; rw [if_neg h2]; exact if_pos (by omega)]
        refine hseq <| hreg <| hy (fun m => yV (y_ldN rfl ag46 sz46 rfl ((m.blk 3 rfl).cells0)) ((rfl : _ = Value.agg x.cs.toArray))) <| ?_
        refine hx0 (xh_stA 1 rfl rfl rfl sz46 rfl cs_one rfl ?_)
        refine hy (fun _ => y_assign rfl) <| hy (fun _ => y_assign rfl) <| hend <| hsub (ρ' := [(6, _), (5, _), (37, _), (32, _), (11, _), (10, _), (9, _), (18, _), (8, _), (7, _), (4, _), (3, _), (2, _), (0, _), (1, _)]) ⟨rfl, rfl, rfl, rfl, rfl, rfl, rfl, rfl, rfl, rfl, rfl, rfl, rfl, rfl, rfl, trivial⟩ <| hmemQ (X' := [_, _, _, _]) (S' := [_, _]) (fun _ m => m) <| hthen <| hret <| hthen_ret <| ?_
        exact hretN11 trivial rfl rfl rfl rfl ag46 sz46 rfl (fun m => (m.blk 0 rfl).cells0) [] rfl [0] rfl ⟨x, rfl, rfl, rfl, rfl⟩
      · refine hcskip <| hthen <| hseq <| hseq <| hdrw [1, 2] [(0, some 0), (3, some 2), (1, none), (2, none), (4, some 2)] (by kernel_rfl) (by kernel_rfl) rfl 99 <| htyU (y_move rfl) <| hty (fun m => yV (y_ldN rfl ag33 sz33 (by rw [b8s_length, hi]) ((m.blk 2 rfl).cells0)) ((rfl : _ = Value.agg (b8s im).toArray))) <| ?_
        refine htx (xh_s2b rfl Tryz.underlying9 Tryz.underlying27 Tryz.underlying5 (by rw [bytesOf_strOf]; unfold maxLen; omega) (fun v40 => ⟨(fun _ => wk [1, 1, 1, 1] [0, 1] rfl rfl), ?_⟩))
        refine htfact (fun m => (m.own 0 rfl).slice) ?_
        rintro ⟨A_b40, c_b40, rfl, hc_b40⟩
        refine htfact (fun m => (m.ord 0 rfl).2.1) fun hA_b40 => ?_
        rw [bytesOf_strOf] at hc_b40 hA_b40 ⊢
        refine htmem (fun w m => m.eqX 0 rfl (show _ = ROwn 5 1 (.slice A_b40 (x.d.readB (nSlot i)).length c_b40) (x.d.readB (nSlot i)).length (b8s (x.d.readB (nSlot i))) from rfl)) ?_
        refine htx (xh_calll rfl Tryz.call23 (rshaSumC (by omega)) [] rfl (.x 0 rfl .own .nil) ?_)
        rintro _ _ _ ⟨rfl, rfl, rfl⟩
        refine ⟨rfl, ?_⟩
        refine ⟨(fun _ => wk [1, 1, 1, 1] [0, 1] rfl rfl), ?_⟩
        refine htyU (y_neD33 rfl rfl (shaL_length _) hi) <| htend <| hsub (ρ' := [(43, _), (37, _), (32, _), (11, _), (10, _), (9, _), (18, _), (8, _), (7, _), (6, _), (5, _), (4, _), (3, _), (2, _), (0, _), (1, _)]) ⟨rfl, rfl, rfl, rfl, rfl, rfl, rfl, rfl, rfl, rfl, rfl, rfl, rfl, rfl, rfl, rfl, trivial⟩ <| hmemQ (X' := [_, _, _, _, _]) (S' := [_, _]) (fun _ m => m) <| hthen <| ?_
        refine hif rfl (fun h4 => ?_) (fun h4 => ?_)
        · rw [show x.d.flipS im = (x.d, 0, 7) by rw [RD.flipS, if_neg h1]; simp only [hse, hie]; rw [if_neg h2, if_neg (by omega)]; exact if_pos h4]
          refine hseq <| hreg <| hy (fun m => yV (y_ldN rfl ag46 sz46 rfl ((m.blk 4 rfl).cells0)) ((rfl : _ = Value.agg x.cs.toArray))) <| ?_
          refine hx0 (xh_stA 2 rfl rfl rfl sz46 rfl cs_one rfl ?_)
          refine hy (fun _ => y_assign rfl) <| hy (fun _ => y_assign rfl) <| hend <| hsub (ρ' := [(6, _), (5, _), (43, _), (37, _), (32, _), (11, _), (10, _), (9, _), (18, _), (8, _), (7, _), (4, _), (3, _), (2, _), (0, _), (1, _)]) ⟨rfl, rfl, rfl, rfl, rfl, rfl, rfl, rfl, rfl, rfl, rfl, rfl, rfl, rfl, rfl, rfl, trivial⟩ <| hmemQ (X' := [_, _, _, _, _]) (S' := [_, _]) (fun _ m => m) <| hthen <| hret <| hthen_ret <| ?_
          exact hretN11 trivial rfl rfl rfl rfl ag46 sz46 rfl (fun m => (m.blk 0 rfl).cells0) [] rfl [0] rfl ⟨x, rfl, rfl, rfl, rfl⟩
        · generalize hq : x.d.readB (nSlot i) = q0 at *
          rw [show x.d.flipS im = x.d.turnS (s.put i ⟨true, im, (q0.length : Int)⟩) by rw [RD.flipS, if_neg h1]; simp only [hse, hie, hq]; rw [if_neg h2, if_neg (by omega)]; exact if_neg h4]
          have hxw : (Sl.mk true im (q0.length : Int)).wf := ⟨hi, by show _ ≤ ((q0.length : Nat) : Int); omega, by show ((q0.length : Nat) : Int) ≤ _; omega⟩
          have hpw : (s.put i ⟨true, im, (q0.length : Int)⟩).wf := Sup.put_wf hw hxw
          have hpm : (s.put i ⟨true, im, (q0.length : Int)⟩).may := Sup.may_put hm ⟨by show (0 : Int) ≤ ((q0.length : Nat) : Int); omega, by show ((q0.length : Nat) : Int) ≤ _; omega, fun h => by cases h⟩
          refine hcskip <| hthen <| hseq <| hdrw [7, 8, 12] [(0, some 1), (1, some 0), (2, some 0), (3, some 0), (4, some 0), (5, some 0), (6, some 0), (7, none), (8, none), (9, some 2), (10, some 2), (11, some 2), (12, none), (13, some 3), (14, some 3)] (by kernel_rfl) (by kernel_rfl) rfl 2 <| hty (fun m => yV (y_ldN rfl ag46 sz46 rfl ((m.blk 4 rfl).cells0)) ((rfl : _ = Value.agg x.cs.toArray))) <| hty (fun m => yV (y_ldN rfl ag51 sz51 (Sup.cs_len hw) ((m.blk 1 rfl).cells0)) ((rfl : _ = Value.agg s.cs.toArray))) <| htyU (y_move rfl) <| hty (fun m => yV (y_ldN rfl ag33 sz33 (by rw [b8s_length, hi]) ((m.blk 3 rfl).cells0)) ((rfl : _ = Value.agg (b8s im).toArray))) <| htyU (y_move rfl) <| htyU (yV (y_lenStr rfl Tryz.underlying9) ((show Value.int .i64 ((strOf q0).size : Nat) = .int .i64 (q0.length : Nat) by rw [hln]))) <| htyU (y_build ti49 rfl rfl (by kernel_rfl) (bld_sl (x := ⟨true, im, (q0.length : Int)⟩) hi rfl pl49_0 pl49_1 pl49_2)) <| ?_
          refine htx (xh_call rfl Tryz.call123 (rwithSC hw ho hxw) [] rfl [] rfl ?_)
          rintro _ _ _ ⟨rfl, rfl, rfl⟩
          refine ⟨(fun _ => wk [0, 0, 0, 0, 0] [0, 1] rfl rfl), ?_⟩
          refine htx (xh_call rfl Tryz.call122 (rturnSC hpw hpm hD hkk) [] rfl [0] rfl ?_)
          rintro _ _ _ ⟨y, rfl, rfl, rfl, h5⟩
          refine ⟨(fun _ => wk [0, 0, 0, 0, 0] [1, 2] rfl rfl), ?_⟩
          refine htyU (y_extract rfl rfl) <| htyU (y_extract rfl rfl) <| htyU (y_extract rfl rfl) <| ?_
          refine htx0 (xh_stA 2 rfl rfl rfl sz46 rfl cs_one rfl ⟨(fun h => absurd h (by decide)), ?_⟩)
          refine htyU (y_assign rfl) <| htyU (y_assign rfl) <| htend <| hsub (ρ' := [(6, _), (5, _), (43, _), (37, _), (32, _), (11, _), (10, _), (9, _), (18, _), (8, _), (7, _), (4, _), (3, _), (2, _), (0, _), (1, _)]) ⟨rfl, rfl, rfl, rfl, rfl, rfl, rfl, rfl, rfl, rfl, rfl, rfl, rfl, rfl, rfl, rfl, trivial⟩ <| hmemQ (X' := [_, _, _, _, _]) (S' := [_, _, _]) (fun _ m => m) <| hthen <| hret <| ?_
          exact hretN11 trivial rfl rfl rfl rfl ag46 sz46 rfl (fun m => (m.blk 0 rfl).cells0) [] rfl [0] rfl ⟨y, rfl, rfl, rfl, h5⟩
theorem nosync {d : RD} (he : d.syncE ≠ 0) : d.sync = d := by
  have h10 : d.pw = 0 := by
    unfold RD.syncE at he
    split at he
    · assumption
    · exact absurd rfl he
  rw [RD.sync, if_pos h10]
theorem nowrite {d : RD} {p l : List UInt8} (he : d.writeE p l ≠ 0) : d.write p l = d := by rw [RD.write, if_neg he]
theorem rstageSC {x : RX} {kk : Nat} {bb : List UInt8} (hbb : bb.length ≤ 1000000) (hD : x.d.ok kk) (hkk : kk ≤ 80000) : Con Tryz.prog 59 [.agg x.cs.toArray, .string (strOf bb)] [] [RRef x] (fun v_ X_ S_ => ∃ y, v_ = (.tuple #[.agg y.cs.toArray, .int .i64 (x.d.stageS bb).2.1, .int .i64 (x.d.stageS bb).2.2]) ∧ X_ = [] ∧ S_ = [RRef y] ∧ (y.d = (x.d.stageS bb).1)) := by
  have hw := x.d.loadS_wf
  have hln := strOf_size bb
  have okr := hD.rok
  refine henter (N := 64) Tryz.func59 rfl rfl (by simp) fun b => ?_
  refine hseq <| hreg <| ?_
  refine hx (xh_box rfl (fun g2 => ?_))
  refine hmemL (fun w m => m.eqX 0 rfl (show _ = RBlk g2 46 x.cs from congrArg (RBlk _ _) (cells_agg _))) ?_
  refine hx (xh_alloc ti46 (fun g4 => ?_))
  refine hy (fun _ => y_assign rfl) <| hy (fun _ => y_assign rfl) <| hend <| hmemQ (X' := [_, _]) (S' := [_]) (fun _ m => m) <| hthen <| hseq <| hseq <| hreg <| hy (fun _ => y_move rfl) <| hy (fun _ => y_lenStr rfl Tryz.underlying9) <| hy (fun _ => y_gtr rfl rfl) <| hend <| hsub (ρ' := [(13, _), (6, _), (5, _), (4, _), (2, _), (0, _), (1, _)]) ⟨rfl, rfl, rfl, rfl, rfl, rfl, rfl, trivial⟩ <| hthen <| ?_
  refine hif rfl (fun h0 => ?_) (fun h0 => ?_)
  · rw [show x.d.stageS bb = (x.d, 0, 3) by rw [RD.stageS, if_pos (by omega)]]
    refine hseq <| hreg <| hy (fun m => yV (y_ldN rfl ag46 sz46 rfl ((m.blk 1 rfl).cells0)) ((rfl : _ = Value.agg x.cs.toArray))) <| ?_
    refine hx0 (xh_stA 0 rfl rfl rfl sz46 rfl cs_one rfl ?_)
    refine hy (fun _ => y_assign rfl) <| hy (fun _ => y_assign rfl) <| hend <| hsub (ρ' := [(6, _), (5, _), (13, _), (4, _), (2, _), (0, _), (1, _)]) ⟨rfl, rfl, rfl, rfl, rfl, rfl, rfl, trivial⟩ <| hmemQ (X' := [_, _]) (S' := [_]) (fun _ m => m) <| hthen <| hret <| hthen_ret <| ?_
    exact hretN11 trivial rfl rfl rfl rfl ag46 sz46 rfl (fun m => (m.blk 0 rfl).cells0) [] rfl [0] rfl ⟨x, rfl, rfl, rfl, rfl⟩
  · have h00 : ¬ 65536 < bb.length := by omega
    refine hcskip <| hthen <| hseq <| hreg <| hy (fun m => yV (y_ldN rfl ag46 sz46 rfl ((m.blk 1 rfl).cells0)) ((rfl : _ = Value.agg x.cs.toArray))) <| ?_
    refine hx (xh_call rfl Tryz.call13 (rloadSC hD (by omega)) [] rfl [0] rfl ?_)
    rintro _ _ _ ⟨rfl, rfl, rfl⟩
    refine hy (fun _ => y_move rfl) <| hy (fun _ => y_extract rfl rfl) <| hy (fun _ => y_extract rfl rfl) <| ?_
    refine hx (xh_alloc ti51 (fun g7 => ?_))
    refine hx0 (xh_stA 0 rfl rfl rfl sz51 (Sup.cs_len hw) Sup.cs_one rfl ?_)
    refine hy (fun _ => y_assign rfl) <| hend <| hsub (ρ' := [(8, _), (7, _), (13, _), (6, _), (5, _), (4, _), (2, _), (0, _), (1, _)]) ⟨rfl, rfl, rfl, rfl, rfl, rfl, rfl, rfl, rfl, trivial⟩ <| hmemQ (X' := [_, _, _]) (S' := [_]) (fun _ m => m) <| hthen <| hseq <| hseq <| hreg <| hy (fun _ => y_move rfl) <| hy (fun _ => y_neq rfl rfl) <| hend <| hsub (ρ' := [(21, _), (8, _), (7, _), (13, _), (6, _), (5, _), (4, _), (2, _), (0, _), (1, _)]) ⟨rfl, rfl, rfl, rfl, rfl, rfl, rfl, rfl, rfl, rfl, trivial⟩ <| hthen <| ?_
    refine hif rfl (fun h1 => ?_) (fun h1 => ?_)
    · rw [show x.d.stageS bb = (x.d, 0, x.d.loadS.2) by rw [RD.stageS, if_neg h00, if_pos h1]]
      refine hseq <| hreg <| hy (fun m => yV (y_ldN rfl ag46 sz46 rfl ((m.blk 2 rfl).cells0)) ((rfl : _ = Value.agg x.cs.toArray))) <| hy (fun _ => y_move rfl) <| ?_
      refine hx0 (xh_stA 1 rfl rfl rfl sz46 rfl cs_one rfl ?_)
      refine hy (fun _ => y_assign rfl) <| hy (fun _ => y_assign rfl) <| hend <| hsub (ρ' := [(6, _), (5, _), (21, _), (8, _), (7, _), (13, _), (4, _), (2, _), (0, _), (1, _)]) ⟨rfl, rfl, rfl, rfl, rfl, rfl, rfl, rfl, rfl, rfl, trivial⟩ <| hmemQ (X' := [_, _, _]) (S' := [_]) (fun _ m => m) <| hthen <| hret <| hthen_ret <| ?_
      exact hretN11 trivial rfl rfl rfl rfl ag46 sz46 rfl (fun m => (m.blk 0 rfl).cells0) [] rfl [0] rfl ⟨x, rfl, rfl, rfl, rfl⟩
    · have hm := RD.loadS_may (Decidable.not_not.1 h1)
      obtain ⟨ho, ho2, ha, ha2⟩ := Sup.may_other hm
      have hs := Sup.at_wf hw x.d.loadS.1.other
      refine hcskip <| hthen <| hseq <| hreg <| hy (fun _ => y_fld rfl fa51_0 (by decide)) <| hy (fun m => y_ld1 rfl ag3 ((m.blk 0 rfl).cells0 0 _ sup0)) <| hy (fun _ => yV (y_sub rfl rfl (w64 (by omega) (by omega))) ((show Value.int .i64 (1 - x.d.loadS.1.active) = .int .i64 (x.d.loadS.1.other : Nat) by rw [ho2]))) <| hy (fun _ => y_assign rfl) <| hend <| hsub (ρ' := [(9, _), (21, _), (8, _), (7, _), (13, _), (6, _), (5, _), (4, _), (2, _), (0, _), (1, _)]) ⟨rfl, rfl, rfl, rfl, rfl, rfl, rfl, rfl, rfl, rfl, rfl, trivial⟩ <| hthen <| hseq <| hreg <| hy (fun m => yV (y_ldN rfl ag51 sz51 (Sup.cs_len hw) ((m.blk 0 rfl).cells0)) ((rfl : _ = Value.agg x.d.loadS.1.cs.toArray))) <| hy (fun _ => y_move rfl) <| ?_
      refine hx (xh_call rfl Tryz.call126 (rofSC hw ho) [] rfl [] rfl ?_)
      rintro _ _ _ ⟨rfl, rfl, rfl⟩
      refine hx (xh_alloc ti49 (fun g10 => ?_))
      refine hx0 (xh_stA 0 rfl rfl rfl sz49 (Sl.cs_len hs) Sl.cs_one rfl ?_)
      refine hend <| hsub (ρ' := [(10, _), (9, _), (21, _), (8, _), (7, _), (13, _), (6, _), (5, _), (4, _), (2, _), (0, _), (1, _)]) ⟨rfl, rfl, rfl, rfl, rfl, rfl, rfl, rfl, rfl, rfl, rfl, rfl, trivial⟩ <| hmemQ (X' := [_, _, _, _]) (S' := [_]) (fun _ m => m) <| hthen <| hseq <| hseq <| hreg <| hy (fun _ => y_fld rfl fa49_0 (by decide)) <| hy (fun m => y_ld1 rfl ag4 ((m.blk 0 rfl).cells0 0 _ sl0)) <| hend <| hsub (ρ' := [(31, _), (10, _), (9, _), (21, _), (8, _), (7, _), (13, _), (6, _), (5, _), (4, _), (2, _), (0, _), (1, _)]) ⟨rfl, rfl, rfl, rfl, rfl, rfl, rfl, rfl, rfl, rfl, rfl, rfl, rfl, trivial⟩ <| hthen <| ?_
      refine hifb rfl (fun hf => ?_) (fun hf => ?_)
      · have hfw := Sup.put_wf hw (i := x.d.loadS.1.other) Sl.zero_wf
        have hfm : (x.d.loadS.1.put x.d.loadS.1.other Sl.zero).may := Sup.may_put hm (by decide)
        have hsv : x.d.saveSup (x.d.loadS.1.put x.d.loadS.1.other Sl.zero) = x.d.saveS nNew nSup (x.d.loadS.1.put x.d.loadS.1.other Sl.zero).bytes := if_pos hfm
        refine hdrw [4, 5, 9] [(0, some 1), (1, some 0), (2, some 0), (3, some 0), (4, none), (5, none), (6, some 2), (7, some 2), (8, some 3), (9, none), (10, some 3)] (by kernel_rfl) (by kernel_rfl) rfl 2 <| hty (fun m => yV (y_ldN rfl ag46 sz46 rfl ((m.blk 3 rfl).cells0)) ((rfl : _ = Value.agg x.cs.toArray))) <| hty (fun m => yV (y_ldN rfl ag51 sz51 (Sup.cs_len hw) ((m.blk 1 rfl).cells0)) ((rfl : _ = Value.agg x.d.loadS.1.cs.toArray))) <| htyU (y_move rfl) <| htyU (yV (y_build0 ti49 rfl (by kernel_rfl)) ((rfl : _ = Value.agg Sl.zero.cs.toArray))) <| ?_
        refine htx (xh_call rfl Tryz.call123 (rwithSC hw ho Sl.zero_wf) [] rfl [] rfl ?_)
        rintro _ _ _ ⟨rfl, rfl, rfl⟩
        refine ⟨(fun _ => wk [0, 0, 0, 0] [0] rfl rfl), ?_⟩
        refine htx (xh_call rfl Tryz.call50 (rsaveSC hfw hfm hD (by omega)) [] rfl [0] rfl ?_)
        rintro _ _ _ ⟨y, rfl, rfl, rfl, hdv⟩
        refine ⟨(fun _ => wk [0, 0, 0, 0] [1] rfl rfl), ?_⟩
        refine htyU (y_move rfl) <| htyU (y_extract rfl rfl) <| htyU (y_extract rfl rfl) <| ?_
        refine htx0 (xh_stA 3 rfl rfl rfl sz46 rfl cs_one rfl ⟨(fun h => absurd h (by decide)), ?_⟩)
        rw [stage_full h00 h1 hf]
        rw [← hsv] at hdv ⊢
        refine htyU (y_assign rfl) <| htend <| hsub (ρ' := [(8, _), (31, _), (10, _), (9, _), (21, _), (7, _), (13, _), (6, _), (5, _), (4, _), (2, _), (0, _), (1, _)]) ⟨rfl, rfl, rfl, rfl, rfl, rfl, rfl, rfl, rfl, rfl, rfl, rfl, rfl, trivial⟩ <| hmemQ (X' := [_, _, _, _]) (S' := [_, _]) (fun _ m => m) <| hthen <| hseq <| hseq <| hreg <| hy (fun _ => y_move rfl) <| hy (fun _ => y_eql rfl rfl) <| hend <| hsub (ρ' := [(42, _), (8, _), (31, _), (10, _), (9, _), (21, _), (7, _), (13, _), (6, _), (5, _), (4, _), (2, _), (0, _), (1, _)]) ⟨rfl, rfl, rfl, rfl, rfl, rfl, rfl, rfl, rfl, rfl, rfl, rfl, rfl, rfl, trivial⟩ <| hthen <| ?_
        refine hif rfl (fun hv0 => ?_) (fun hv0 => ?_)
        · rw [if_neg (by rw [hv0]; decide)]
          have ok1 : y.d.ok (kk + 2) := by rw [hdv, hsv]; exact saveS_ok hD (by rw [Sup.bytes_len hfw]; decide)
          rw [← hdv]
          have okw := (ok1).rok
          have ok2 := (ok1).write (p := nSlot x.d.loadS.1.other) (l := bb) (by omega)
          have okr2 := ok2.rok
          refine hdrw [2, 4, 8] [(0, some 1), (1, some 0), (3, some 1), (2, none), (4, none), (5, some 2), (6, some 2), (7, some 3), (8, none), (9, some 3)] (by kernel_rfl) (by kernel_rfl) rfl 2 <| hty (fun m => yV (y_ldN rfl ag46 sz46 rfl ((m.blk 0 rfl).cells0)) ((rfl : _ = Value.agg y.cs.toArray))) <| htyU (y_move rfl) <| htyU (y_move rfl) <| ?_
          refine htx (xh_call rfl Tryz.call121 (rfileSC ho) [] rfl [] rfl ?_)
          rintro _ _ _ ⟨rfl, rfl, rfl⟩
          refine ⟨(fun _ => wk [0, 0, 0, 0] [0, 1] rfl rfl), ?_⟩
          refine htx (xh_call rfl Tryz.call40 (rwriteX okw (by omega) (by unfold nSlot; split <;> decide) hbb (p := (nSlot x.d.loadS.1.other)) (bb := bb)) [] rfl [0] rfl ?_)
          rintro _ _ _ ⟨y2, rfl, rfl, rfl, hdw⟩
          refine ⟨(fun _ => wk [0, 0, 0, 0] [1, 2] rfl rfl), ?_⟩
          refine htyU (y_move rfl) <| htyU (y_extract rfl rfl) <| htyU (y_extract rfl rfl) <| ?_
          refine htx0 (xh_stA 0 rfl rfl rfl sz46 rfl cs_one rfl ⟨(fun h => absurd h (by decide)), ?_⟩)
          refine htyU (y_assign rfl) <| htend <| hsub (ρ' := [(8, _), (42, _), (31, _), (10, _), (9, _), (21, _), (7, _), (13, _), (6, _), (5, _), (4, _), (2, _), (0, _), (1, _)]) ⟨rfl, rfl, rfl, rfl, rfl, rfl, rfl, rfl, rfl, rfl, rfl, rfl, rfl, rfl, trivial⟩ <| hmemQ (X' := [_, _, _, _]) (S' := [_, _, _]) (fun _ m => m) <| hthen <| hseq <| hseq <| hreg <| hy (fun _ => y_move rfl) <| hy (fun _ => y_eql rfl rfl) <| hend <| hsub (ρ' := [(52, _), (8, _), (42, _), (31, _), (10, _), (9, _), (21, _), (7, _), (13, _), (6, _), (5, _), (4, _), (2, _), (0, _), (1, _)]) ⟨rfl, rfl, rfl, rfl, rfl, rfl, rfl, rfl, rfl, rfl, rfl, rfl, rfl, rfl, rfl, trivial⟩ <| hthen <| ?_
          refine hif rfl (fun hw0 => ?_) (fun hw0 => ?_)
          · refine hreg <| hy (fun m => yV (y_ldN rfl ag46 sz46 rfl ((m.blk 0 rfl).cells0)) ((rfl : _ = Value.agg y2.cs.toArray))) <| ?_
            refine hx (xh_call rfl Tryz.call102 (rsyncX (by rw [hdw]; exact okr2)) [] rfl [0] rfl ?_)
            rintro _ _ _ ⟨y3, rfl, rfl, rfl, hds⟩
            refine hy (fun _ => y_move rfl) <| hy (fun _ => y_extract rfl rfl) <| hy (fun _ => y_extract rfl rfl) <| ?_
            refine hx0 (xh_stA 0 rfl rfl rfl sz46 rfl cs_one rfl ?_)
            refine hy (fun _ => y_assign rfl) <| hend <| hsub (ρ' := [(8, _), (52, _), (42, _), (31, _), (10, _), (9, _), (21, _), (7, _), (13, _), (6, _), (5, _), (4, _), (2, _), (0, _), (1, _)]) ⟨rfl, rfl, rfl, rfl, rfl, rfl, rfl, rfl, rfl, rfl, rfl, rfl, rfl, rfl, rfl, trivial⟩ <| hmemQ (X' := [_, _, _, _]) (S' := [_, _, _, _]) (fun _ m => m) <| hthen <| hseq <| hseq <| hreg <| hy (fun _ => y_move rfl) <| hy (fun _ => y_neq rfl rfl) <| hend <| hsub (ρ' := [(59, _), (8, _), (52, _), (42, _), (31, _), (10, _), (9, _), (21, _), (7, _), (13, _), (6, _), (5, _), (4, _), (2, _), (0, _), (1, _)]) ⟨rfl, rfl, rfl, rfl, rfl, rfl, rfl, rfl, rfl, rfl, rfl, rfl, rfl, rfl, rfl, rfl, trivial⟩ <| hthen <| ?_
            rw [hdw] at hds ⊢
            refine hif rfl (fun hs0 => ?_) (fun hs0 => ?_)
            · rw [RD.stage2, if_neg (by rw [hw0]; decide), if_pos hs0]
              refine hseq <| hreg <| hy (fun m => yV (y_ldN rfl ag46 sz46 rfl ((m.blk 0 rfl).cells0)) ((rfl : _ = Value.agg y3.cs.toArray))) <| hy (fun _ => y_move rfl) <| ?_
              refine hx0 (xh_stA 3 rfl rfl rfl sz46 rfl cs_one rfl ?_)
              refine hy (fun _ => y_assign rfl) <| hy (fun _ => y_assign rfl) <| hend <| hsub (ρ' := [(6, _), (5, _), (59, _), (8, _), (52, _), (42, _), (31, _), (10, _), (9, _), (21, _), (7, _), (13, _), (4, _), (2, _), (0, _), (1, _)]) ⟨rfl, rfl, rfl, rfl, rfl, rfl, rfl, rfl, rfl, rfl, rfl, rfl, rfl, rfl, rfl, rfl, trivial⟩ <| hmemQ (X' := [_, _, _, _]) (S' := [_, _, _, _]) (fun _ m => m) <| hthen <| hret <| hthen_ret <| ?_
              exact hretN11 trivial rfl rfl rfl rfl ag46 sz46 rfl (fun m => (m.blk 0 rfl).cells0) [] rfl [0] rfl ⟨y3, rfl, rfl, rfl, (by rw [hds]; exact nosync hs0)⟩
            · rw [RD.stage2, if_neg (by rw [hw0]; decide), if_neg hs0]
              refine hcskip <| hthen <| hseq <| hreg <| hy (fun m => yV (y_ldN rfl ag46 sz46 rfl ((m.blk 0 rfl).cells0)) ((rfl : _ = Value.agg y3.cs.toArray))) <| hy (fun _ => y_move rfl) <| ?_
              refine hx0 (xh_stA 3 rfl rfl rfl sz46 rfl cs_one rfl ?_)
              refine hy (fun _ => y_assign rfl) <| hy (fun _ => y_assign rfl) <| hend <| hsub (ρ' := [(6, _), (5, _), (59, _), (8, _), (52, _), (42, _), (31, _), (10, _), (9, _), (21, _), (7, _), (13, _), (4, _), (2, _), (0, _), (1, _)]) ⟨rfl, rfl, rfl, rfl, rfl, rfl, rfl, rfl, rfl, rfl, rfl, rfl, rfl, rfl, rfl, rfl, trivial⟩ <| hmemQ (X' := [_, _, _, _]) (S' := [_, _, _, _]) (fun _ m => m) <| hthen <| hret <| ?_
              exact hretN11 trivial rfl rfl rfl rfl ag46 sz46 rfl (fun m => (m.blk 0 rfl).cells0) [] rfl [0] rfl ⟨y3, rfl, rfl, rfl, hds⟩
          · rw [RD.stage2, if_pos hw0]
            refine hcskip <| hthen <| hseq <| hseq <| hreg <| hy (fun _ => y_move rfl) <| hy (fun _ => y_neq rfl rfl) <| hend <| hsub (ρ' := [(59, _), (52, _), (8, _), (42, _), (31, _), (10, _), (9, _), (21, _), (7, _), (13, _), (6, _), (5, _), (4, _), (2, _), (0, _), (1, _)]) ⟨rfl, rfl, rfl, rfl, rfl, rfl, rfl, rfl, rfl, rfl, rfl, rfl, rfl, rfl, rfl, rfl, trivial⟩ <| hthen <| ?_
            refine hift rfl ((decide_eq_true hw0)) ?_
            refine hseq <| hreg <| hy (fun m => yV (y_ldN rfl ag46 sz46 rfl ((m.blk 0 rfl).cells0)) ((rfl : _ = Value.agg y2.cs.toArray))) <| hy (fun _ => y_move rfl) <| ?_
            refine hx0 (xh_stA 3 rfl rfl rfl sz46 rfl cs_one rfl ?_)
            refine hy (fun _ => y_assign rfl) <| hy (fun _ => y_assign rfl) <| hend <| hsub (ρ' := [(6, _), (5, _), (59, _), (52, _), (8, _), (42, _), (31, _), (10, _), (9, _), (21, _), (7, _), (13, _), (4, _), (2, _), (0, _), (1, _)]) ⟨rfl, rfl, rfl, rfl, rfl, rfl, rfl, rfl, rfl, rfl, rfl, rfl, rfl, rfl, rfl, rfl, trivial⟩ <| hmemQ (X' := [_, _, _, _]) (S' := [_, _, _]) (fun _ m => m) <| hthen <| hret <| hthen_ret <| ?_
            exact hretN11 trivial rfl rfl rfl rfl ag46 sz46 rfl (fun m => (m.blk 0 rfl).cells0) [] rfl [0] rfl ⟨y2, rfl, rfl, rfl, (by rw [hdw]; exact nowrite hw0)⟩
        · rw [if_pos hv0]
          refine hcskip <| hthen <| hseq <| hseq <| hreg <| hy (fun _ => y_move rfl) <| hy (fun _ => y_eql rfl rfl) <| hend <| hsub (ρ' := [(52, _), (42, _), (8, _), (31, _), (10, _), (9, _), (21, _), (7, _), (13, _), (6, _), (5, _), (4, _), (2, _), (0, _), (1, _)]) ⟨rfl, rfl, rfl, rfl, rfl, rfl, rfl, rfl, rfl, rfl, rfl, rfl, rfl, rfl, rfl, trivial⟩ <| hthen <| ?_
          refine hiff rfl ((decide_eq_false hv0)) ?_
          refine hcskip <| hthen <| hseq <| hseq <| hreg <| hy (fun _ => y_move rfl) <| hy (fun _ => y_neq rfl rfl) <| hend <| hsub (ρ' := [(59, _), (52, _), (42, _), (8, _), (31, _), (10, _), (9, _), (21, _), (7, _), (13, _), (6, _), (5, _), (4, _), (2, _), (0, _), (1, _)]) ⟨rfl, rfl, rfl, rfl, rfl, rfl, rfl, rfl, rfl, rfl, rfl, rfl, rfl, rfl, rfl, rfl, trivial⟩ <| hthen <| ?_
          refine hift rfl ((decide_eq_true hv0)) ?_
          refine hseq <| hreg <| hy (fun m => yV (y_ldN rfl ag46 sz46 rfl ((m.blk 0 rfl).cells0)) ((rfl : _ = Value.agg y.cs.toArray))) <| hy (fun _ => y_move rfl) <| ?_
          refine hx0 (xh_stA 3 rfl rfl rfl sz46 rfl cs_one rfl ?_)
          refine hy (fun _ => y_assign rfl) <| hy (fun _ => y_assign rfl) <| hend <| hsub (ρ' := [(6, _), (5, _), (59, _), (52, _), (42, _), (8, _), (31, _), (10, _), (9, _), (21, _), (7, _), (13, _), (4, _), (2, _), (0, _), (1, _)]) ⟨rfl, rfl, rfl, rfl, rfl, rfl, rfl, rfl, rfl, rfl, rfl, rfl, rfl, rfl, rfl, rfl, trivial⟩ <| hmemQ (X' := [_, _, _, _]) (S' := [_, _]) (fun _ m => m) <| hthen <| hret <| hthen_ret <| ?_
          exact hretN11 trivial rfl rfl rfl rfl ag46 sz46 rfl (fun m => (m.blk 0 rfl).cells0) [] rfl [0] rfl ⟨y, rfl, rfl, rfl, hdv⟩
      · rw [stage_free h00 h1 hf]
        refine hcskip <| hthen <| hseq <| hseq <| hreg <| hy (fun _ => y_move rfl) <| hy (fun _ => y_eql rfl rfl) <| hend <| hsub (ρ' := [(42, _), (31, _), (10, _), (9, _), (21, _), (8, _), (7, _), (13, _), (6, _), (5, _), (4, _), (2, _), (0, _), (1, _)]) ⟨rfl, rfl, rfl, rfl, rfl, rfl, rfl, rfl, rfl, rfl, rfl, rfl, rfl, rfl, trivial⟩ <| hthen <| ?_
        refine hift rfl ((decide_eq_true (Decidable.not_not.1 h1))) ?_
        have okw := (hD).rok
        have ok2 := (hD).write (p := nSlot x.d.loadS.1.other) (l := bb) (by omega)
        have okr2 := ok2.rok
        refine hdrw [2, 4, 8] [(0, some 1), (1, some 0), (3, some 1), (2, none), (4, none), (5, some 2), (6, some 2), (7, some 3), (8, none), (9, some 3)] (by kernel_rfl) (by kernel_rfl) rfl 2 <| hty (fun m => yV (y_ldN rfl ag46 sz46 rfl ((m.blk 3 rfl).cells0)) ((rfl : _ = Value.agg x.cs.toArray))) <| htyU (y_move rfl) <| htyU (y_move rfl) <| ?_
        refine htx (xh_call rfl Tryz.call121 (rfileSC ho) [] rfl [] rfl ?_)
        rintro _ _ _ ⟨rfl, rfl, rfl⟩
        refine ⟨(fun _ => wk [0, 0, 0, 0] [0] rfl rfl), ?_⟩
        refine htx (xh_call rfl Tryz.call40 (rwriteX okw (by omega) (by unfold nSlot; split <;> decide) hbb (p := (nSlot x.d.loadS.1.other)) (bb := bb)) [] rfl [0] rfl ?_)
        rintro _ _ _ ⟨y, rfl, rfl, rfl, hdw⟩
        refine ⟨(fun _ => wk [0, 0, 0, 0] [1] rfl rfl), ?_⟩
        refine htyU (y_move rfl) <| htyU (y_extract rfl rfl) <| htyU (y_extract rfl rfl) <| ?_
        refine htx0 (xh_stA 3 rfl rfl rfl sz46 rfl cs_one rfl ⟨(fun h => absurd h (by decide)), ?_⟩)
        refine htyU (y_assign rfl) <| htend <| hsub (ρ' := [(8, _), (42, _), (31, _), (10, _), (9, _), (21, _), (7, _), (13, _), (6, _), (5, _), (4, _), (2, _), (0, _), (1, _)]) ⟨rfl, rfl, rfl, rfl, rfl, rfl, rfl, rfl, rfl, rfl, rfl, rfl, rfl, rfl, trivial⟩ <| hmemQ (X' := [_, _, _, _]) (S' := [_, _]) (fun _ m => m) <| hthen <| hseq <| hseq <| hreg <| hy (fun _ => y_move rfl) <| hy (fun _ => y_eql rfl rfl) <| hend <| hsub (ρ' := [(52, _), (8, _), (42, _), (31, _), (10, _), (9, _), (21, _), (7, _), (13, _), (6, _), (5, _), (4, _), (2, _), (0, _), (1, _)]) ⟨rfl, rfl, rfl, rfl, rfl, rfl, rfl, rfl, rfl, rfl, rfl, rfl, rfl, rfl, rfl, trivial⟩ <| hthen <| ?_
        refine hif rfl (fun hw0 => ?_) (fun hw0 => ?_)
        · refine hreg <| hy (fun m => yV (y_ldN rfl ag46 sz46 rfl ((m.blk 0 rfl).cells0)) ((rfl : _ = Value.agg y.cs.toArray))) <| ?_
          refine hx (xh_call rfl Tryz.call102 (rsyncX (by rw [hdw]; exact okr2)) [] rfl [0] rfl ?_)
          rintro _ _ _ ⟨y2, rfl, rfl, rfl, hds⟩
          refine hy (fun _ => y_move rfl) <| hy (fun _ => y_extract rfl rfl) <| hy (fun _ => y_extract rfl rfl) <| ?_
          refine hx0 (xh_stA 0 rfl rfl rfl sz46 rfl cs_one rfl ?_)
          refine hy (fun _ => y_assign rfl) <| hend <| hsub (ρ' := [(8, _), (52, _), (42, _), (31, _), (10, _), (9, _), (21, _), (7, _), (13, _), (6, _), (5, _), (4, _), (2, _), (0, _), (1, _)]) ⟨rfl, rfl, rfl, rfl, rfl, rfl, rfl, rfl, rfl, rfl, rfl, rfl, rfl, rfl, rfl, trivial⟩ <| hmemQ (X' := [_, _, _, _]) (S' := [_, _, _]) (fun _ m => m) <| hthen <| hseq <| hseq <| hreg <| hy (fun _ => y_move rfl) <| hy (fun _ => y_neq rfl rfl) <| hend <| hsub (ρ' := [(59, _), (8, _), (52, _), (42, _), (31, _), (10, _), (9, _), (21, _), (7, _), (13, _), (6, _), (5, _), (4, _), (2, _), (0, _), (1, _)]) ⟨rfl, rfl, rfl, rfl, rfl, rfl, rfl, rfl, rfl, rfl, rfl, rfl, rfl, rfl, rfl, rfl, trivial⟩ <| hthen <| ?_
          rw [hdw] at hds ⊢
          refine hif rfl (fun hs0 => ?_) (fun hs0 => ?_)
          · rw [RD.stage2, if_neg (by rw [hw0]; decide), if_pos hs0]
            refine hseq <| hreg <| hy (fun m => yV (y_ldN rfl ag46 sz46 rfl ((m.blk 0 rfl).cells0)) ((rfl : _ = Value.agg y2.cs.toArray))) <| hy (fun _ => y_move rfl) <| ?_
            refine hx0 (xh_stA 3 rfl rfl rfl sz46 rfl cs_one rfl ?_)
            refine hy (fun _ => y_assign rfl) <| hy (fun _ => y_assign rfl) <| hend <| hsub (ρ' := [(6, _), (5, _), (59, _), (8, _), (52, _), (42, _), (31, _), (10, _), (9, _), (21, _), (7, _), (13, _), (4, _), (2, _), (0, _), (1, _)]) ⟨rfl, rfl, rfl, rfl, rfl, rfl, rfl, rfl, rfl, rfl, rfl, rfl, rfl, rfl, rfl, rfl, trivial⟩ <| hmemQ (X' := [_, _, _, _]) (S' := [_, _, _]) (fun _ m => m) <| hthen <| hret <| hthen_ret <| ?_
            exact hretN11 trivial rfl rfl rfl rfl ag46 sz46 rfl (fun m => (m.blk 0 rfl).cells0) [] rfl [0] rfl ⟨y2, rfl, rfl, rfl, (by rw [hds]; exact nosync hs0)⟩
          · rw [RD.stage2, if_neg (by rw [hw0]; decide), if_neg hs0]
            refine hcskip <| hthen <| hseq <| hreg <| hy (fun m => yV (y_ldN rfl ag46 sz46 rfl ((m.blk 0 rfl).cells0)) ((rfl : _ = Value.agg y2.cs.toArray))) <| hy (fun _ => y_move rfl) <| ?_
            refine hx0 (xh_stA 3 rfl rfl rfl sz46 rfl cs_one rfl ?_)
            refine hy (fun _ => y_assign rfl) <| hy (fun _ => y_assign rfl) <| hend <| hsub (ρ' := [(6, _), (5, _), (59, _), (8, _), (52, _), (42, _), (31, _), (10, _), (9, _), (21, _), (7, _), (13, _), (4, _), (2, _), (0, _), (1, _)]) ⟨rfl, rfl, rfl, rfl, rfl, rfl, rfl, rfl, rfl, rfl, rfl, rfl, rfl, rfl, rfl, rfl, trivial⟩ <| hmemQ (X' := [_, _, _, _]) (S' := [_, _, _]) (fun _ m => m) <| hthen <| hret <| ?_
            exact hretN11 trivial rfl rfl rfl rfl ag46 sz46 rfl (fun m => (m.blk 0 rfl).cells0) [] rfl [0] rfl ⟨y2, rfl, rfl, rfl, hds⟩
        · rw [RD.stage2, if_pos hw0]
          refine hcskip <| hthen <| hseq <| hseq <| hreg <| hy (fun _ => y_move rfl) <| hy (fun _ => y_neq rfl rfl) <| hend <| hsub (ρ' := [(59, _), (52, _), (8, _), (42, _), (31, _), (10, _), (9, _), (21, _), (7, _), (13, _), (6, _), (5, _), (4, _), (2, _), (0, _), (1, _)]) ⟨rfl, rfl, rfl, rfl, rfl, rfl, rfl, rfl, rfl, rfl, rfl, rfl, rfl, rfl, rfl, rfl, trivial⟩ <| hthen <| ?_
          refine hift rfl ((decide_eq_true hw0)) ?_
          refine hseq <| hreg <| hy (fun m => yV (y_ldN rfl ag46 sz46 rfl ((m.blk 0 rfl).cells0)) ((rfl : _ = Value.agg y.cs.toArray))) <| hy (fun _ => y_move rfl) <| ?_
          refine hx0 (xh_stA 3 rfl rfl rfl sz46 rfl cs_one rfl ?_)
          refine hy (fun _ => y_assign rfl) <| hy (fun _ => y_assign rfl) <| hend <| hsub (ρ' := [(6, _), (5, _), (59, _), (52, _), (8, _), (42, _), (31, _), (10, _), (9, _), (21, _), (7, _), (13, _), (4, _), (2, _), (0, _), (1, _)]) ⟨rfl, rfl, rfl, rfl, rfl, rfl, rfl, rfl, rfl, rfl, rfl, rfl, rfl, rfl, rfl, rfl, trivial⟩ <| hmemQ (X' := [_, _, _, _]) (S' := [_, _]) (fun _ m => m) <| hthen <| hret <| hthen_ret <| ?_
          exact hretN11 trivial rfl rfl rfl rfl ag46 sz46 rfl (fun m => (m.blk 0 rfl).cells0) [] rfl [0] rfl ⟨y, rfl, rfl, rfl, (by rw [hdw]; exact nowrite hw0)⟩
end Go.Proofs.YtfikjheicjamhaaGreatDoor
end
section
/- Contracts: law 22's begin and lives. -/
set_option linter.unusedVariables false
set_option linter.unusedSimpArgs false
set_option maxRecDepth 20000
namespace Go.Proofs.YtfikjheicjamhaaGreatDoor
open Go.Eng Go.Hx
theorem bld_w {P : Program} {pl : Nat → Option (Nat × Nat)} {A : Option Addr} {x : RX} {zs : List Value} (hz : zs.length = 6) (p0 : pl 0 = some (0, 1)) (p1 : pl 1 = some (1, 5)) :
    Bld P pl zs [(0, .pointer A), (1, .agg x.cs.toArray)] (.pointer A :: x.cs) := by
  match zs, hz with
  | [_, _, _, _, _, _], _ => exact .cons (vs := [.pointer A]) p0 rfl rfl (by show 0 + 1 ≤ 6; decide) (.cons (vs := x.cs) p1 rfl rfl (by show 1 + 5 ≤ 6; decide) .nil)
/-- the disk behind begin -/
def begun (room : Int) : RD := ((RD.new room).saveSup Sup.zero).1
theorem beginC {room : Int} (h1 : 87 ≤ room) (h2 : room ≤ 1048576) : Con Tryz.prog 8 [.int .i64 room] [] [] (fun v_ X_ S_ => ∃ gw gd st y, v_ = (.pointer (some ⟨gw, 0, none⟩)) ∧ X_ = [RBlk gw 48 (.pointer (some ⟨gd, 0, none⟩) :: y.cs), RDisk gd st] ∧ S_ = [RRef y] ∧ (DS st (begun room) 2 ∧ y.d = begun room)) := by
  obtain ⟨d', hS1, hS2⟩ := Sst.fresh h1
  have hB : begun room = d' := by rw [begun, hS1]
  have hS3 : (RD.new room).saveS nNew nSup Sup.zero.bytes = (d', 0) := by rw [← hS1, RD.saveSup, if_pos Sup.zero_may]
  refine henter (N := 32) Tryz.func8 rfl rfl (by simp) fun b => ?_
  refine hseq <| hreg <| hy (fun _ => y_assign rfl) <| hend <| hthen <| hseq <| hreg <| hy (fun _ => y_move rfl) <| ?_
  refine hx (xh_call rfl Tryz.call34 (newC (by omega) h2) [] rfl [] rfl ?_)
  rintro _ _ _ ⟨g, gs, gl, rfl, rfl, rfl⟩
  refine hy (fun _ => y_move rfl) <| hy (fun _ => y_extract rfl rfl) <| hy (fun _ => y_extract rfl rfl) <| hy (fun _ => y_assign rfl) <| hy (fun _ => y_assign rfl) <| hend <| hsub (ρ' := [(4, _), (3, _), (2, _), (0, _)]) ⟨rfl, rfl, rfl, rfl, trivial⟩ <| hmemQ (X' := [_]) (S' := []) (fun _ m => m) <| hthen <| hseq <| hseq <| hreg <| hy (fun _ => y_move rfl) <| hy (fun _ => y_eqPn rfl rfl (by kernel_rfl)) <| hy (fun _ => y_move rfl) <| ?_
  refine hyg (o := _) rfl rfl rfl (fun _ => y_move rfl) <| hyg (o := _) rfl rfl rfl (fun _ => y_neq rfl rfl) <| hy (fun _ => y_pickF rfl rfl) <| hend <| hsub (ρ' := [(17, _), (4, _), (3, _), (2, _), (0, _)]) ⟨rfl, rfl, rfl, rfl, rfl, trivial⟩ <| hthen <| ?_
  refine hiff rfl ((by decide)) ?_
  have hD0 : DS (dinit room gs gl) (RD.new room) 0 := DS.init h2
  refine hcskip <| hthen <| hseq <| hseq <| hreg <| hy (fun _ => y_move rfl) <| ?_
  refine hx (xh_call rfl Tryz.call49 (formatSC hD0 (by decide)) [0] rfl [] rfl ?_)
  rintro _ _ _ ⟨st1, rfl, rfl, rfl, hf⟩
  refine hy (fun _ => y_neq rfl rfl) <| hend <| hsub (ρ' := [(20, _), (17, _), (4, _), (3, _), (2, _), (0, _)]) ⟨rfl, rfl, rfl, rfl, rfl, rfl, trivial⟩ <| hmemQ (X' := [_]) (S' := []) (fun _ m => m) <| hthen <| ?_
  rw [hS1] at hf
  refine hiff rfl (decide_eq_false (by rw [hS1]; exact fun h => h rfl)) ?_
  have okn : (RD.new room).ok 0 := RD.ok.new h2
  refine hcskip <| hthen <| hseq <| hreg <| hy (fun _ => y_move rfl) <| ?_
  refine hx (xh_call rfl Tryz.call35 (rnewX) [] rfl [] rfl ?_)
  rintro _ _ _ ⟨y, rfl, rfl, rfl, hy1⟩
  refine hy (fun _ => yV (y_build0 ti51 rfl (by kernel_rfl)) ((rfl : _ = Value.agg Sup.zero.cs.toArray))) <| ?_
  refine hx (xh_call rfl Tryz.call50 (rsaveSC Sup.zero_wf Sup.zero_may (by rw [hy1]; exact okn) (by decide) (s := Sup.zero)) [] rfl [0] rfl ?_)
  rintro _ _ _ ⟨y2, rfl, rfl, rfl, hy2⟩
  refine hy (fun _ => y_move rfl) <| hy (fun _ => y_extract rfl rfl) <| hy (fun _ => y_extract rfl rfl) <| ?_
  refine hx (xh_alloc ti46 (fun g5 => ?_))
  rw [hy1, hS3] at hy2
  refine hx0 (xh_stA 0 rfl rfl rfl sz46 rfl cs_one rfl ?_)
  refine hy (fun _ => y_assign rfl) <| hend <| hsub (ρ' := [(5, _), (20, _), (17, _), (4, _), (3, _), (2, _), (0, _)]) ⟨rfl, rfl, rfl, rfl, rfl, rfl, rfl, trivial⟩ <| hmemQ (X' := [_, _]) (S' := [_, _]) (fun _ m => m) <| hthen <| hseq <| hreg <| hy (fun _ => y_move rfl) <| hy (fun m => yV (y_ldN rfl ag46 sz46 rfl ((m.blk 0 rfl).cells0)) ((rfl : _ = Value.agg y2.cs.toArray))) <| hy (fun _ => y_build ti48 rfl rfl (by kernel_rfl) (bld_w rfl pl48_0 pl48_1)) <| ?_
  refine hx (xh_box rfl (fun g31 => ?_))
  refine hmemL (fun w m => m.eqX 0 rfl (show _ = RBlk g31 48 (.pointer (some ⟨g, 0, none⟩) :: y2.cs) from congrArg (RBlk _ _) (cells_agg _))) ?_
  refine hy (fun _ => y_assign rfl) <| hend <| hsub (ρ' := [(2, _), (5, _), (20, _), (17, _), (4, _), (3, _), (0, _)]) ⟨rfl, rfl, rfl, rfl, rfl, rfl, rfl, trivial⟩ <| hmemQ (X' := [_, _, _]) (S' := [_, _]) (fun _ m => m) <| hthen <| hret <| ?_
  exact hret1 trivial rfl rfl [0, 1] rfl [0] rfl ⟨g31, g, st1, y2, rfl, rfl, rfl, ⟨by rw [hB]; exact hf, by rw [hB]; exact hy2⟩⟩
end Go.Proofs.YtfikjheicjamhaaGreatDoor
end
section
/- What law 22's lives sees. No program. -/
set_option linter.unusedVariables false
set_option linter.unusedSimpArgs false
namespace Go.Proofs.YtfikjheicjamhaaGreatDoor
open Go.Eng Go.Hx
def bnew : List UInt8 := [110, 101, 119]
theorem begun_sst {room : Int} (hr : 87 ≤ room) : Sst ((RD.new room).saveSup Sup.zero).1 Sup.zero (fun _ => none) 87 room := by
  obtain ⟨d', h1, h2⟩ := Sst.fresh hr
  rw [h1]; exact h2
theorem Sst.readSup {d : RD} {s : Sup} {f : Nat → Option (List UInt8)} {T : Nat} {room : Int} (h : Sst d s f T room) : d.readE nSup = 0 ∧ d.readB nSup = s.bytes := by
  obtain ⟨F, ha, h1, h2⟩ := h.at_
  exact ⟨by rw [ha.readE, if_neg (by rw [h1]; simp)], by rw [ha.readB, h1]; rfl⟩
theorem freed_zero : Sup.freed Sup.zero = Sup.zero := rfl
/-- behind a Stage and a Flip, Active gives what was staged -/
theorem flipped_active {d : RD} {s : Sup} {f : Nat → Option (List UInt8)} {T : Nat} {room : Int} {q im : List UInt8} (hm : s.may) (hq : f s.other = some q) (hs : shaL q = im) (h : Sst d (Sup.flipped s im q.length) f T room) : d.activeS = (q, 0) := by
  obtain ⟨ho, ho2, ha, ha2⟩ := Sup.may_other hm
  have e : (Sup.flipped s im q.length).active.toNat = s.other := by
    show (1 - (s.put s.other ⟨true, im, (q.length : Int)⟩).active).toNat = s.other
    rw [(put_gen _ _ _).2]; rfl
  have ea : (Sup.flipped s im q.length).at s.other = ⟨true, im, (q.length : Int)⟩ := by
    show (s.put s.other ⟨true, im, (q.length : Int)⟩).at s.other = _
    rw [put_at ho ho, if_pos rfl]
  rw [h.active, e]
  exact h.image ho (by rw [ea]) hq (by rw [ea]) (by rw [ea]; exact hs)
end Go.Proofs.YtfikjheicjamhaaGreatDoor
end
section
/- Contract: law 22's lives. -/
set_option linter.unusedVariables false
set_option linter.unusedSimpArgs false
set_option maxRecDepth 20000
namespace Go.Proofs.YtfikjheicjamhaaGreatDoor
open Go.Eng Go.Hx
theorem lives22C  : Con Tryz.prog 17 [] [] [RRoots] (fun v_ X_ S_ => v_ = (.bool true) ∧ X_ = [] ∧ S_ = []) := by
  have hs0 := begun_sst (room := 1000) (by decide)
  obtain ⟨d1, e1, hs1⟩ := hs0.stage (bb := bnew) (by decide) (by decide)
  rw [freed_zero] at hs1
  have hq1 : fset (fun _ => none) Sup.zero.other bnew Sup.zero.other = some bnew := rfl
  obtain ⟨d2, e2, hs2⟩ := hs1.flip (q := bnew) (im := shaL bnew) hq1 (by decide) rfl (by decide) (by decide)
  have ha := flipped_active Sup.zero_may hq1 rfl hs2
  have hb0 : begun 1000 = ((RD.new 1000).saveSup Sup.zero).1 := rfl
  rw [← hb0] at hs0 e1
  obtain ⟨r1, r2⟩ := hs0.readSup
  generalize hbe : begun 1000 = d0 at hb0 hs0 e1 r1 r2
  refine henter (N := 82) Tryz.func17 rfl rfl (by simp) fun b => ?_
  refine hseq <| hreg <| hy (fun _ => y_assign rfl) <| hend <| hthen <| hseq <| hreg <| ?_
  refine hx (xh_call rfl Tryz.call8 (beginC (by decide) (by decide)) [] rfl [] rfl ?_)
  rintro _ _ _ ⟨gw, gd, st, y, rfl, rfl, rfl, hg⟩
  refine hy (fun _ => y_assign rfl) <| hend <| hsub (ρ' := [(1, _), (0, _)]) ⟨rfl, rfl, trivial⟩ <| hmemQ (X' := [_, _]) (S' := [_, _]) (fun _ m => m) <| hthen <| hseq <| hseq <| hreg <| hy (fun _ => y_move rfl) <| hy (fun _ => y_eqPn rfl rfl (by kernel_rfl)) <| hend <| hsub (ρ' := [(12, _), (1, _), (0, _)]) ⟨rfl, rfl, rfl, trivial⟩ <| hthen <| ?_
  refine hiff rfl (rfl) ?_
  obtain ⟨hD0, hy0⟩ := hg
  rw [hbe] at hD0
  refine hcskip <| hthen <| hseq <| hreg <| hy (fun _ => y_move rfl) <| hy (fun _ => y_nilp rfl) <| hy (fun _ => y_fld rfl fa48_0 (by decide)) <| hy (fun m => y_ld1 rfl ag42 (ld_blk (m.blk 0 rfl) (i := 0) rfl)) <| ?_
  refine hx (xh_call rfl Tryz.call63 (dreadC hD0 (p := nSup)) [1] rfl [] rfl ?_)
  rintro _ _ _ ⟨v, rfl, rfl, rfl⟩
  refine hfactL (fun m => (m.own 1 rfl).slice) ?_
  rintro ⟨A_x, c_x, rfl, hc_x⟩
  refine hfactL (fun m => (m.ord 1 rfl).2.1) fun hA_x => ?_
  refine hy (fun _ => y_move rfl) <| hy (fun _ => y_extract rfl rfl) <| hy (fun _ => y_extract rfl rfl) <| hy (fun _ => y_assign rfl) <| hy (fun _ => y_assign rfl) <| hend <| hsub (ρ' := [(3, _), (2, _), (12, _), (1, _), (0, _)]) ⟨rfl, rfl, rfl, rfl, rfl, trivial⟩ <| hmemQ (X' := [_, _, _]) (S' := [_, _]) (fun _ m => m) <| hthen <| hseq <| hreg <| hy (fun _ => y_move rfl) <| hy (fun _ => y_nilp rfl) <| hy (fun _ => y_fld rfl fa48_0 (by decide)) <| hy (fun m => y_ld1 rfl ag42 (ld_blk (m.blk 2 rfl) (i := 0) rfl)) <| ?_
  refine hx (xh_bsl Tryz.underlying27 ti5 rfl rfl rfl (by simp [Value.cells, B8]) (by decide) (by decide) (fun g26 => ?_))
  have hA_b26 : 0 < 3 → (some (⟨g26, 0, none⟩ : Addr)) ≠ none := fun _ h => by cases h
  refine hx (xh_cvS 0 rfl rfl Tryz.underlying27 Tryz.underlying5 ?_)
  rw [r2, Sup.bytes_len Sup.zero_wf]
  refine hmemL (fun w m => m.eqX 0 rfl (show _ = ROwn 5 1 (.slice (some ⟨g26, 0, none⟩) 3 3) 3 (b8s bnew) from rfl)) ?_
  refine hx (xh_calll rfl Tryz.call60 (stageSC rfl hD0 (by decide) (bb := bnew)) [1] rfl (.x 0 rfl .own .nil) ?_)
  rintro _ _ _ ⟨st1, rfl, rfl, rfl, hD1⟩
  refine ⟨rfl, ?_⟩
  refine hy (fun _ => y_move rfl) <| hy (fun _ => y_extract rfl rfl) <| hy (fun _ => y_extract rfl rfl) <| hy (fun _ => y_assign rfl) <| hy (fun _ => y_assign rfl) <| hend <| hsub (ρ' := [(5, _), (4, _), (3, _), (2, _), (12, _), (1, _), (0, _)]) ⟨rfl, rfl, rfl, rfl, rfl, rfl, rfl, trivial⟩ <| hmemQ (X' := [_, _, _, _]) (S' := [_, _]) (fun _ m => m) <| hthen <| hseq <| hdrwB [1, 1, 1] [0, 1] rfl rfl [4, 5, 6, 7] [(0, some 3), (1, some 3), (2, some 3), (3, some 3), (4, none), (5, none), (6, none), (7, none), (8, some 4), (9, some 4), (10, some 4), (11, some 4), (12, some 4)] (by kernel_rfl) (by kernel_rfl) rfl 99 <| htyU (y_move rfl) <| htyU (y_nilp rfl) <| htyU (y_fld rfl fa48_0 (by decide)) <| hty (fun m => y_ld1 rfl ag42 (ld_blk (m.blk 2 rfl) (i := 0) rfl)) <| ?_
  refine htx (xh_bsl Tryz.underlying27 ti5 rfl rfl rfl (by simp [Value.cells, B8]) (by decide) (by decide) (fun g36 => ⟨(fun _ => wk [2, 2, 2] [0, 1] rfl rfl), ?_⟩))
  have hA_b36 : 0 < 3 → (some (⟨g36, 0, none⟩ : Addr)) ≠ none := fun _ h => by cases h
  refine htx (xh_cvS 0 rfl rfl Tryz.underlying27 Tryz.underlying5 ⟨(fun _ => wk [2, 2, 2] [0, 1] rfl rfl), ?_⟩)
  refine htmem (fun w m => m.eqX 0 rfl (show _ = ROwn 5 1 (.slice (some ⟨g36, 0, none⟩) 3 3) 3 (b8s bnew) from rfl)) ?_
  rw [e1] at hD1
  refine htx (xh_calll rfl Tryz.call23 (rshaSumC (by omega)) [] rfl (.x 0 rfl .own .nil) ?_)
  rintro _ _ _ ⟨rfl, rfl, rfl⟩
  refine ⟨rfl, ?_⟩
  refine ⟨(fun _ => wk [2, 2, 2] [0, 1] rfl rfl), ?_⟩
  refine htx (xh_call rfl Tryz.call52 (flipSC (shaL_length _) hD1 (by decide)) [1] rfl [1] rfl ?_)
  rintro _ _ _ ⟨st12, rfl, rfl, rfl, hD2⟩
  refine ⟨(fun _ => wk [2, 2, 2] [0, 1] rfl rfl), ?_⟩
  refine htyU (y_move rfl) <| htyU (y_extract rfl rfl) <| htyU (y_extract rfl rfl) <| htyU (y_assign rfl) <| htyU (y_assign rfl) <| htend <| hsub (ρ' := [(7, _), (6, _), (5, _), (4, _), (3, _), (2, _), (12, _), (1, _), (0, _)]) ⟨rfl, rfl, rfl, rfl, rfl, rfl, rfl, rfl, rfl, trivial⟩ <| hmemQ (X' := [_, _, _, _, _]) (S' := [_, _]) (fun _ m => m) <| hthen <| hseq <| hreg <| hy (fun _ => y_move rfl) <| hy (fun _ => y_nilp rfl) <| hy (fun _ => y_fld rfl fa48_0 (by decide)) <| ?_
  rw [e2] at hD2
  refine hy (fun m => y_ld1 rfl ag42 (ld_blk (m.blk 4 rfl) (i := 0) rfl)) <| ?_
  refine hx (xh_call rfl Tryz.call14 (activeSC hD2) [0] rfl [1] rfl ?_)
  rintro _ _ _ ⟨v2, rfl, rfl, rfl⟩
  refine hfactL (fun m => (m.own 1 rfl).slice) ?_
  rintro ⟨A_x2, c_x2, rfl, hc_x2⟩
  refine hfactL (fun m => (m.ord 1 rfl).2.1) fun hA_x2 => ?_
  refine hy (fun _ => y_move rfl) <| hy (fun _ => y_extract rfl rfl) <| hy (fun _ => y_extract rfl rfl) <| hy (fun _ => y_assign rfl) <| hy (fun _ => y_assign rfl) <| hend <| hsub (ρ' := [(9, _), (8, _), (7, _), (6, _), (5, _), (4, _), (3, _), (2, _), (12, _), (1, _), (0, _)]) ⟨rfl, rfl, rfl, rfl, rfl, rfl, rfl, rfl, rfl, rfl, rfl, trivial⟩ <| hmemQ (X' := [_, _, _, _, _, _]) (S' := [_, _]) (fun _ m => m) <| hthen <| hseq <| hreg <| hy (fun _ => y_move rfl) <| ?_
  rw [e1, e2, ha, r1]
  refine hy (fun _ => y_eql rfl rfl) <| hy (fun _ => y_move rfl) <| hyg (o := _) rfl rfl rfl (fun _ => y_move rfl) <| hyg (o := _) rfl rfl rfl (fun _ => y_lenS rfl Tryz.underlying27) <| hyg (o := _) rfl rfl rfl (fun _ => y_eql rfl rfl) <| hy (fun _ => y_pickT rfl rfl) <| hy (fun _ => y_move rfl) <| hyg (o := _) rfl rfl rfl (fun _ => y_move rfl) <| hyg (o := _) rfl rfl rfl (fun _ => y_eql rfl rfl) <| hy (fun _ => y_pickT rfl rfl) <| hy (fun _ => y_move rfl) <| hyg (o := _) rfl rfl rfl (fun _ => y_move rfl) <| hyg (o := _) rfl rfl rfl (fun _ => y_eql rfl rfl) <| hy (fun _ => y_pickT rfl rfl) <| hy (fun _ => y_move rfl) <| hyg (o := _) rfl rfl rfl (fun _ => y_move rfl) <| hyg (o := _) rfl rfl rfl (fun _ => y_eql rfl rfl) <| hy (fun _ => y_pickT rfl rfl) <| hy (fun _ => y_move rfl) <| hyg (o := _) rfl rfl rfl (fun _ => y_move rfl) <| hyg (o := _) rfl rfl rfl (fun _ => y_eql rfl rfl) <| hy (fun _ => y_pickT rfl rfl) <| hy (fun _ => y_move rfl) <| hyg (o := _) rfl rfl rfl (fun _ => y_move rfl) <| hyg (o := _) rfl rfl rfl (fun _ => y_eql rfl rfl) <| hy (fun _ => y_pickT rfl rfl) <| hy (fun _ => y_move rfl) <| hyg (o := _) rfl rfl rfl (fun _ => y_move rfl) <| hyg (o := _) rfl rfl rfl (fun m => y_b2s rfl Tryz.underlying27 Tryz.underlying5 Tryz.underlying9 (m.ord 1 rfl)) <| hyg (o := _) rfl rfl rfl (fun _ => y_seq rfl rfl) <| hy (fun _ => y_pickT rfl rfl) <| hy (fun _ => y_assign rfl) <| hend <| hsub (ρ' := [(0, _), (9, _), (8, _), (7, _), (6, _), (5, _), (4, _), (3, _), (2, _), (12, _), (1, _)]) ⟨rfl, rfl, rfl, rfl, rfl, rfl, rfl, rfl, rfl, rfl, rfl, trivial⟩ <| hthen <| hret <| ?_
  exact hret1 trivial rfl rfl [] rfl [] rfl ⟨rfl, rfl, rfl⟩
end Go.Proofs.YtfikjheicjamhaaGreatDoor
end
section
/- Contracts: texts in order (slices.Sort of at most 12). -/
set_option linter.unusedVariables false
set_option linter.unusedSimpArgs false
set_option maxRecDepth 20000
namespace Go.Proofs.YtfikjheicjamhaaGreatDoor
open Go.Eng Go.Hx
def ss (l : List (List UInt8)) : List Value := l.map SV
theorem ss_get {l : List (List UInt8)} {i : Nat} (h : i < l.length) : (ss l)[i]? = some (SV (l.getD i [])) := by simp [ss, List.getElem?_map, List.getElem?_eq_getElem h, List.getD]
theorem ss_one {l : List (List UInt8)} : ∀ u ∈ ss l, u.oneCell' = true := by
  intro u hu
  obtain ⟨x, _, rfl⟩ := List.mem_map.1 hu
  rfl
end Go.Proofs.YtfikjheicjamhaaGreatDoor
end
section
/- Lays of the library function slices.Sort for this seat. -/
namespace Go.Proofs
open Go.Shelf
shelf_lay Lays.n190 Nm 190 at Tryz as Tryz.lays190
end Go.Proofs
end
section
/- Contract: slices.Sort of texts, from the kit's shelf. -/
set_option linter.unusedVariables false
set_option linter.unusedSimpArgs false
set_option maxRecDepth 20000
namespace Go.Proofs.YtfikjheicjamhaaGreatDoor
open Go.Eng Go.Hx Go.Sort
def srt (l : List (List UInt8)) : List (List UInt8) := l.mergeSort fun x y => decide (x ≤ y)
theorem heap_srt {w : World} {g n o : Nat} {os : Array Obj} {cur : Array Value} {e : TypeId} {fr : Nat × Nat} (d : Array (List UInt8)) (hb : w.heap[g]? = some (.cells cur e fr)) :
    (grow (putRow encStr (Go.Sort.ahead w n) g o d) os).heap[g]? = some (.cells (putCells encStr o d cur) e fr) := by
  have hg : g < w.heap.size := (Array.getElem?_eq_some_iff.1 hb).1
  rw [heap_grow_old _ _ (by simpa using hg)]
  simp [putRow, mapBlock, Go.Sort.ahead, Array.getElem?_modify, hb, onCells]
theorem fr_srt {w : World} {g n o : Nat} {os : Array Obj} (d : Array (List UInt8)) : Fr (fun k => k = g) w (grow (putRow encStr (Go.Sort.ahead w n) g o d) os) := by
  refine ⟨rfl, rfl, rfl, by simp, fun k hk hne => ?_⟩
  rw [heap_grow_old _ _ (by simpa using hk)]
  have : g ≠ k := fun e => hne e.symm
  simp [putRow, mapBlock, Go.Sort.ahead, Array.getElem?_modify, this]
theorem take_put (cur : List Value) (o : Nat) (ts : List (List UInt8)) (h : o + ts.length ≤ cur.length) : ((putCells encStr o ts.toArray cur.toArray).toList.drop o).take ts.length = ss ts := by
  apply List.ext_getElem?
  intro j
  by_cases hj : j < ts.length
  · rw [List.getElem?_take_of_lt hj, List.getElem?_drop, Array.getElem?_toList]
    simp [putCells, hj, ss, show o + j < cur.length by omega, SV, strOf]
  · rw [List.getElem?_take_eq_none (by omega), List.getElem?_eq_none (by simp [ss]; omega)]
theorem srt_len (l : List (List UInt8)) : (srt l).length = l.length := List.length_mergeSort ..
theorem sort_c {A : Option Addr} {n c base : Nat} {e : TypeId} {l : List (List UInt8)} {w : World} (h : Own w base e 1 (.slice A n c) n (ss l)) (hn6 : n ≤ 1000000) :
    Calls Tryz.prog 87 #[.slice A n c] w fun r w' => r = .returned (.tuple #[]) ∧ Own w' base e 1 (.slice A n c) n (ss (srt l)) ∧ Fr (vblk (.slice A n c)) w w' := by
  obtain ⟨h1, h2⟩ := h
  have hl : l.length = n := by simpa [ss] using h1
  rcases h2 with ⟨hv, hn⟩ | ⟨g, o, cap, cur, hv, hb, ⟨fr, hh, hf, hfl⟩, hnc, hcm, hfit, hcs⟩
  · cases hv
    obtain rfl : l = [] := List.eq_nil_of_length_eq_zero hl
    refine Calls.mono (con_calls sortNoC (by intro s hs; cases hs)) (fun r w' ⟨hr, hf⟩ => ⟨hr, ⟨by simp [srt, ss], .inl ⟨rfl, rfl⟩⟩, hf.mono (fun _ _ e => e.elim)⟩)
  · cases hv
    subst hl
    have hB : Blk w g e cur := ⟨fr, hh, hf, hfl⟩
    have hH : Holds encStr w g o l.toArray := by
      intro j hj
      have hj' : j < l.length := by simpa using hj
      have h3 : ((cur.drop o).take (l.length * 1))[j]? = (ss l)[j]? := by rw [hcs]
      rw [List.getElem?_take_of_lt (by omega), List.getElem?_drop, ss_get hj'] at h3
      refine ⟨?_, hB.frozen (by omega)⟩
      rw [hB.cell h3]
      simp [List.getD, List.getElem?_eq_getElem hj', hj', SV, strOf]
    refine Calls.mono (Any.slices_Sort_string Tryz.lays190 g o c l w hH hB.lt (by omega)) ?_
    rintro r w' ⟨hr, k, os, rfl⟩
    refine ⟨hr, ⟨by simp [ss, srt_len], .inr ⟨g, o, c, (putCells encStr o (srt l).toArray cur.toArray).toList, rfl, hb, ?_, hnc, hcm, by simp [putCells]; omega, ?_⟩⟩, fr_srt _⟩
    · have := heap_srt (n := k) (o := o) (os := os) (srt l).toArray hh
      exact ⟨fr, by simpa [srt] using this, fun i hi => hf i (by simpa [putCells] using hi), by simpa [putCells] using hfl⟩
    · have := take_put cur o (srt l) (by rw [srt_len]; omega)
      rw [srt_len] at this
      rw [Nat.mul_one]; exact this
theorem sortC {A : Option Addr} {n c : Nat} {e : TypeId} {l : List (List UInt8)} (hn : n ≤ 1000000) : Con Tryz.prog 87 [.slice A n c] [ROwn e 1 (.slice A n c) n (ss l)] [] (fun v_ X_ S_ => v_ = (.tuple #[]) ∧ X_ = [ROwn e 1 (.slice A n c) n (ss (srt l))] ∧ S_ = []) := by
  refine fun w m => Calls.mono (sort_c (m.own 0 rfl) hn) ?_
  rintro r w' ⟨hr, ho, hf⟩
  exact ⟨_, _, _, hr, ⟨rfl, rfl, rfl⟩, m.change (r' := ROwn e 1 (.slice A n c) n (ss (srt l))) hf ho (fun k hk => .inl hk)⟩
end Go.Proofs.YtfikjheicjamhaaGreatDoor
end
section
/- Contract: a disk's names. -/
set_option linter.unusedVariables false
set_option linter.unusedSimpArgs false
set_option maxRecDepth 20000
namespace Go.Proofs.YtfikjheicjamhaaGreatDoor
open Go.Eng Go.Hx
theorem perm_erase {α : Type} : ∀ {l : List α} {j : Nat} {x : α}, l[j]? = some x → l.Perm (x :: l.eraseIdx j)
  | [], j, x, h => by simp at h
  | a :: r, 0, x, h => by
    simp only [List.getElem?_cons_zero, Option.some.injEq] at h
    subst h; exact List.Perm.refl _
  | a :: r, j + 1, x, h => by
    have := perm_erase (l := r) (j := j) (x := x) (by simpa using h)
    exact (List.Perm.cons a this).trans (List.Perm.swap x a _)
def pre (p s : List UInt8) : Bool := decide (s.take p.length = p)
theorem slHasPrefixC {s p : List UInt8} : Con Tryz.prog 157 [.string (strOf s), .string (strOf p)] [] [] (fun v_ X_ S_ => v_ = (.bool (pre p s)) ∧ X_ = [] ∧ S_ = []) := by
  have hs1 := strOf_size s
  have hs2 := strOf_size p
  refine henter (N := 18) Tryz.func157 rfl rfl (by simp) fun b => ?_
  by_cases h : p.length ≤ s.length
  · refine hseq <| hreg <| hy (fun _ => y_assign rfl) <| hend <| hthen <| hseq <| hreg <| hy (fun _ => y_move rfl) <| hy (fun _ => y_lenStr rfl Tryz.underlying9) <| hy (fun _ => y_move rfl) <| hy (fun _ => y_lenStr rfl Tryz.underlying9) <| hy (fun _ => yT (y_geq rfl rfl) ((decide_eq_true (by omega)))) <| hy (fun _ => y_move rfl) <| hyg (o := _) rfl rfl rfl (fun _ => y_move rfl) <| hyg (o := _) rfl rfl rfl (fun _ => y_move rfl) <| hyg (o := _) rfl rfl rfl (fun _ => y_lenStr rfl Tryz.underlying9) <| hyg (o := _) rfl rfl rfl (fun _ => yV (y_strTo rfl rfl Tryz.underlying9 (show ((p.length : Nat) : Int) = _ by omega) (by rw [bytesOf_strOf]; exact h)) ((rfl : Value.string _ = .string (strOf (s.take p.length))))) <| hyg (o := _) rfl rfl rfl (fun _ => y_move rfl) <| hyg (o := _) rfl rfl rfl (fun _ => y_seq rfl rfl) <| hy (fun _ => y_pickT rfl rfl) <| hy (fun _ => y_assign rfl) <| hend <| hsub (ρ' := [(4, _), (0, _), (1, _)]) ⟨rfl, rfl, rfl, trivial⟩ <| hthen <| hret <| ?_
    exact hret1 trivial rfl rfl [] rfl [] rfl ⟨(congrArg Value.bool (decide_eq_decide.2 strOf_inj)), rfl, rfl⟩
  · refine hseq <| hreg <| hy (fun _ => y_assign rfl) <| hend <| hthen <| hseq <| hreg <| hy (fun _ => y_move rfl) <| hy (fun _ => y_lenStr rfl Tryz.underlying9) <| hy (fun _ => y_move rfl) <| hy (fun _ => y_lenStr rfl Tryz.underlying9) <| hy (fun _ => yF (y_geq rfl rfl) ((decide_eq_false (by omega)))) <| hy (fun _ => y_move rfl) <| hskip rfl rfl rfl (by decide) <| hskip rfl rfl rfl (by decide) <| hskip rfl rfl rfl (by decide) <| hskip rfl rfl rfl (by decide) <| hskip rfl rfl rfl (by decide) <| hskip rfl rfl rfl (by decide) <| hy (fun _ => y_pickF rfl rfl) <| hy (fun _ => y_assign rfl) <| hend <| hsub (ρ' := [(4, _), (0, _), (1, _)]) ⟨rfl, rfl, rfl, trivial⟩ <| hthen <| hret <| ?_
    exact hret1 trivial rfl rfl [] rfl [] rfl ⟨(congrArg Value.bool (decide_eq_false (fun e => h (by rw [← e, List.length_take]; omega))).symm), rfl, rfl⟩
theorem hasPrefixC {s p : List UInt8} : Con Tryz.prog 86 [.string (strOf s), .string (strOf p)] [] [] (fun v_ X_ S_ => v_ = (.bool (pre p s)) ∧ X_ = [] ∧ S_ = []) := by
  refine henter (N := 8) Tryz.func86 rfl rfl (by simp) fun b => ?_
  refine hseq <| hreg <| hy (fun _ => y_assign rfl) <| hend <| hthen <| hseq <| hreg <| hy (fun _ => y_move rfl) <| hy (fun _ => y_move rfl) <| ?_
  refine hx (xh_call rfl Tryz.call157 (slHasPrefixC) [] rfl [] rfl ?_)
  rintro _ _ _ ⟨rfl, rfl, rfl⟩
  refine hy (fun _ => y_assign rfl) <| hend <| hsub (ρ' := [(4, _), (0, _), (1, _)]) ⟨rfl, rfl, rfl, trivial⟩ <| hmemQ (X' := []) (S' := []) (fun _ m => m) <| hthen <| hret <| ?_
  exact hret1 trivial rfl rfl [] rfl [] rfl ⟨rfl, rfl, rfl⟩
theorem listC {g : Nat} {st : DSt} {p : List UInt8} (hk : st.seen.length ≤ 100000) : Con Tryz.prog 26 [.pointer (some ⟨g, 0, none⟩), .string (strOf p)] [RDisk g st] [] (fun v_ X_ S_ => ∃ v n ks, v_ = v ∧ X_ = [RDisk g st, ROwn 9 1 v n (ss (srt ks))] ∧ S_ = [] ∧ (n = ks.length ∧ ks.Perm ((akeys st.seen).filter (pre p)))) := by
  refine henter (N := 26) Tryz.func26 rfl rfl (by simp) fun b => ?_
  refine hmemC (fun w m => (m.perm (takeR_perm [0] _ [_] _ rfl)).unpack) ?_
  refine hseq <| hreg <| hy (fun _ => y_assign rfl) <| hend <| hthen <| hseq <| hreg <| hy (fun _ => y_assign rfl) <| hend <| hthen <| hseq <| hseq <| hreg <| hy (fun _ => y_move rfl) <| hy (fun _ => y_nilp rfl) <| hy (fun _ => y_fld rfl fa132_1 (by decide)) <| hy (fun m => y_ld1 rfl ag129 (ld_blk (m.blk 0 rfl) rfl)) <| ?_
  refine hx (xh_range 1 rfl rfl Tryz.underlying129 (fun r11 => ?_))
  refine hend <| hsub (ρ' := [(11, _), (5, _), (4, _), (0, _), (1, _)]) ⟨rfl, rfl, rfl, rfl, rfl, trivial⟩ <| hmemQ (X' := [_, _, _, _, _]) (S' := []) (fun _ m => m) <| hthen <| hblock <| ?_
  refine hmemC (fun w m => m.addX (r' := ROwn 9 1 (.slice none 0 0) 0 []) (.refl _ _) (Own.nil _ _ _ _) (fun k hk => hk.elim)) ?_
  refine hloop6 (fun left cur A1 k c1 ks => left.length) (fun left cur A1 k c1 ks => [(5, .slice A1 k c1)]) (fun left cur A1 k c1 ks => [ROwn 9 1 (.slice A1 k c1) k (ss ks), RRng SV r11 st.gs (vals st.seen) (vals left) cur]) (fun left cur A1 k c1 ks => []) (fun left cur A1 k c1 ks => k = ks.length ∧ k + left.length ≤ st.seen.length ∧ (ks ++ (akeys left).filter (pre p)).Perm ((akeys st.seen).filter (pre p))) st.seen none none 0 0 [] [(11, _), (4, _), (0, _), (1, _)] ⟨rfl, rfl, rfl, rfl, trivial⟩ [0, 0] rfl [] rfl (⟨rfl, by omega, List.Perm.refl _⟩) ⟨rfl, trivial⟩ (fun left cur A1 k c1 ks ⟨hkn, hkl, hpm⟩ => ?_)
  refine hseq <| hreg <| ?_
  refine hx (xh_next 1 rfl rfl (fun h0 => ?_) (fun j x hx1 => ?_))
  · obtain rfl : left = [] := List.map_eq_nil_iff.1 h0
    refine hy (fun _ => y_extract rfl rfl) <| hend <| hsub (ρ' := [(13, _), (5, _), (11, _), (4, _), (0, _), (1, _)]) ⟨rfl, rfl, rfl, rfl, rfl, rfl, trivial⟩ <| hthen <| hseq <| ?_
    refine hiff rfl (rfl) ?_
    refine hexit <| hthen_exit <| hthen_exit <| hqblock_exit <| hthen <| hseq <| hreg <| hy (fun _ => y_move rfl) <| ?_
    refine hx (xh_call rfl Tryz.call87 (sortC (by omega)) [0] rfl [] rfl ?_)
    rintro _ _ _ ⟨rfl, rfl, rfl⟩
    refine hend <| hsub (ρ' := [(13, _), (5, _), (11, _), (4, _), (0, _), (1, _)]) ⟨rfl, rfl, rfl, rfl, rfl, rfl, trivial⟩ <| hmemQ (X' := [_, _, _, _, _, _]) (S' := []) (fun _ m => m) <| hthen <| hseq <| hreg <| hy (fun _ => y_move rfl) <| hy (fun _ => y_assign rfl) <| hend <| hsub (ρ' := [(4, _), (13, _), (5, _), (11, _), (0, _), (1, _)]) ⟨rfl, rfl, rfl, rfl, rfl, rfl, trivial⟩ <| hthen <| hret <| ?_
    refine hmemQ (fun w m => m.rngEnd 1 rfl) ?_
    refine hmemQ (X' := RDisk g st :: _) (fun w m => (m.perm (takeR_perm [2, 0, 1, 1, 1] _ [_, _, _, _, _] _ rfl)).pack) ?_
    exact hret1 trivial rfl rfl [0, 0] rfl [] rfl ⟨_, _, _, rfl, rfl, rfl, ⟨hkn, by simpa [akeys] using hpm⟩⟩
  · obtain ⟨key, v⟩ := x
    obtain ⟨r, hr, e⟩ := vals_at hx1
    obtain rfl : v = r.val := e
    have hlt := (List.getElem?_eq_some_iff.1 hr).1
    simp only at hr
    have hpe := perm_erase hr
    have hpa : (akeys left).Perm (key :: akeys (left.eraseIdx j)) := by simpa [akeys] using hpe.map Prod.fst
    have hpf := hpa.filter (pre p)
    refine hy (fun _ => y_extract rfl rfl) <| hend <| hsub (ρ' := [(13, _), (5, _), (11, _), (4, _), (0, _), (1, _)]) ⟨rfl, rfl, rfl, rfl, rfl, rfl, trivial⟩ <| hthen <| hseq <| ?_
    refine hift rfl (rfl) ?_
    refine hcskip <| hthen <| hblock <| hseq <| hreg <| hy (fun m => y_entryM rfl (m.rngX 0 rfl)) <| hy (fun _ => y_extract rfl rfl) <| hy (fun _ => y_assign rfl) <| hend <| hsub (ρ' := [(6, _), (13, _), (5, _), (11, _), (4, _), (0, _), (1, _)]) ⟨rfl, rfl, rfl, rfl, rfl, rfl, rfl, trivial⟩ <| hthen <| hseq <| hreg <| hy (fun _ => y_move rfl) <| hy (fun _ => y_move rfl) <| ?_
    refine hx (xh_call rfl Tryz.call86 (hasPrefixC) [] rfl [] rfl ?_)
    rintro _ _ _ ⟨rfl, rfl, rfl⟩
    refine hend <| hsub (ρ' := [(18, _), (6, _), (13, _), (5, _), (11, _), (4, _), (0, _), (1, _)]) ⟨rfl, rfl, rfl, rfl, rfl, rfl, rfl, rfl, trivial⟩ <| hmemQ (X' := [_, _, _, _, _, _]) (S' := []) (fun _ m => m) <| hthen <| ?_
    refine hifb rfl (fun hpr => ?_) (fun hpr => ?_)
    · have hp2 : (ks ++ [key] ++ (akeys (left.eraseIdx j)).filter (pre p)).Perm ((akeys st.seen).filter (pre p)) := by
        rw [List.filter_cons, if_pos hpr] at hpf
        rw [List.append_assoc]
        exact ((List.Perm.append_left ks hpf).symm.trans hpm)
      refine hreg <| hy (fun _ => y_move rfl) <| hy (fun _ => y_move rfl) <| ?_
      refine hx (xh_bsl Tryz.underlying71 ti9 rfl rfl rfl (by simp [Value.cells, SV]) (by decide) (by decide) (fun g21 => ?_))
      have hA_b21 : 0 < 1 → (some (⟨g21, 0, none⟩ : Addr)) ≠ none := fun _ h => by cases h
      refine hmemL (fun w m => m.eqX 0 rfl (show _ = ROwn 9 1 (.slice (some ⟨g21, 0, none⟩) 1 1) 1 (ss [key]) from rfl)) ?_
      refine hx (xh_app 2 rfl rfl rfl Tryz.underlying71 Tryz.underlying71 (by exact .inl rfl) ti9 rfl (fun m => Src.of_rd (m.ord 0 rfl)) ss_one (by unfold maxLen; omega) (by omega) (fun u => ?_))
      refine hfactL (fun m => (m.own 0 rfl).slice) ?_
      rintro ⟨A_o, c_o, rfl, hc_o⟩
      refine hfactL (fun m => (m.ord 0 rfl).2.1) fun hA_o => ?_
      refine hmemL (fun w m => m.eqX 0 rfl (show _ = ROwn 9 1 (.slice A_o (k + 1) c_o) (k + 1) (ss (ks ++ [key])) from by simp [ss])) ?_
      refine hy (fun _ => y_assign rfl) <| hend <| hsub (ρ' := [(5, _), (18, _), (6, _), (13, _), (11, _), (4, _), (0, _), (1, _)]) ⟨rfl, rfl, rfl, rfl, rfl, rfl, rfl, rfl, trivial⟩ <| hmemQ (X' := [_, _, _, _, _, _, _]) (S' := []) (fun _ m => m) <| hqblock <| ?_
      refine hmemQ (fun w m => m.eqX 2 rfl (show _ = RRng SV r11 st.gs (vals st.seen) (vals (left.eraseIdx j)) (some (key, r.val)) from congrArg (fun q => RRng SV r11 st.gs (vals st.seen) q (some (key, r.val))) (vals_erase left j))) ?_
      refine hnext6 (left.eraseIdx j) (some (key, r.val)) A_o (k + 1) c_o (ks ++ [key]) ⟨rfl, rfl, rfl, rfl, rfl, trivial⟩ [1, 0, 1, 1, 1, 1] rfl [] rfl (⟨by rw [List.length_append, hkn]; rfl, by rw [List.length_eraseIdx, if_pos hlt]; omega, hp2⟩) (by rw [List.length_eraseIdx, if_pos hlt]; omega)
    · have hp2 : (ks ++ (akeys (left.eraseIdx j)).filter (pre p)).Perm ((akeys st.seen).filter (pre p)) := by
        rw [List.filter_cons, if_neg (by rw [show pre p key = false from hpr]; decide)] at hpf
        exact ((List.Perm.append_left ks hpf).symm.trans hpm)
      refine hcskip <| hqblock <| ?_
      refine hmemQ (fun w m => m.eqX 0 rfl (show _ = RRng SV r11 st.gs (vals st.seen) (vals (left.eraseIdx j)) (some (key, r.val)) from congrArg (fun q => RRng SV r11 st.gs (vals st.seen) q (some (key, r.val))) (vals_erase left j))) ?_
      refine hnext6 (left.eraseIdx j) (some (key, r.val)) A1 k c1 ks ⟨rfl, rfl, rfl, rfl, rfl, trivial⟩ [1, 0, 0, 0, 0, 0] rfl [] rfl (⟨hkn, by rw [List.length_eraseIdx, if_pos hlt]; omega, hp2⟩) (by rw [List.length_eraseIdx, if_pos hlt]; omega)
end Go.Proofs.YtfikjheicjamhaaGreatDoor
end
section
/- The names of a map's files, in order. No program walked. -/
set_option linter.unusedVariables false
set_option linter.unusedSimpArgs false
namespace Go.Proofs.YtfikjheicjamhaaGreatDoor
open Go.Eng Go.Hx
theorem FSim.names {fs : Files} {l : List FP} (h : FSim fs l) {ks : List (List UInt8)} (hk : ks.Perm (akeys fs)) : srt ks = l.map (·.1) := by
  have hle : ∀ a b : List UInt8, (decide (a ≤ b) = true) ↔ a ≤ b := fun a b => by simp
  have h1 : (srt ks).Perm (l.map (·.1)) := (List.mergeSort_perm _ _).trans (hk.trans h.keys)
  have h2 : (srt ks).Pairwise (· ≤ ·) := by
    have := List.pairwise_mergeSort (le := fun x y : List UInt8 => decide (x ≤ y)) (fun a b c hab hbc => by simpa using List.le_trans (by simpa using hab) (by simpa using hbc)) (fun a b => by simpa using List.le_total a b) ks
    exact this.imp (fun hab => by simpa using hab)
  have h3 : (l.map (·.1)).Pairwise (· ≤ ·) := h.ord.imp (fun hlt => List.le_of_lt hlt)
  exact h1.eq_of_pairwise (fun a b _ _ hab hba => List.le_antisymm hab hba) h2 h3
end Go.Proofs.YtfikjheicjamhaaGreatDoor
end
section
/- Contract: like of layer 12: a disk has the document's files. -/
set_option linter.unusedVariables false
set_option linter.unusedSimpArgs false
set_option maxRecDepth 20000
namespace Go.Proofs.YtfikjheicjamhaaGreatDoor
open Go.Eng Go.Hx
theorem pre_nil (l : List (List UInt8)) : l.filter (pre []) = l := List.filter_eq_self.2 (fun a _ => by simp [pre])
end Go.Proofs.YtfikjheicjamhaaGreatDoor
end
section
/- Contracts: law 22's like; slots.Image (any number). -/
set_option linter.unusedVariables false
set_option linter.unusedSimpArgs false
set_option maxRecDepth 20000
set_option maxHeartbeats 2000000
namespace Go.Proofs.YtfikjheicjamhaaGreatDoor
open Go.Eng Go.Hx
theorem wcs_D {w : World} {g : Nat} {t : TypeId} {p : Value} {x : RX} (h : Blk w g t (p :: x.cs)) : ∀ (j : Nat) (u : Value), x.cs[j]? = some u → w.cell? ((⟨g, 0, none⟩ : Addr).add 1 |>.add j) = some u := fun j u hu => by
  rw [add_add]
  exact h.cells0 (1 + j) u (by rw [Nat.add_comm]; exact hu)
theorem like22C {gw gd : Nat} {st : DSt} {x : RX} {kk : Nat} (hD : DS st x.d kk) (hk : kk ≤ 1000) : Con Tryz.prog 11 [.pointer (some ⟨gw, 0, none⟩)] [RBlk gw 48 (.pointer (some ⟨gd, 0, none⟩) :: x.cs), RDisk gd st] [RRef x] (fun v_ X_ S_ => v_ = (.bool true) ∧ X_ = [RBlk gw 48 (.pointer (some ⟨gd, 0, none⟩) :: x.cs), RDisk gd st] ∧ S_ = []) := by
  have ok := hD.ok
  have okr := hD.rok
  have hS := hD.sim
  have hs1 := ok.seen
  have hs2 := okr.seen
  have hs3 := hS.files.len1
  have hs5 := hS.waits
  have hs8 := hS.power
  refine henter (N := 111) Tryz.func11 rfl rfl (by simp) fun b => ?_
  refine hmemC (fun w m => m.asV 0 rfl View.ref0) ?_
  refine hfactC (fun m => rdX (m.rd 0 rfl)) ?_
  rintro ⟨hl_f, hA_f⟩
  refine hseq <| hreg <| hy (fun _ => y_assign rfl) <| hend <| hthen <| hseq <| hreg <| hy (fun _ => y_move rfl) <| hy (fun _ => y_nilp rfl) <| hy (fun _ => y_fld rfl fa48_0 (by decide)) <| hy (fun m => y_ld1 rfl ag42 (ld_blk (m.blk 0 rfl) (i := 0) rfl)) <| ?_
  refine hx (xh_call rfl Tryz.call26 (listC (show st.seen.length ≤ 100000 by omega) (p := [])) [1] rfl [] rfl ?_)
  rintro _ _ _ ⟨v, n, ks, rfl, rfl, rfl, hp⟩
  refine hfactL (fun m => (m.own 1 rfl).slice) ?_
  rintro ⟨A_x, c_x, rfl, hc_x⟩
  refine hfactL (fun m => (m.ord 1 rfl).2.1) fun hA_x => ?_
  obtain ⟨hn1, hks⟩ := hp
  rw [pre_nil] at hks
  have hnm := hS.files.names hks
  have hkl := hks.length_eq
  have hka : (akeys st.seen).length = st.seen.length := by simp [akeys]
  rw [hnm]
  refine hy (fun _ => y_assign rfl) <| hend <| hsub (ρ' := [(3, _), (2, _), (0, _)]) ⟨rfl, rfl, rfl, trivial⟩ <| hmemQ (X' := [_, _, _]) (S' := [_, _]) (fun _ m => m) <| hthen <| hseq <| hseq <| hdrw [14, 28] [(0, some 2), (1, some 2), (2, some 2), (3, some 2), (4, some 2), (5, some 2), (6, some 2), (7, some 2), (8, some 0), (9, some 0), (10, some 2), (11, some 2), (12, some 0), (13, some 0), (15, some 2), (16, some 2), (17, some 2), (18, some 2), (19, some 2), (20, some 1), (14, none), (21, some 1), (22, some 1), (23, some 1), (24, some 1), (25, some 1), (26, some 1), (27, some 1), (29, some 2), (30, some 2), (31, some 2), (32, some 2), (33, some 2), (34, some 2), (28, none), (35, some 2), (36, some 2)] (by kernel_rfl) (by kernel_rfl) rfl 99 <| htyU (y_move rfl) <| htyU (y_lenS rfl Tryz.underlying71) <| htyU (y_move rfl) <| htyU (y_nilp rfl) <| htyU (y_fld rfl fa48_1 (by decide)) <| htyU (y_fld rfl fa46_1 (by decide)) <| hty (fun m => y_ld1 rfl ag43 (ld_blk (m.blk 2 rfl) (i := 2) rfl)) <| htyU (y_lenS rfl Tryz.underlying43) <| htyU (yF (y_neq rfl rfl) ((decide_eq_false (by omega)))) <| htyU (y_move rfl) <| htyUg (o := _) rfl rfl rfl (y_move rfl) <| htyUg (o := _) rfl rfl rfl (y_nilp rfl) <| htyUg (o := _) rfl rfl rfl (y_fld rfl fa48_0 (by decide)) <| htyg (o := _) rfl rfl rfl (fun m => y_ld1 rfl ag42 (ld_blk (m.blk 2 rfl) (i := 0) rfl)) <| htyUg (o := _) rfl rfl rfl (y_move rfl) <| htyUg (o := _) rfl rfl rfl (y_nilp rfl) <| htyUg (o := _) rfl rfl rfl (y_fld rfl fa48_1 (by decide)) <| htyUg (o := _) rfl rfl rfl (y_fld rfl fa46_3 (by decide)) <| htyg (o := _) rfl rfl rfl (fun m => y_ld1 rfl ag44 (ld_blk (m.blk 2 rfl) (i := 4) rfl)) <| htyUg (o := _) rfl rfl rfl (y_lenS rfl Tryz.underlying44) <| ?_
  refine htxg (o := _) rfl rfl rfl (xh_call rfl Tryz.call61 (waitsC) [0] rfl [] rfl ?_)
  rintro _ _ _ ⟨rfl, rfl, rfl⟩
  refine ⟨(fun _ => wk [0, 0, 0] [0, 1] rfl rfl), ?_⟩
  refine htyUg (o := _) rfl rfl rfl (yF (y_neq rfl rfl) ((decide_eq_false (by omega)))) <| htyU (y_pickF rfl rfl) <| htyU (y_move rfl) <| htyUg (o := _) rfl rfl rfl (y_move rfl) <| htyUg (o := _) rfl rfl rfl (y_nilp rfl) <| htyUg (o := _) rfl rfl rfl (y_fld rfl fa48_0 (by decide)) <| htyg (o := _) rfl rfl rfl (fun m => y_ld1 rfl ag42 (ld_blk (m.blk 2 rfl) (i := 0) rfl)) <| htyUg (o := _) rfl rfl rfl (y_move rfl) <| htyUg (o := _) rfl rfl rfl (y_nilp rfl) <| htyUg (o := _) rfl rfl rfl (y_fld rfl fa48_1 (by decide)) <| htyUg (o := _) rfl rfl rfl (y_fld rfl fa46_4 (by decide)) <| htyg (o := _) rfl rfl rfl (fun m => y_ld1 rfl ag3 (ld_blk (m.blk 2 rfl) (i := 5) rfl)) <| htyUg (o := _) rfl rfl rfl (y_neq rfl rfl) <| ?_
  refine htxg (o := _) rfl rfl rfl (xh_call rfl Tryz.call62 (upC) [0] rfl [] rfl ?_)
  rintro _ _ _ ⟨rfl, rfl, rfl⟩
  refine ⟨(fun _ => wk [0, 0, 0] [0, 1] rfl rfl), ?_⟩
  refine htyUg (o := _) rfl rfl rfl (yF (y_bne Tryz.underlying4 rfl rfl) ((by rw [hs8]; simp))) <| htyU (y_pickF rfl rfl) <| htend <| hsub (ρ' := [(50, _), (3, _), (2, _), (0, _)]) ⟨rfl, rfl, rfl, rfl, trivial⟩ <| hmemQ (X' := [_, _, _]) (S' := [_, _]) (fun _ m => m) <| hthen <| ?_
  refine hiff rfl (rfl) ?_
  refine hcskip <| hthen <| hseq <| hseq <| hreg <| hy (fun _ => y_assign rfl) <| hend <| hthen <| hblock <| ?_
  refine hloop1 (fun i => n - i) (fun i => [(4, .int .i64 (i : Nat))]) (fun i => [RDisk gd st, ROwn 9 1 (.slice A_x n c_x) n (ss (x.d.seen.map (·.1))), RBlk gw 48 (.pointer (some ⟨gd, 0, none⟩) :: x.cs)]) (fun i => []) (fun i => i ≤ n) 0 [(50, _), (3, _), (0, _)] ⟨rfl, rfl, rfl, trivial⟩ [0, 0, 0] rfl [] rfl (Nat.zero_le _) ⟨rfl, trivial⟩ (fun i hI => ?_)
  refine hseq <| hseq <| hreg <| hy (fun _ => y_move rfl) <| hy (fun _ => y_move rfl) <| hy (fun _ => y_lenS rfl Tryz.underlying71) <| hy (fun _ => y_lss rfl rfl) <| hend <| hsub (ρ' := [(54, _), (4, _), (50, _), (3, _), (0, _)]) ⟨rfl, rfl, rfl, rfl, rfl, trivial⟩ <| hthen <| ?_
  refine hif rfl (fun hlt => ?_) (fun hlt => ?_)
  · have hil : i < x.d.seen.length := by omega
    obtain ⟨x0, hgx⟩ : ∃ x0, x.d.seen[i]? = some x0 := ⟨_, List.getElem?_eq_getElem hil⟩
    obtain ⟨f0, f1⟩ := fc_get x.d.seen i x0 hgx
    have hnmi : (ss (x.d.seen.map (·.1)))[i]? = some (SV x0.1) := by simp [ss, List.getElem?_map, hgx]
    refine hcskip <| hthen <| hseq <| hblock <| hseq <| hdrw [8] [(0, some 0), (1, some 0), (2, some 0), (3, some 0), (4, some 0), (5, some 0), (6, some 0), (7, some 0), (8, none), (9, some 1), (10, some 1), (11, some 1), (12, some 1), (13, some 1)] (by kernel_rfl) (by kernel_rfl) rfl 99 <| htyU (y_move rfl) <| htyU (y_nilp rfl) <| htyU (y_fld rfl fa48_0 (by decide)) <| hty (fun m => y_ld1 rfl ag42 (ld_blk (m.blk 2 rfl) (i := 0) rfl)) <| htyU (y_move rfl) <| htyU (y_move rfl) <| htyU (y_idxS1 rfl rfl Tryz.underlying71 sz9 hA_x rfl (by omega)) <| hty (fun m => yV (y_ld1 rfl ag9 ((m.ord 1 rfl).cell hnmi)) ((rfl : _ = Value.string (strOf x0.1)))) <| ?_
    refine htx (xh_call rfl Tryz.call63 (dreadC hD (p := x0.1)) [0] rfl [] rfl ?_)
    rintro _ _ _ ⟨v2, rfl, rfl, rfl⟩
    refine ⟨(fun _ => wk [0, 1, 1] [0, 1] rfl rfl), ?_⟩
    refine htfact (fun m => (m.own 1 rfl).slice) ?_
    rintro ⟨A_x2, c_x2, rfl, hc_x2⟩
    refine htfact (fun m => (m.ord 1 rfl).2.1) fun hA_x2 => ?_
    refine htyU (y_move rfl) <| htyU (y_extract rfl rfl) <| htyU (y_extract rfl rfl) <| htyU (y_assign rfl) <| htyU (y_assign rfl) <| htend <| hsub (ρ' := [(6, _), (5, _), (54, _), (4, _), (50, _), (3, _), (0, _)]) ⟨rfl, rfl, rfl, rfl, rfl, rfl, rfl, trivial⟩ <| hmemQ (X' := [_, _, _, _]) (S' := [_, _]) (fun _ m => m) <| hthen <| hseq <| hdrw [13] [(0, some 0), (1, some 0), (2, some 0), (3, some 0), (4, some 1), (5, some 1), (6, some 1), (7, some 1), (8, some 0), (9, some 0), (10, some 0), (11, some 0), (12, some 0), (13, none), (14, some 1), (15, some 1), (16, some 1), (17, some 1), (18, some 1)] (by kernel_rfl) (by kernel_rfl) rfl 99 <| htyU (y_move rfl) <| htyU (y_nilp rfl) <| htyU (y_fld rfl fa48_1 (by decide)) <| hty (fun m => yV (y_ldN rfl ag46 sz46 rfl (wcs_D (m.blk 3 rfl))) ((rfl : _ = Value.agg x.cs.toArray))) <| htyU (y_move rfl) <| htyU (y_nilp rfl) <| htyU (y_fld rfl fa48_1 (by decide)) <| htyU (y_fld rfl fa46_1 (by decide)) <| hty (fun m => y_ld1 rfl ag43 (ld_blk (m.blk 3 rfl) (i := 2) rfl)) <| htyU (y_move rfl) <| htyU (y_idxS rfl rfl Tryz.underlying43 sz124 hA_f rfl (by omega)) <| htyU (y_fld rfl fa124_0 (by decide)) <| hty (fun m => yV (y_ld1 rfl ag9 (rd_fld (m.rd 0 rfl) f0)) ((rfl : _ = Value.string (strOf x0.1)))) <| ?_
    refine htx (xh_call rfl Tryz.call64 (rreadX okr (by omega) (p := x0.1)) [] rfl [1] rfl ?_)
    rintro _ _ _ ⟨rfl, rfl, rfl⟩
    refine ⟨(fun _ => wk [0, 0, 0, 0] [0, 1] rfl rfl), ?_⟩
    refine htyU (y_move rfl) <| htyU (y_extract rfl rfl) <| htyU (y_extract rfl rfl) <| htyU (y_assign rfl) <| htyU (y_assign rfl) <| htend <| hsub (ρ' := [(8, _), (7, _), (6, _), (5, _), (54, _), (4, _), (50, _), (3, _), (0, _)]) ⟨rfl, rfl, rfl, rfl, rfl, rfl, rfl, rfl, rfl, trivial⟩ <| hmemQ (X' := [_, _, _, _]) (S' := [_, _]) (fun _ m => m) <| hthen <| hseq <| hdrw [] [(0, some 0), (1, some 0), (2, some 0), (3, some 0), (4, some 0), (5, some 0), (6, some 0), (7, some 0), (8, some 0), (9, some 0), (10, some 0), (11, some 0), (12, some 0), (13, some 0), (14, some 0), (15, some 0), (16, some 0), (17, some 0), (18, some 0), (19, some 0), (20, some 0), (21, some 0), (22, some 0), (23, some 0), (24, some 0)] (by kernel_rfl) (by kernel_rfl) rfl 99 <| htyU (y_move rfl) <| htyU (y_move rfl) <| htyU (y_idxS1 rfl rfl Tryz.underlying71 sz9 hA_x rfl (by omega)) <| hty (fun m => yV (y_ld1 rfl ag9 ((m.ord 2 rfl).cell hnmi)) ((rfl : _ = Value.string (strOf x0.1)))) <| htyU (y_move rfl) <| htyU (y_nilp rfl) <| htyU (y_fld rfl fa48_1 (by decide)) <| htyU (y_fld rfl fa46_1 (by decide)) <| hty (fun m => y_ld1 rfl ag43 (ld_blk (m.blk 3 rfl) (i := 2) rfl)) <| htyU (y_move rfl) <| htyU (y_idxS rfl rfl Tryz.underlying43 sz124 hA_f rfl (by omega)) <| htyU (y_fld rfl fa124_0 (by decide)) <| hty (fun m => yV (y_ld1 rfl ag9 (rd_fld (m.rd 0 rfl) f0)) ((rfl : _ = Value.string (strOf x0.1)))) <| htyU (yF (y_sne rfl rfl) ((decide_eq_false (not_not_intro rfl)))) <| htyU (y_move rfl) <| ?_
    refine htyUg (o := _) rfl rfl rfl (y_move rfl) <| htyUg (o := _) rfl rfl rfl (y_move rfl) <| htyUg (o := _) rfl rfl rfl (yF (y_neq rfl rfl) ((decide_eq_false (not_not_intro rfl)))) <| htyU (y_pickF rfl rfl) <| htyU (y_move rfl) <| htyUg (o := _) rfl rfl rfl (y_move rfl) <| htyg (o := _) rfl rfl rfl (fun m => y_b2s rfl Tryz.underlying27 Tryz.underlying5 Tryz.underlying9 (m.ord 1 rfl)) <| htyUg (o := _) rfl rfl rfl (y_move rfl) <| htyUg (o := _) rfl rfl rfl (yF (y_sne rfl rfl) ((decide_eq_false (not_not_intro rfl)))) <| htyU (y_pickF rfl rfl) <| htend <| hsub (ρ' := [(110, _), (8, _), (7, _), (6, _), (5, _), (54, _), (4, _), (50, _), (3, _), (0, _)]) ⟨rfl, rfl, rfl, rfl, rfl, rfl, rfl, rfl, rfl, rfl, trivial⟩ <| hthen <| ?_
    refine hiff rfl (rfl) ?_
    refine hcskip <| hqblock <| hthen <| hreg <| hy (fun _ => y_move rfl) <| hy (fun _ => y_add rfl rfl (w64 (by omega) (by omega))) <| hy (fun _ => y_assign rfl) <| hend <| hsub (ρ' := [(4, _), (110, _), (8, _), (7, _), (6, _), (5, _), (54, _), (50, _), (3, _), (0, _)]) ⟨rfl, rfl, rfl, rfl, rfl, rfl, rfl, rfl, rfl, rfl, trivial⟩ <| ?_
    refine hnext1 (i + 1) ⟨rfl, rfl, rfl, rfl, trivial⟩ [0, 1, 1] rfl [0, 1] rfl (by omega) (by omega)
  · refine hexit <| hthen_exit <| hthen_exit <| hqblock_exit <| hthen <| hseq <| hreg <| hy (fun _ => y_assign rfl) <| hend <| hthen <| hret <| ?_
    exact hret1 trivial rfl rfl [2, 0] rfl [] rfl ⟨rfl, rfl, rfl⟩
theorem pimageSC {g : Nat} {st : DSt} {d : RD} {kk : Nat} {z : Int} (hD : DS st d kk) : Con Tryz.prog 55 [.pointer (some ⟨g, 0, none⟩), .int .i64 z] [RDisk g st] [RRoots] (fun v_ X_ S_ => ∃ v, v_ = (.tuple #[v, .int .i64 (d.imageI z).2]) ∧ X_ = [RDisk g st, ROwn 5 1 v (d.imageI z).1.length (b8s (d.imageI z).1)] ∧ S_ = []) := by
  have hw := d.loadS_wf
  refine henter (N := 30) Tryz.func55 rfl rfl (by simp) fun b => ?_
  refine hseq <| hreg <| hy (fun _ => y_assign rfl) <| hy (fun _ => y_assign rfl) <| hend <| hthen <| hseq <| hreg <| hy (fun _ => y_move rfl) <| ?_
  refine hx (xh_call rfl Tryz.call12 (loadSC hD) [0] rfl [] rfl ?_)
  rintro _ _ _ ⟨rfl, rfl, rfl⟩
  refine hy (fun _ => y_move rfl) <| hy (fun _ => y_extract rfl rfl) <| hy (fun _ => y_extract rfl rfl) <| ?_
  refine hx (xh_alloc ti38 (fun g6 => ?_))
  refine hx0 (xh_stA 0 rfl rfl rfl sz38 (Sup.cs_len hw) Sup.cs_one rfl ?_)
  refine hy (fun _ => y_assign rfl) <| hend <| hsub (ρ' := [(7, _), (6, _), (5, _), (4, _), (0, _), (1, _)]) ⟨rfl, rfl, rfl, rfl, rfl, rfl, trivial⟩ <| hmemQ (X' := [_, _]) (S' := [_]) (fun _ m => m) <| hthen <| hseq <| hblock <| hseq <| hreg <| hy (fun _ => y_move rfl) <| hy (fun _ => y_neq rfl rfl) <| hy (fun _ => y_assign rfl) <| hend <| hsub (ρ' := [(13, _), (7, _), (6, _), (5, _), (4, _), (0, _), (1, _)]) ⟨rfl, rfl, rfl, rfl, rfl, rfl, rfl, trivial⟩ <| hthen <| ?_
  refine hif rfl (fun h1 => ?_) (fun h1 => ?_)
  · rw [show d.imageI z = ([], d.loadS.2) by rw [RD.imageI, if_pos h1]]
    refine hseq <| hreg <| hy (fun _ => y_move rfl) <| hy (fun _ => y_assign rfl) <| hy (fun _ => y_assign rfl) <| hend <| hsub (ρ' := [(5, _), (4, _), (13, _), (7, _), (6, _), (0, _), (1, _)]) ⟨rfl, rfl, rfl, rfl, rfl, rfl, rfl, trivial⟩ <| hthen <| hret <| hqblock_ret <| hthen_ret <| ?_
    refine hmemQ (fun w m => m.addX (r' := ROwn 5 1 (.slice none 0 0) 0 []) (.refl _ _) (Own.nil _ _ _ _) (fun k hk => hk.elim)) ?_
    exact hret2 trivial rfl rfl rfl [2, 0] rfl [] rfl ⟨_, rfl, rfl, rfl⟩
  · refine hseq <| hreg <| hy (fun _ => y_move rfl) <| hy (fun _ => y_neq rfl rfl) <| hy (fun _ => y_move rfl) <| ?_
    refine hsplit 20 rfl (fun hz0 => ?_) (fun hz0 => ?_)
    · refine hyg (o := _) rfl rfl rfl (fun _ => y_move rfl) <| hyg (o := _) rfl rfl rfl (fun _ => y_neq rfl rfl) <| hy (fun _ => y_pickT rfl rfl) <| hy (fun _ => y_assign rfl) <| hend <| hsub (ρ' := [(17, _), (13, _), (7, _), (6, _), (5, _), (4, _), (0, _), (1, _)]) ⟨rfl, rfl, rfl, rfl, rfl, rfl, rfl, rfl, trivial⟩ <| hthen <| ?_
      refine hif rfl (fun hz1 => ?_) (fun hz1 => ?_)
      · rw [show d.imageI z = ([], 1) by rw [RD.imageI, if_neg h1, if_pos (by omega)]]
        refine hseq <| hreg <| hy (fun _ => y_assign rfl) <| hy (fun _ => y_assign rfl) <| hend <| hthen <| hret <| hqblock_ret <| hthen_ret <| ?_
        refine hmemQ (fun w m => m.addX (r' := ROwn 5 1 (.slice none 0 0) 0 []) (.refl _ _) (Own.nil _ _ _ _) (fun k hk => hk.elim)) ?_
        exact hret2 trivial rfl rfl rfl [2, 0] rfl [] rfl ⟨_, rfl, rfl, rfl⟩
      · obtain rfl : z = 1 := by omega
        rw [show d.imageI 1 = d.imageS d.loadS.1 1 by rw [RD.imageI, if_neg h1, if_neg (by omega)]; rfl]
        refine hcskip <| hqblock <| hthen <| hseq <| hreg <| hy (fun _ => y_move rfl) <| hy (fun m => yV (y_ldN rfl ag38 sz38 (Sup.cs_len hw) ((m.blk 0 rfl).cells0)) ((rfl : _ = Value.agg d.loadS.1.cs.toArray))) <| hy (fun _ => y_move rfl) <| ?_
        refine hx (xh_call rfl Tryz.call67 (imageSC hw (show 1 < 2 by decide) hD) [1] rfl [0] rfl ?_)
        rintro _ _ _ ⟨v, rfl, rfl, rfl⟩
        refine hfactL (fun m => (m.own 1 rfl).slice) ?_
        rintro ⟨A_x, c_x, rfl, hc_x⟩
        refine hfactL (fun m => (m.ord 1 rfl).2.1) fun hA_x => ?_
        refine hy (fun _ => y_extract rfl rfl) <| hy (fun _ => y_extract rfl rfl) <| hy (fun _ => y_assign rfl) <| hy (fun _ => y_assign rfl) <| hend <| hsub (ρ' := [(5, _), (4, _), (17, _), (13, _), (7, _), (6, _), (0, _), (1, _)]) ⟨rfl, rfl, rfl, rfl, rfl, rfl, rfl, rfl, trivial⟩ <| hmemQ (X' := [_, _, _]) (S' := [_]) (fun _ m => m) <| hthen <| hret <| ?_
        exact hret2 trivial rfl rfl rfl [0, 0] rfl [] rfl ⟨_, rfl, rfl, rfl⟩
    · obtain rfl : z = 0 := by omega
      refine hskip rfl rfl rfl (by decide) <| hskip rfl rfl rfl (by decide) <| hy (fun _ => y_pickF rfl rfl) <| hy (fun _ => y_assign rfl) <| hend <| hsub (ρ' := [(17, _), (13, _), (7, _), (6, _), (5, _), (4, _), (0, _), (1, _)]) ⟨rfl, rfl, rfl, rfl, rfl, rfl, rfl, rfl, trivial⟩ <| hthen <| ?_
      refine hiff rfl (rfl) ?_
      rw [show d.imageI 0 = d.imageS d.loadS.1 0 by rw [RD.imageI, if_neg h1, if_neg (by omega)]; rfl]
      refine hcskip <| hqblock <| hthen <| hseq <| hreg <| hy (fun _ => y_move rfl) <| hy (fun m => yV (y_ldN rfl ag38 sz38 (Sup.cs_len hw) ((m.blk 0 rfl).cells0)) ((rfl : _ = Value.agg d.loadS.1.cs.toArray))) <| hy (fun _ => y_move rfl) <| ?_
      refine hx (xh_call rfl Tryz.call67 (imageSC hw (show 0 < 2 by decide) hD) [1] rfl [0] rfl ?_)
      rintro _ _ _ ⟨v, rfl, rfl, rfl⟩
      refine hfactL (fun m => (m.own 1 rfl).slice) ?_
      rintro ⟨A_x, c_x, rfl, hc_x⟩
      refine hfactL (fun m => (m.ord 1 rfl).2.1) fun hA_x => ?_
      refine hy (fun _ => y_extract rfl rfl) <| hy (fun _ => y_extract rfl rfl) <| hy (fun _ => y_assign rfl) <| hy (fun _ => y_assign rfl) <| hend <| hsub (ρ' := [(5, _), (4, _), (17, _), (13, _), (7, _), (6, _), (0, _), (1, _)]) ⟨rfl, rfl, rfl, rfl, rfl, rfl, rfl, rfl, trivial⟩ <| hmemQ (X' := [_, _, _]) (S' := [_]) (fun _ m => m) <| hthen <| hret <| ?_
      exact hret2 trivial rfl rfl rfl [0, 0] rfl [] rfl ⟨_, rfl, rfl, rfl⟩
end Go.Proofs.YtfikjheicjamhaaGreatDoor
end
section
/- Slices of booleans that came in, as lists. -/
set_option linter.unusedVariables false
set_option linter.unusedSimpArgs false
set_option maxRecDepth 20000
namespace Go.Proofs.YtfikjheicjamhaaGreatDoor
open Go.Eng Go.Hx
theorem bool_cells {P : Program} {e : TypeId} (he : P.underlying e = some .bool) : ∀ {n : Nat} {ys : List Cell}, ys.length = n → (∀ i, i < n → Ty P e ((ys.drop i).take 1)) → ∃ l : List Bool, ys.map Cell.val = bools l ∧ l.length = n := by
  intro n ys hl h
  refine ⟨ys.map fun y => match y.val with | .bool z => z | _ => false, ?_, by simpa using hl⟩
  apply List.ext_getElem?
  intro i
  simp only [bools, List.map_map, List.getElem?_map]
  by_cases hi : i < n
  · obtain ⟨c, hc⟩ := ty_bool he (h i hi)
    have h2 : ((ys.drop i).take 1)[0]? = some (.v (.bool c)) := by rw [hc]; rfl
    rw [List.getElem?_take, if_pos (by omega), List.getElem?_drop, Nat.add_zero] at h2
    rw [h2]
    simp [Cell.val]
  · rw [List.getElem?_eq_none (by omega)]
    rfl
theorem ty_bools {xs : List Cell} (h : Ty Tryz.prog 28 xs) : ∃ A n c ys l, xs = [.s 1 A n c ys] ∧ n ≤ c ∧ n ≤ 140737488351232 ∧ ys.map Cell.val = bools l ∧ l.length = n := by
  obtain ⟨A, n, c, ys, rfl, h1, h2, h3, h4⟩ := ty_slice Tryz.underlying28 h
  have c1 : Tryz.prog.cellsOf 4 = 1 := by kernel_rfl
  have b1 : Tryz.prog.bytesOf 4 = 1 := by kernel_rfl
  rw [c1] at h3 h4 ⊢
  rw [b1] at h2
  obtain ⟨l, h5, h6⟩ := bool_cells Tryz.underlying4 (by omega : ys.length = n) (fun i hi => by have := h4 i hi; rwa [Nat.mul_one] at this)
  exact ⟨A, n, c, ys, l, rfl, h1, by omega, h5, h6⟩
end Go.Proofs.YtfikjheicjamhaaGreatDoor
end
section
/- Contract: law 22's does. -/
set_option linter.unusedVariables false
set_option linter.unusedSimpArgs false
set_option maxRecDepth 20000
set_option maxHeartbeats 4000000
namespace Go.Proofs.YtfikjheicjamhaaGreatDoor
open Go.Eng Go.Hx
theorem dpower22C {g : Nat} {st : DSt} {d : RD} {kk : Nat} {n : Int} (hD : DS st d kk) (hn : n ≤ 1000000000000) : Con Tryz.prog 20 [.pointer (some ⟨g, 0, none⟩), .int .i64 n] [RDisk g st] [] (fun v_ X_ S_ => ∃ st1, v_ = (.tuple #[]) ∧ X_ = [RDisk g st1] ∧ S_ = [] ∧ (DS st1 (d.power n) kk)) := by
  exact Con.mono powerC (fun v X S h => by
    obtain ⟨h1, h2, h3⟩ := h
    exact ⟨_, h1, h2, h3, hD.power hn⟩)
theorem drestart22C {g : Nat} {st : DSt} {d : RD} {kk : Nat} {A : Option Addr} {n c : Nat} {bs : List Bool} (hD : DS st d kk) (hkk : kk ≤ 99000) (hc : n ≤ c) : Con Tryz.prog 22 [.pointer (some ⟨g, 0, none⟩), .slice A n c] [RDisk g st] [RRd 1 A n (bools bs)] (fun v_ X_ S_ => ∃ st1, v_ = (.tuple #[]) ∧ X_ = [RDisk g st1] ∧ S_ = [] ∧ (DS st1 (d.restart bs) kk)) := by
  have hw : st.waits.length ≤ 1000000 := by have := hD.ok.rest; omega
  exact Con.mono (restartAC hc hD.ok.sm hw) (fun v X S h => by
    obtain ⟨gs, h1, h2, h3⟩ := h
    exact ⟨_, h1, h2, h3, hD.restart bs gs⟩)
theorem tdiv5 {z : Int} (h : -9223372036854775808 ≤ z ∧ z ≤ 9223372036854775807) : -9223372036854775808 ≤ z.tdiv 5 ∧ z.tdiv 5 ≤ 9223372036854775807 := by
  rcases Int.le_total 0 z with h0 | h0
  · rw [Int.tdiv_eq_ediv_of_nonneg h0]; omega
  · obtain ⟨m, rfl⟩ : ∃ m, z = -m := ⟨-z, by omega⟩
    rw [Int.neg_tdiv, Int.tdiv_eq_ediv_of_nonneg (by omega)]; omega
def o22 (a z : Int) (B : Option Addr) (mb mc : Nat) (K : Option Addr) (mk ck : Nat) : List Value := [.int .i64 a, .int .i64 z, .slice B mb mc, .slice K mk ck]
theorem wcs_put {p : Value} {x y : RX} : splice (p :: x.cs) 1 y.cs = p :: y.cs := rfl
theorem does22C {gw gd : Nat} {st : DSt} {x : RX} {kk : Nat} {a z : Int} {B : Option Addr} {mb mc : Nat} {lb : List UInt8} {K : Option Addr} {mk ck : Nat} {bs : List Bool} (hD : DS st x.d kk) (hkk : kk ≤ 1000) (ha : -9223372036854775808 ≤ a ∧ a ≤ 9223372036854775807) (hz : -9223372036854775808 ≤ z ∧ z ≤ 9223372036854775807) (hmc : mb ≤ mc) (hmb : mb ≤ 140737488351232) (hck : mk ≤ ck) (hmk : mk ≤ 140737488351232) : Con Tryz.prog 10 [.pointer (some ⟨gw, 0, none⟩), .agg (o22 a z B mb mc K mk ck).toArray] [RBlk gw 48 (.pointer (some ⟨gd, 0, none⟩) :: x.cs), RDisk gd st] [RRef x, RRd 1 B mb (b8s lb), RRd 1 K mk (bools bs), RRoots] (fun v_ X_ S_ => ∃ st1 y, v_ = (.bool true) ∧ X_ = [RBlk gw 48 (.pointer (some ⟨gd, 0, none⟩) :: y.cs), RDisk gd st1] ∧ S_ = [RRef y] ∧ (DS st1 y.d (kk + 3))) := by
  have okx := hD.rdok
  obtain ⟨ar0, ar1⟩ := around_lt a 11 (by decide)
  obtain ⟨bb, hbb⟩ : ∃ bb, bb = lb.take 30 := ⟨_, rfl⟩
  have hbl : bb.length = min mb 30 → bb.length ≤ 30 := fun h => by omega
  refine henter (N := 259) Tryz.func10 rfl rfl (by simp) fun b => ?_
  refine hfactC (fun m => rdB (m.rd 1 rfl)) ?_
  rintro ⟨hl_rb, hA_rb⟩
  refine hfactC (fun m => rdX (m.rd 2 rfl)) ?_
  rintro ⟨hl_rk, hA_rk⟩
  refine hseq <| hreg <| ?_
  refine hx (xh_box rfl (fun g3 => ?_))
  refine hmemL (fun w m => m.eqX 0 rfl (show _ = RBlk g3 30 (o22 a z B mb mc K mk ck) from congrArg (RBlk _ _) (cells_agg _))) ?_
  refine hy (fun _ => y_assign rfl) <| hend <| hmemQ (X' := [_, _, _]) (S' := [_, _, _, _]) (fun _ m => m) <| hthen <| hseq <| hreg <| hy (fun _ => y_fld rfl fa30_2 (by decide)) <| hy (fun m => y_ld1 rfl ag27 (ld_blk (m.blk 0 rfl) (i := 2) rfl)) <| ?_
  refine hx (xh_call rfl Tryz.call19 (fewC (by omega) (by omega) (m := 30)) [] rfl [1] rfl ?_)
  rintro _ _ _ ⟨v, rfl, rfl, rfl⟩
  refine hfactL (fun m => (m.own 0 rfl).slice) ?_
  rintro ⟨A_x, c_x, rfl, hc_x⟩
  refine hfactL (fun m => (m.ord 0 rfl).2.1) fun hA_x => ?_
  refine hy (fun _ => y_assign rfl) <| hend <| hsub (ρ' := [(5, _), (4, _), (3, _), (0, _), (1, _)]) ⟨rfl, rfl, rfl, rfl, rfl, trivial⟩ <| hmemQ (X' := [_, _, _, _]) (S' := [_, _, _, _]) (fun _ m => m) <| hthen <| hseq <| hseq <| hreg <| ?_
  rw [← hbb]
  have hl30 : bb.length = min mb 30 := by rw [hbb, List.length_take, hl_rb, Nat.min_comm]
  refine hmemL (fun w m => m.eqX 0 rfl (show _ = ROwn 5 1 (.slice A_x (min mb 30) c_x) (min mb 30) (b8s bb) from rfl)) ?_
  have hsl : (shaL bb).length = 32 := shaL_length _
  refine hy (fun _ => y_fld rfl fa30_0 (by decide)) <| hy (fun m => y_ld1 rfl ag3 (ld_blk (m.blk 1 rfl) (i := 0) rfl)) <| ?_
  refine hx (xh_call rfl Tryz.call9 (aroundC ha.1 ha.2 (by decide) (n := a) (m := 11)) [] rfl [] rfl ?_)
  rintro _ _ _ ⟨rfl, rfl, rfl⟩
  refine hend <| hsub (ρ' := [(35, _), (5, _), (4, _), (3, _), (0, _), (1, _)]) ⟨rfl, rfl, rfl, rfl, rfl, rfl, trivial⟩ <| hmemQ (X' := [_, _, _, _]) (S' := [_, _, _, _]) (fun _ m => m) <| hthen <| hblock <| hseq <| hseq <| hreg <| hy (fun _ => y_eql rfl rfl) <| hy (fun _ => y_assign rfl) <| hend <| hsub (ρ' := [(36, _), (35, _), (5, _), (4, _), (3, _), (0, _), (1, _)]) ⟨rfl, rfl, rfl, rfl, rfl, rfl, rfl, trivial⟩ <| hthen <| ?_
  refine hif rfl (fun c3 => ?_) (fun c3 => ?_)
  · refine hcskip <| hthen <| ?_
    refine hift rfl ((decide_eq_true c3)) ?_
    refine hseq <| hreg <| hy (fun _ => y_move rfl) <| ?_
    refine hx (xh_calll rfl Tryz.call23 (rshaSumC (by omega)) [] rfl (.x 0 rfl .own .nil) ?_)
    rintro _ _ _ ⟨rfl, rfl, rfl⟩
    refine ⟨rfl, ?_⟩
    refine hx (xh_alloc ti33 (fun g6 => ?_))
    refine hx0 (xh_stA 0 rfl rfl rfl sz33 (by rw [b8s_length]; exact hsl) b8s_oneCell rfl ?_)
    refine hend <| hsub (ρ' := [(6, _), (36, _), (35, _), (5, _), (4, _), (3, _), (0, _), (1, _)]) ⟨rfl, rfl, rfl, rfl, rfl, rfl, rfl, rfl, trivial⟩ <| hmemQ (X' := [_, _, _, _, _]) (S' := [_, _, _, _]) (fun _ m => m) <| hthen <| hseq <| hdrwP [5, 10, 11] (.take 0 2 <| .take 1 2 <| .take 2 2 <| .take 3 2 <| .take 4 2 <| .alt 5 (.take 6 2 <| .take 7 2 <| .take 8 3 <| .take 9 3 <| .alt 10 (.alt 11 (.take 12 3 <| .take 13 3 <| .done) (.stop)) (.stop)) (.alt 10 (.alt 5 (.take 6 2 <| .take 7 2 <| .take 8 3 <| .take 9 3 <| .alt 11 (.take 12 3 <| .take 13 3 <| .done) (.stop)) (.stop)) (.stop))) (by kernel_rfl) (by kernel_rfl) rfl 2 <| hpyU (y_move rfl) <| hpyU (y_nilp rfl) <| hpyU (y_fld rfl fa48_1 (by decide)) <| hpy (fun m => yV (y_ldN rfl ag46 sz46 rfl (wcs_D (m.blk 3 rfl))) ((rfl : _ = Value.agg x.cs.toArray))) <| hpy (fun m => yV (y_ldN rfl ag33 sz33 (by rw [b8s_length]; exact hsl) ((m.blk 0 rfl).cells0)) ((rfl : _ = Value.agg (b8s (shaL bb)).toArray))) <| ?_
    refine hpfork ?_ ?_
    · refine hpx (xh_call rfl Tryz.call51 (rflipSC hsl okx (by omega)) [] rfl [0, 3] rfl ?_)
      rintro _ _ _ ⟨y, rfl, rfl, rfl, hy1⟩
      refine ⟨(fun _ => wk [0, 0, 0, 0, 0] [1, 2, 3, 4] rfl rfl), ?_⟩
      refine hpyU (y_move rfl) <| hpyU (y_extract rfl rfl) <| hpyU (y_extract rfl rfl) <| hpyU (y_extract rfl rfl) <| ?_
      refine hpx (xh_alloc ti46 (fun g7 => ⟨(fun _ => wk [1, 1, 1, 1, 1] [1, 2, 3, 4] rfl rfl), ?_⟩))
      refine hpx0 (xh_stA 0 rfl rfl rfl sz46 rfl cs_one rfl ⟨(fun h => absurd h (by decide)), ?_⟩)
      refine hpyU (y_assign rfl) <| hpyU (y_assign rfl) <| hpend <| hsub (ρ' := [(9, _), (8, _), (7, _), (6, _), (36, _), (35, _), (5, _), (4, _), (3, _), (0, _), (1, _)]) ⟨rfl, rfl, rfl, rfl, rfl, rfl, rfl, rfl, rfl, rfl, rfl, trivial⟩ <| hmemQ (X' := [_, _, _, _, _, _]) (S' := [_, _, _, _, _]) (fun _ m => m) <| hthen <| hseq <| hreg <| hy (fun _ => y_move rfl) <| hy (fun m => yV (y_ldN rfl ag46 sz46 rfl ((m.blk 0 rfl).cells0)) ((rfl : _ = Value.agg y.cs.toArray))) <| hy (fun _ => y_nilp rfl) <| hy (fun _ => y_fld rfl fa48_1 (by decide)) <| ?_
      refine hx0 (xh_stNa 4 rfl rfl rfl sz46 rfl cs_one (show 6 ≤ 6 from Nat.le_refl 6) ?_)
      refine hmemL (fun w m => m.eqX 0 rfl (show _ = RBlk gw 48 (.pointer (some ⟨gd, 0, none⟩) :: y.cs) from congrArg (RBlk _ _) wcs_put)) ?_
      refine hend <| hsub (ρ' := [(9, _), (8, _), (7, _), (6, _), (36, _), (35, _), (5, _), (4, _), (3, _), (0, _), (1, _)]) ⟨rfl, rfl, rfl, rfl, rfl, rfl, rfl, rfl, rfl, rfl, rfl, trivial⟩ <| hmemQ (X' := [_, _, _, _, _, _]) (S' := [_, _, _, _, _]) (fun _ m => m) <| hthen <| hseq <| hdrwB [0, 0, 0, 0, 0] [0, 1, 2, 3, 4] rfl rfl [5] [(0, some 0), (1, some 0), (2, some 0), (3, some 0), (4, some 0), (5, none), (6, some 1), (7, some 1), (8, some 1), (9, some 1), (10, some 1)] (by kernel_rfl) (by kernel_rfl) rfl 99 <| htyU (y_move rfl) <| htyU (y_nilp rfl) <| htyU (y_fld rfl fa48_0 (by decide)) <| hty (fun m => y_ld1 rfl ag42 (ld_blk (m.blk 0 rfl) (i := 0) rfl)) <| hty (fun m => yV (y_ldN rfl ag33 sz33 (by rw [b8s_length]; exact hsl) ((m.blk 2 rfl).cells0)) ((rfl : _ = Value.agg (b8s (shaL bb)).toArray))) <| ?_
      refine htx (xh_call rfl Tryz.call52 (flipSC hsl hD (by omega)) [5] rfl [4] rfl ?_)
      rintro _ _ _ ⟨st1, rfl, rfl, rfl, hE1⟩
      refine ⟨(fun _ => wk [1, 1, 1, 1, 1] [0, 1, 2, 3, 4] rfl rfl), ?_⟩
      refine htyU (y_move rfl) <| htyU (y_extract rfl rfl) <| htyU (y_extract rfl rfl) <| htyU (y_assign rfl) <| htyU (y_assign rfl) <| htend <| hsub (ρ' := [(11, _), (10, _), (9, _), (8, _), (7, _), (6, _), (36, _), (35, _), (5, _), (4, _), (3, _), (0, _), (1, _)]) ⟨rfl, rfl, rfl, rfl, rfl, rfl, rfl, rfl, rfl, rfl, rfl, rfl, rfl, trivial⟩ <| hmemQ (X' := [_, _, _, _, _, _]) (S' := [_, _, _, _, _]) (fun _ m => m) <| hthen <| hseq <| hreg <| ?_
      refine hy (fun _ => y_move rfl) <| hy (fun _ => y_move rfl) <| hy (fun _ => yT (y_eql rfl rfl) ((decide_eq_true rfl))) <| hy (fun _ => y_move rfl) <| hyg (o := _) rfl rfl rfl (fun _ => y_move rfl) <| hyg (o := _) rfl rfl rfl (fun _ => y_move rfl) <| hyg (o := _) rfl rfl rfl (fun _ => yT (y_eql rfl rfl) ((decide_eq_true rfl))) <| hy (fun _ => y_pickT rfl rfl) <| hy (fun _ => y_assign rfl) <| hend <| hsub (ρ' := [(4, _), (11, _), (10, _), (9, _), (8, _), (7, _), (6, _), (36, _), (35, _), (5, _), (3, _), (0, _), (1, _)]) ⟨rfl, rfl, rfl, rfl, rfl, rfl, rfl, rfl, rfl, rfl, rfl, rfl, rfl, trivial⟩ <| hthen <| hret <| hqblock_ret <| hthen_ret <| ?_
      exact hret1 trivial rfl rfl [1, 0] rfl [0] rfl ⟨st1, y, rfl, rfl, rfl, (by rw [hy1]; exact hE1.le (by omega))⟩
    · refine hpx (xh_alloc ti46 (fun g7 => ⟨(fun _ => wk [1, 1, 1, 1, 1] [0, 1, 2, 3] rfl rfl), ?_⟩))
      refine hpx (xh_call rfl Tryz.call51 (rflipSC hsl okx (by omega)) [] rfl [0, 3] rfl ?_)
      rintro _ _ _ ⟨y, rfl, rfl, rfl, hy1⟩
      refine ⟨(fun _ => wk [1, 1, 1, 1, 1] [1, 2, 3, 4] rfl rfl), ?_⟩
      refine hpyU (y_move rfl) <| hpyU (y_extract rfl rfl) <| hpyU (y_extract rfl rfl) <| hpyU (y_extract rfl rfl) <| ?_
      refine hpx0 (xh_stA 0 rfl rfl rfl sz46 rfl cs_one rfl ⟨(fun h => absurd h (by decide)), ?_⟩)
      refine hpyU (y_assign rfl) <| hpyU (y_assign rfl) <| hpend <| hsub (ρ' := [(9, _), (8, _), (7, _), (6, _), (36, _), (35, _), (5, _), (4, _), (3, _), (0, _), (1, _)]) ⟨rfl, rfl, rfl, rfl, rfl, rfl, rfl, rfl, rfl, rfl, rfl, trivial⟩ <| hmemQ (X' := [_, _, _, _, _, _]) (S' := [_, _, _, _, _]) (fun _ m => m) <| hthen <| hseq <| hreg <| hy (fun _ => y_move rfl) <| hy (fun m => yV (y_ldN rfl ag46 sz46 rfl ((m.blk 0 rfl).cells0)) ((rfl : _ = Value.agg y.cs.toArray))) <| hy (fun _ => y_nilp rfl) <| hy (fun _ => y_fld rfl fa48_1 (by decide)) <| ?_
      refine hx0 (xh_stNa 4 rfl rfl rfl sz46 rfl cs_one (show 6 ≤ 6 from Nat.le_refl 6) ?_)
      refine hmemL (fun w m => m.eqX 0 rfl (show _ = RBlk gw 48 (.pointer (some ⟨gd, 0, none⟩) :: y.cs) from congrArg (RBlk _ _) wcs_put)) ?_
      refine hend <| hsub (ρ' := [(9, _), (8, _), (7, _), (6, _), (36, _), (35, _), (5, _), (4, _), (3, _), (0, _), (1, _)]) ⟨rfl, rfl, rfl, rfl, rfl, rfl, rfl, rfl, rfl, rfl, rfl, trivial⟩ <| hmemQ (X' := [_, _, _, _, _, _]) (S' := [_, _, _, _, _]) (fun _ m => m) <| hthen <| hseq <| hdrwB [0, 0, 0, 0, 0] [0, 1, 2, 3, 4] rfl rfl [5] [(0, some 0), (1, some 0), (2, some 0), (3, some 0), (4, some 0), (5, none), (6, some 1), (7, some 1), (8, some 1), (9, some 1), (10, some 1)] (by kernel_rfl) (by kernel_rfl) rfl 99 <| htyU (y_move rfl) <| htyU (y_nilp rfl) <| htyU (y_fld rfl fa48_0 (by decide)) <| hty (fun m => y_ld1 rfl ag42 (ld_blk (m.blk 0 rfl) (i := 0) rfl)) <| hty (fun m => yV (y_ldN rfl ag33 sz33 (by rw [b8s_length]; exact hsl) ((m.blk 2 rfl).cells0)) ((rfl : _ = Value.agg (b8s (shaL bb)).toArray))) <| ?_
      refine htx (xh_call rfl Tryz.call52 (flipSC hsl hD (by omega)) [5] rfl [4] rfl ?_)
      rintro _ _ _ ⟨st1, rfl, rfl, rfl, hE1⟩
      refine ⟨(fun _ => wk [1, 1, 1, 1, 1] [0, 1, 2, 3, 4] rfl rfl), ?_⟩
      refine htyU (y_move rfl) <| htyU (y_extract rfl rfl) <| htyU (y_extract rfl rfl) <| htyU (y_assign rfl) <| htyU (y_assign rfl) <| htend <| hsub (ρ' := [(11, _), (10, _), (9, _), (8, _), (7, _), (6, _), (36, _), (35, _), (5, _), (4, _), (3, _), (0, _), (1, _)]) ⟨rfl, rfl, rfl, rfl, rfl, rfl, rfl, rfl, rfl, rfl, rfl, rfl, rfl, trivial⟩ <| hmemQ (X' := [_, _, _, _, _, _]) (S' := [_, _, _, _, _]) (fun _ m => m) <| hthen <| hseq <| hreg <| ?_
      refine hy (fun _ => y_move rfl) <| hy (fun _ => y_move rfl) <| hy (fun _ => yT (y_eql rfl rfl) ((decide_eq_true rfl))) <| hy (fun _ => y_move rfl) <| hyg (o := _) rfl rfl rfl (fun _ => y_move rfl) <| hyg (o := _) rfl rfl rfl (fun _ => y_move rfl) <| hyg (o := _) rfl rfl rfl (fun _ => yT (y_eql rfl rfl) ((decide_eq_true rfl))) <| hy (fun _ => y_pickT rfl rfl) <| hy (fun _ => y_assign rfl) <| hend <| hsub (ρ' := [(4, _), (11, _), (10, _), (9, _), (8, _), (7, _), (6, _), (36, _), (35, _), (5, _), (3, _), (0, _), (1, _)]) ⟨rfl, rfl, rfl, rfl, rfl, rfl, rfl, rfl, rfl, rfl, rfl, rfl, rfl, trivial⟩ <| hthen <| hret <| hqblock_ret <| hthen_ret <| ?_
      exact hret1 trivial rfl rfl [1, 0] rfl [0] rfl ⟨st1, y, rfl, rfl, rfl, (by rw [hy1]; exact hE1.le (by omega))⟩
  · refine hseq <| hreg <| hy (fun _ => y_eql rfl rfl) <| hy (fun _ => y_assign rfl) <| hend <| hsub (ρ' := [(36, _), (35, _), (5, _), (4, _), (3, _), (0, _), (1, _)]) ⟨rfl, rfl, rfl, rfl, rfl, rfl, rfl, trivial⟩ <| hthen <| ?_
    refine hif rfl (fun c4 => ?_) (fun c4 => ?_)
    · refine hcskip <| hthen <| ?_
      refine hift rfl ((decide_eq_true c4)) ?_
      refine hseq <| hreg <| hy (fun _ => y_move rfl) <| ?_
      refine hx (xh_calll rfl Tryz.call23 (rshaSumC (by omega)) [] rfl (.x 0 rfl .own .nil) ?_)
      rintro _ _ _ ⟨rfl, rfl, rfl⟩
      refine ⟨rfl, ?_⟩
      refine hx (xh_alloc ti33 (fun g6 => ?_))
      refine hx0 (xh_stA 0 rfl rfl rfl sz33 (by rw [b8s_length]; exact hsl) b8s_oneCell rfl ?_)
      refine hend <| hsub (ρ' := [(6, _), (36, _), (35, _), (5, _), (4, _), (3, _), (0, _), (1, _)]) ⟨rfl, rfl, rfl, rfl, rfl, rfl, rfl, rfl, trivial⟩ <| hmemQ (X' := [_, _, _, _, _]) (S' := [_, _, _, _]) (fun _ m => m) <| hthen <| hseq <| hdrwP [5, 10, 11] (.take 0 2 <| .take 1 2 <| .take 2 2 <| .take 3 2 <| .take 4 2 <| .alt 5 (.take 6 2 <| .take 7 2 <| .take 8 3 <| .take 9 3 <| .alt 10 (.alt 11 (.take 12 3 <| .take 13 3 <| .done) (.stop)) (.stop)) (.alt 10 (.alt 5 (.take 6 2 <| .take 7 2 <| .take 8 3 <| .take 9 3 <| .alt 11 (.take 12 3 <| .take 13 3 <| .done) (.stop)) (.stop)) (.stop))) (by kernel_rfl) (by kernel_rfl) rfl 2 <| hpyU (y_move rfl) <| hpyU (y_nilp rfl) <| hpyU (y_fld rfl fa48_1 (by decide)) <| hpy (fun m => yV (y_ldN rfl ag46 sz46 rfl (wcs_D (m.blk 3 rfl))) ((rfl : _ = Value.agg x.cs.toArray))) <| hpy (fun m => yV (y_ldN rfl ag33 sz33 (by rw [b8s_length]; exact hsl) ((m.blk 0 rfl).cells0)) ((rfl : _ = Value.agg (b8s (shaL bb)).toArray))) <| ?_
      refine hpfork ?_ ?_
      · refine hpx (xh_call rfl Tryz.call51 (rflipSC hsl okx (by omega)) [] rfl [0, 3] rfl ?_)
        rintro _ _ _ ⟨y, rfl, rfl, rfl, hy1⟩
        refine ⟨(fun _ => wk [0, 0, 0, 0, 0] [1, 2, 3, 4] rfl rfl), ?_⟩
        refine hpyU (y_move rfl) <| hpyU (y_extract rfl rfl) <| hpyU (y_extract rfl rfl) <| hpyU (y_extract rfl rfl) <| ?_
        refine hpx (xh_alloc ti46 (fun g7 => ⟨(fun _ => wk [1, 1, 1, 1, 1] [1, 2, 3, 4] rfl rfl), ?_⟩))
        refine hpx0 (xh_stA 0 rfl rfl rfl sz46 rfl cs_one rfl ⟨(fun h => absurd h (by decide)), ?_⟩)
        refine hpyU (y_assign rfl) <| hpyU (y_assign rfl) <| hpend <| hsub (ρ' := [(9, _), (8, _), (7, _), (6, _), (36, _), (35, _), (5, _), (4, _), (3, _), (0, _), (1, _)]) ⟨rfl, rfl, rfl, rfl, rfl, rfl, rfl, rfl, rfl, rfl, rfl, trivial⟩ <| hmemQ (X' := [_, _, _, _, _, _]) (S' := [_, _, _, _, _]) (fun _ m => m) <| hthen <| hseq <| hreg <| hy (fun _ => y_move rfl) <| hy (fun m => yV (y_ldN rfl ag46 sz46 rfl ((m.blk 0 rfl).cells0)) ((rfl : _ = Value.agg y.cs.toArray))) <| hy (fun _ => y_nilp rfl) <| hy (fun _ => y_fld rfl fa48_1 (by decide)) <| ?_
        refine hx0 (xh_stNa 4 rfl rfl rfl sz46 rfl cs_one (show 6 ≤ 6 from Nat.le_refl 6) ?_)
        refine hmemL (fun w m => m.eqX 0 rfl (show _ = RBlk gw 48 (.pointer (some ⟨gd, 0, none⟩) :: y.cs) from congrArg (RBlk _ _) wcs_put)) ?_
        refine hend <| hsub (ρ' := [(9, _), (8, _), (7, _), (6, _), (36, _), (35, _), (5, _), (4, _), (3, _), (0, _), (1, _)]) ⟨rfl, rfl, rfl, rfl, rfl, rfl, rfl, rfl, rfl, rfl, rfl, trivial⟩ <| hmemQ (X' := [_, _, _, _, _, _]) (S' := [_, _, _, _, _]) (fun _ m => m) <| hthen <| hseq <| hdrwB [0, 0, 0, 0, 0] [0, 1, 2, 3, 4] rfl rfl [5] [(0, some 0), (1, some 0), (2, some 0), (3, some 0), (4, some 0), (5, none), (6, some 1), (7, some 1), (8, some 1), (9, some 1), (10, some 1)] (by kernel_rfl) (by kernel_rfl) rfl 99 <| htyU (y_move rfl) <| htyU (y_nilp rfl) <| htyU (y_fld rfl fa48_0 (by decide)) <| hty (fun m => y_ld1 rfl ag42 (ld_blk (m.blk 0 rfl) (i := 0) rfl)) <| hty (fun m => yV (y_ldN rfl ag33 sz33 (by rw [b8s_length]; exact hsl) ((m.blk 2 rfl).cells0)) ((rfl : _ = Value.agg (b8s (shaL bb)).toArray))) <| ?_
        refine htx (xh_call rfl Tryz.call52 (flipSC hsl hD (by omega)) [5] rfl [4] rfl ?_)
        rintro _ _ _ ⟨st1, rfl, rfl, rfl, hE1⟩
        refine ⟨(fun _ => wk [1, 1, 1, 1, 1] [0, 1, 2, 3, 4] rfl rfl), ?_⟩
        refine htyU (y_move rfl) <| htyU (y_extract rfl rfl) <| htyU (y_extract rfl rfl) <| htyU (y_assign rfl) <| htyU (y_assign rfl) <| htend <| hsub (ρ' := [(11, _), (10, _), (9, _), (8, _), (7, _), (6, _), (36, _), (35, _), (5, _), (4, _), (3, _), (0, _), (1, _)]) ⟨rfl, rfl, rfl, rfl, rfl, rfl, rfl, rfl, rfl, rfl, rfl, rfl, rfl, trivial⟩ <| hmemQ (X' := [_, _, _, _, _, _]) (S' := [_, _, _, _, _]) (fun _ m => m) <| hthen <| hseq <| hreg <| ?_
        refine hy (fun _ => y_move rfl) <| hy (fun _ => y_move rfl) <| hy (fun _ => yT (y_eql rfl rfl) ((decide_eq_true rfl))) <| hy (fun _ => y_move rfl) <| hyg (o := _) rfl rfl rfl (fun _ => y_move rfl) <| hyg (o := _) rfl rfl rfl (fun _ => y_move rfl) <| hyg (o := _) rfl rfl rfl (fun _ => yT (y_eql rfl rfl) ((decide_eq_true rfl))) <| hy (fun _ => y_pickT rfl rfl) <| hy (fun _ => y_assign rfl) <| hend <| hsub (ρ' := [(4, _), (11, _), (10, _), (9, _), (8, _), (7, _), (6, _), (36, _), (35, _), (5, _), (3, _), (0, _), (1, _)]) ⟨rfl, rfl, rfl, rfl, rfl, rfl, rfl, rfl, rfl, rfl, rfl, rfl, rfl, trivial⟩ <| hthen <| hret <| hqblock_ret <| hthen_ret <| ?_
        exact hret1 trivial rfl rfl [1, 0] rfl [0] rfl ⟨st1, y, rfl, rfl, rfl, (by rw [hy1]; exact hE1.le (by omega))⟩
      · refine hpx (xh_alloc ti46 (fun g7 => ⟨(fun _ => wk [1, 1, 1, 1, 1] [0, 1, 2, 3] rfl rfl), ?_⟩))
        refine hpx (xh_call rfl Tryz.call51 (rflipSC hsl okx (by omega)) [] rfl [0, 3] rfl ?_)
        rintro _ _ _ ⟨y, rfl, rfl, rfl, hy1⟩
        refine ⟨(fun _ => wk [1, 1, 1, 1, 1] [1, 2, 3, 4] rfl rfl), ?_⟩
        refine hpyU (y_move rfl) <| hpyU (y_extract rfl rfl) <| hpyU (y_extract rfl rfl) <| hpyU (y_extract rfl rfl) <| ?_
        refine hpx0 (xh_stA 0 rfl rfl rfl sz46 rfl cs_one rfl ⟨(fun h => absurd h (by decide)), ?_⟩)
        refine hpyU (y_assign rfl) <| hpyU (y_assign rfl) <| hpend <| hsub (ρ' := [(9, _), (8, _), (7, _), (6, _), (36, _), (35, _), (5, _), (4, _), (3, _), (0, _), (1, _)]) ⟨rfl, rfl, rfl, rfl, rfl, rfl, rfl, rfl, rfl, rfl, rfl, trivial⟩ <| hmemQ (X' := [_, _, _, _, _, _]) (S' := [_, _, _, _, _]) (fun _ m => m) <| hthen <| hseq <| hreg <| hy (fun _ => y_move rfl) <| hy (fun m => yV (y_ldN rfl ag46 sz46 rfl ((m.blk 0 rfl).cells0)) ((rfl : _ = Value.agg y.cs.toArray))) <| hy (fun _ => y_nilp rfl) <| hy (fun _ => y_fld rfl fa48_1 (by decide)) <| ?_
        refine hx0 (xh_stNa 4 rfl rfl rfl sz46 rfl cs_one (show 6 ≤ 6 from Nat.le_refl 6) ?_)
        refine hmemL (fun w m => m.eqX 0 rfl (show _ = RBlk gw 48 (.pointer (some ⟨gd, 0, none⟩) :: y.cs) from congrArg (RBlk _ _) wcs_put)) ?_
        refine hend <| hsub (ρ' := [(9, _), (8, _), (7, _), (6, _), (36, _), (35, _), (5, _), (4, _), (3, _), (0, _), (1, _)]) ⟨rfl, rfl, rfl, rfl, rfl, rfl, rfl, rfl, rfl, rfl, rfl, trivial⟩ <| hmemQ (X' := [_, _, _, _, _, _]) (S' := [_, _, _, _, _]) (fun _ m => m) <| hthen <| hseq <| hdrwB [0, 0, 0, 0, 0] [0, 1, 2, 3, 4] rfl rfl [5] [(0, some 0), (1, some 0), (2, some 0), (3, some 0), (4, some 0), (5, none), (6, some 1), (7, some 1), (8, some 1), (9, some 1), (10, some 1)] (by kernel_rfl) (by kernel_rfl) rfl 99 <| htyU (y_move rfl) <| htyU (y_nilp rfl) <| htyU (y_fld rfl fa48_0 (by decide)) <| hty (fun m => y_ld1 rfl ag42 (ld_blk (m.blk 0 rfl) (i := 0) rfl)) <| hty (fun m => yV (y_ldN rfl ag33 sz33 (by rw [b8s_length]; exact hsl) ((m.blk 2 rfl).cells0)) ((rfl : _ = Value.agg (b8s (shaL bb)).toArray))) <| ?_
        refine htx (xh_call rfl Tryz.call52 (flipSC hsl hD (by omega)) [5] rfl [4] rfl ?_)
        rintro _ _ _ ⟨st1, rfl, rfl, rfl, hE1⟩
        refine ⟨(fun _ => wk [1, 1, 1, 1, 1] [0, 1, 2, 3, 4] rfl rfl), ?_⟩
        refine htyU (y_move rfl) <| htyU (y_extract rfl rfl) <| htyU (y_extract rfl rfl) <| htyU (y_assign rfl) <| htyU (y_assign rfl) <| htend <| hsub (ρ' := [(11, _), (10, _), (9, _), (8, _), (7, _), (6, _), (36, _), (35, _), (5, _), (4, _), (3, _), (0, _), (1, _)]) ⟨rfl, rfl, rfl, rfl, rfl, rfl, rfl, rfl, rfl, rfl, rfl, rfl, rfl, trivial⟩ <| hmemQ (X' := [_, _, _, _, _, _]) (S' := [_, _, _, _, _]) (fun _ m => m) <| hthen <| hseq <| hreg <| ?_
        refine hy (fun _ => y_move rfl) <| hy (fun _ => y_move rfl) <| hy (fun _ => yT (y_eql rfl rfl) ((decide_eq_true rfl))) <| hy (fun _ => y_move rfl) <| hyg (o := _) rfl rfl rfl (fun _ => y_move rfl) <| hyg (o := _) rfl rfl rfl (fun _ => y_move rfl) <| hyg (o := _) rfl rfl rfl (fun _ => yT (y_eql rfl rfl) ((decide_eq_true rfl))) <| hy (fun _ => y_pickT rfl rfl) <| hy (fun _ => y_assign rfl) <| hend <| hsub (ρ' := [(4, _), (11, _), (10, _), (9, _), (8, _), (7, _), (6, _), (36, _), (35, _), (5, _), (3, _), (0, _), (1, _)]) ⟨rfl, rfl, rfl, rfl, rfl, rfl, rfl, rfl, rfl, rfl, rfl, rfl, rfl, trivial⟩ <| hthen <| hret <| hqblock_ret <| hthen_ret <| ?_
        exact hret1 trivial rfl rfl [1, 0] rfl [0] rfl ⟨st1, y, rfl, rfl, rfl, (by rw [hy1]; exact hE1.le (by omega))⟩
    · refine hreg <| hy (fun _ => y_eql rfl rfl) <| hy (fun _ => y_assign rfl) <| hend <| hsub (ρ' := [(36, _), (35, _), (5, _), (4, _), (3, _), (0, _), (1, _)]) ⟨rfl, rfl, rfl, rfl, rfl, rfl, rfl, trivial⟩ <| hthen <| ?_
      refine hif rfl (fun c5 => ?_) (fun c5 => ?_)
      · refine hseq <| hreg <| hy (fun _ => y_move rfl) <| ?_
        refine hx (xh_calll rfl Tryz.call23 (rshaSumC (by omega)) [] rfl (.x 0 rfl .own .nil) ?_)
        rintro _ _ _ ⟨rfl, rfl, rfl⟩
        refine ⟨rfl, ?_⟩
        refine hx (xh_alloc ti33 (fun g6 => ?_))
        refine hx0 (xh_stA 0 rfl rfl rfl sz33 (by rw [b8s_length]; exact hsl) b8s_oneCell rfl ?_)
        refine hend <| hsub (ρ' := [(6, _), (36, _), (35, _), (5, _), (4, _), (3, _), (0, _), (1, _)]) ⟨rfl, rfl, rfl, rfl, rfl, rfl, rfl, rfl, trivial⟩ <| hmemQ (X' := [_, _, _, _, _]) (S' := [_, _, _, _]) (fun _ m => m) <| hthen <| hseq <| hdrwP [5, 10, 11] (.take 0 2 <| .take 1 2 <| .take 2 2 <| .take 3 2 <| .take 4 2 <| .alt 5 (.take 6 2 <| .take 7 2 <| .take 8 3 <| .take 9 3 <| .alt 10 (.alt 11 (.take 12 3 <| .take 13 3 <| .done) (.stop)) (.stop)) (.alt 10 (.alt 5 (.take 6 2 <| .take 7 2 <| .take 8 3 <| .take 9 3 <| .alt 11 (.take 12 3 <| .take 13 3 <| .done) (.stop)) (.stop)) (.stop))) (by kernel_rfl) (by kernel_rfl) rfl 2 <| hpyU (y_move rfl) <| hpyU (y_nilp rfl) <| hpyU (y_fld rfl fa48_1 (by decide)) <| hpy (fun m => yV (y_ldN rfl ag46 sz46 rfl (wcs_D (m.blk 3 rfl))) ((rfl : _ = Value.agg x.cs.toArray))) <| hpy (fun m => yV (y_ldN rfl ag33 sz33 (by rw [b8s_length]; exact hsl) ((m.blk 0 rfl).cells0)) ((rfl : _ = Value.agg (b8s (shaL bb)).toArray))) <| ?_
        refine hpfork ?_ ?_
        · refine hpx (xh_call rfl Tryz.call51 (rflipSC hsl okx (by omega)) [] rfl [0, 3] rfl ?_)
          rintro _ _ _ ⟨y, rfl, rfl, rfl, hy1⟩
          refine ⟨(fun _ => wk [0, 0, 0, 0, 0] [1, 2, 3, 4] rfl rfl), ?_⟩
          refine hpyU (y_move rfl) <| hpyU (y_extract rfl rfl) <| hpyU (y_extract rfl rfl) <| hpyU (y_extract rfl rfl) <| ?_
          refine hpx (xh_alloc ti46 (fun g7 => ⟨(fun _ => wk [1, 1, 1, 1, 1] [1, 2, 3, 4] rfl rfl), ?_⟩))
          refine hpx0 (xh_stA 0 rfl rfl rfl sz46 rfl cs_one rfl ⟨(fun h => absurd h (by decide)), ?_⟩)
          refine hpyU (y_assign rfl) <| hpyU (y_assign rfl) <| hpend <| hsub (ρ' := [(9, _), (8, _), (7, _), (6, _), (36, _), (35, _), (5, _), (4, _), (3, _), (0, _), (1, _)]) ⟨rfl, rfl, rfl, rfl, rfl, rfl, rfl, rfl, rfl, rfl, rfl, trivial⟩ <| hmemQ (X' := [_, _, _, _, _, _]) (S' := [_, _, _, _, _]) (fun _ m => m) <| hthen <| hseq <| hreg <| hy (fun _ => y_move rfl) <| hy (fun m => yV (y_ldN rfl ag46 sz46 rfl ((m.blk 0 rfl).cells0)) ((rfl : _ = Value.agg y.cs.toArray))) <| hy (fun _ => y_nilp rfl) <| hy (fun _ => y_fld rfl fa48_1 (by decide)) <| ?_
          refine hx0 (xh_stNa 4 rfl rfl rfl sz46 rfl cs_one (show 6 ≤ 6 from Nat.le_refl 6) ?_)
          refine hmemL (fun w m => m.eqX 0 rfl (show _ = RBlk gw 48 (.pointer (some ⟨gd, 0, none⟩) :: y.cs) from congrArg (RBlk _ _) wcs_put)) ?_
          refine hend <| hsub (ρ' := [(9, _), (8, _), (7, _), (6, _), (36, _), (35, _), (5, _), (4, _), (3, _), (0, _), (1, _)]) ⟨rfl, rfl, rfl, rfl, rfl, rfl, rfl, rfl, rfl, rfl, rfl, trivial⟩ <| hmemQ (X' := [_, _, _, _, _, _]) (S' := [_, _, _, _, _]) (fun _ m => m) <| hthen <| hseq <| hdrwB [0, 0, 0, 0, 0] [0, 1, 2, 3, 4] rfl rfl [5] [(0, some 0), (1, some 0), (2, some 0), (3, some 0), (4, some 0), (5, none), (6, some 1), (7, some 1), (8, some 1), (9, some 1), (10, some 1)] (by kernel_rfl) (by kernel_rfl) rfl 99 <| htyU (y_move rfl) <| htyU (y_nilp rfl) <| htyU (y_fld rfl fa48_0 (by decide)) <| hty (fun m => y_ld1 rfl ag42 (ld_blk (m.blk 0 rfl) (i := 0) rfl)) <| hty (fun m => yV (y_ldN rfl ag33 sz33 (by rw [b8s_length]; exact hsl) ((m.blk 2 rfl).cells0)) ((rfl : _ = Value.agg (b8s (shaL bb)).toArray))) <| ?_
          refine htx (xh_call rfl Tryz.call52 (flipSC hsl hD (by omega)) [5] rfl [4] rfl ?_)
          rintro _ _ _ ⟨st1, rfl, rfl, rfl, hE1⟩
          refine ⟨(fun _ => wk [1, 1, 1, 1, 1] [0, 1, 2, 3, 4] rfl rfl), ?_⟩
          refine htyU (y_move rfl) <| htyU (y_extract rfl rfl) <| htyU (y_extract rfl rfl) <| htyU (y_assign rfl) <| htyU (y_assign rfl) <| htend <| hsub (ρ' := [(11, _), (10, _), (9, _), (8, _), (7, _), (6, _), (36, _), (35, _), (5, _), (4, _), (3, _), (0, _), (1, _)]) ⟨rfl, rfl, rfl, rfl, rfl, rfl, rfl, rfl, rfl, rfl, rfl, rfl, rfl, trivial⟩ <| hmemQ (X' := [_, _, _, _, _, _]) (S' := [_, _, _, _, _]) (fun _ m => m) <| hthen <| hseq <| hreg <| ?_
          refine hy (fun _ => y_move rfl) <| hy (fun _ => y_move rfl) <| hy (fun _ => yT (y_eql rfl rfl) ((decide_eq_true rfl))) <| hy (fun _ => y_move rfl) <| hyg (o := _) rfl rfl rfl (fun _ => y_move rfl) <| hyg (o := _) rfl rfl rfl (fun _ => y_move rfl) <| hyg (o := _) rfl rfl rfl (fun _ => yT (y_eql rfl rfl) ((decide_eq_true rfl))) <| hy (fun _ => y_pickT rfl rfl) <| hy (fun _ => y_assign rfl) <| hend <| hsub (ρ' := [(4, _), (11, _), (10, _), (9, _), (8, _), (7, _), (6, _), (36, _), (35, _), (5, _), (3, _), (0, _), (1, _)]) ⟨rfl, rfl, rfl, rfl, rfl, rfl, rfl, rfl, rfl, rfl, rfl, rfl, rfl, trivial⟩ <| hthen <| hret <| hqblock_ret <| hthen_ret <| ?_
          exact hret1 trivial rfl rfl [1, 0] rfl [0] rfl ⟨st1, y, rfl, rfl, rfl, (by rw [hy1]; exact hE1.le (by omega))⟩
        · refine hpx (xh_alloc ti46 (fun g7 => ⟨(fun _ => wk [1, 1, 1, 1, 1] [0, 1, 2, 3] rfl rfl), ?_⟩))
          refine hpx (xh_call rfl Tryz.call51 (rflipSC hsl okx (by omega)) [] rfl [0, 3] rfl ?_)
          rintro _ _ _ ⟨y, rfl, rfl, rfl, hy1⟩
          refine ⟨(fun _ => wk [1, 1, 1, 1, 1] [1, 2, 3, 4] rfl rfl), ?_⟩
          refine hpyU (y_move rfl) <| hpyU (y_extract rfl rfl) <| hpyU (y_extract rfl rfl) <| hpyU (y_extract rfl rfl) <| ?_
          refine hpx0 (xh_stA 0 rfl rfl rfl sz46 rfl cs_one rfl ⟨(fun h => absurd h (by decide)), ?_⟩)
          refine hpyU (y_assign rfl) <| hpyU (y_assign rfl) <| hpend <| hsub (ρ' := [(9, _), (8, _), (7, _), (6, _), (36, _), (35, _), (5, _), (4, _), (3, _), (0, _), (1, _)]) ⟨rfl, rfl, rfl, rfl, rfl, rfl, rfl, rfl, rfl, rfl, rfl, trivial⟩ <| hmemQ (X' := [_, _, _, _, _, _]) (S' := [_, _, _, _, _]) (fun _ m => m) <| hthen <| hseq <| hreg <| hy (fun _ => y_move rfl) <| hy (fun m => yV (y_ldN rfl ag46 sz46 rfl ((m.blk 0 rfl).cells0)) ((rfl : _ = Value.agg y.cs.toArray))) <| hy (fun _ => y_nilp rfl) <| hy (fun _ => y_fld rfl fa48_1 (by decide)) <| ?_
          refine hx0 (xh_stNa 4 rfl rfl rfl sz46 rfl cs_one (show 6 ≤ 6 from Nat.le_refl 6) ?_)
          refine hmemL (fun w m => m.eqX 0 rfl (show _ = RBlk gw 48 (.pointer (some ⟨gd, 0, none⟩) :: y.cs) from congrArg (RBlk _ _) wcs_put)) ?_
          refine hend <| hsub (ρ' := [(9, _), (8, _), (7, _), (6, _), (36, _), (35, _), (5, _), (4, _), (3, _), (0, _), (1, _)]) ⟨rfl, rfl, rfl, rfl, rfl, rfl, rfl, rfl, rfl, rfl, rfl, trivial⟩ <| hmemQ (X' := [_, _, _, _, _, _]) (S' := [_, _, _, _, _]) (fun _ m => m) <| hthen <| hseq <| hdrwB [0, 0, 0, 0, 0] [0, 1, 2, 3, 4] rfl rfl [5] [(0, some 0), (1, some 0), (2, some 0), (3, some 0), (4, some 0), (5, none), (6, some 1), (7, some 1), (8, some 1), (9, some 1), (10, some 1)] (by kernel_rfl) (by kernel_rfl) rfl 99 <| htyU (y_move rfl) <| htyU (y_nilp rfl) <| htyU (y_fld rfl fa48_0 (by decide)) <| hty (fun m => y_ld1 rfl ag42 (ld_blk (m.blk 0 rfl) (i := 0) rfl)) <| hty (fun m => yV (y_ldN rfl ag33 sz33 (by rw [b8s_length]; exact hsl) ((m.blk 2 rfl).cells0)) ((rfl : _ = Value.agg (b8s (shaL bb)).toArray))) <| ?_
          refine htx (xh_call rfl Tryz.call52 (flipSC hsl hD (by omega)) [5] rfl [4] rfl ?_)
          rintro _ _ _ ⟨st1, rfl, rfl, rfl, hE1⟩
          refine ⟨(fun _ => wk [1, 1, 1, 1, 1] [0, 1, 2, 3, 4] rfl rfl), ?_⟩
          refine htyU (y_move rfl) <| htyU (y_extract rfl rfl) <| htyU (y_extract rfl rfl) <| htyU (y_assign rfl) <| htyU (y_assign rfl) <| htend <| hsub (ρ' := [(11, _), (10, _), (9, _), (8, _), (7, _), (6, _), (36, _), (35, _), (5, _), (4, _), (3, _), (0, _), (1, _)]) ⟨rfl, rfl, rfl, rfl, rfl, rfl, rfl, rfl, rfl, rfl, rfl, rfl, rfl, trivial⟩ <| hmemQ (X' := [_, _, _, _, _, _]) (S' := [_, _, _, _, _]) (fun _ m => m) <| hthen <| hseq <| hreg <| ?_
          refine hy (fun _ => y_move rfl) <| hy (fun _ => y_move rfl) <| hy (fun _ => yT (y_eql rfl rfl) ((decide_eq_true rfl))) <| hy (fun _ => y_move rfl) <| hyg (o := _) rfl rfl rfl (fun _ => y_move rfl) <| hyg (o := _) rfl rfl rfl (fun _ => y_move rfl) <| hyg (o := _) rfl rfl rfl (fun _ => yT (y_eql rfl rfl) ((decide_eq_true rfl))) <| hy (fun _ => y_pickT rfl rfl) <| hy (fun _ => y_assign rfl) <| hend <| hsub (ρ' := [(4, _), (11, _), (10, _), (9, _), (8, _), (7, _), (6, _), (36, _), (35, _), (5, _), (3, _), (0, _), (1, _)]) ⟨rfl, rfl, rfl, rfl, rfl, rfl, rfl, rfl, rfl, rfl, rfl, rfl, rfl, trivial⟩ <| hthen <| hret <| hqblock_ret <| hthen_ret <| ?_
          exact hret1 trivial rfl rfl [1, 0] rfl [0] rfl ⟨st1, y, rfl, rfl, rfl, (by rw [hy1]; exact hE1.le (by omega))⟩
      · refine hseq <| hreg <| hy (fun _ => y_eql rfl rfl) <| hy (fun _ => y_assign rfl) <| hend <| hsub (ρ' := [(73, _), (36, _), (35, _), (5, _), (4, _), (3, _), (0, _), (1, _)]) ⟨rfl, rfl, rfl, rfl, rfl, rfl, rfl, rfl, trivial⟩ <| hthen <| ?_
        refine hif rfl (fun c6 => ?_) (fun c6 => ?_)
        · refine hseq <| hreg <| hy (fun _ => y_move rfl) <| hy (fun _ => y_nilp rfl) <| hy (fun _ => y_fld rfl fa48_1 (by decide)) <| hy (fun m => yV (y_ldN rfl ag46 sz46 rfl (wcs_D (m.blk 2 rfl))) ((rfl : _ = Value.agg x.cs.toArray))) <| ?_
          refine hx (xh_call rfl Tryz.call53 (rbackSC okx (by omega)) [] rfl [0, 3] rfl ?_)
          rintro _ _ _ ⟨y, rfl, rfl, rfl, hy1⟩
          refine hy (fun _ => y_move rfl) <| hy (fun _ => y_extract rfl rfl) <| hy (fun _ => y_extract rfl rfl) <| hy (fun _ => y_extract rfl rfl) <| ?_
          refine hx (xh_alloc ti46 (fun g12 => ?_))
          refine hx0 (xh_stA 0 rfl rfl rfl sz46 rfl cs_one rfl ?_)
          refine hy (fun _ => y_assign rfl) <| hy (fun _ => y_assign rfl) <| hend <| hsub (ρ' := [(14, _), (13, _), (12, _), (73, _), (36, _), (35, _), (5, _), (4, _), (3, _), (0, _), (1, _)]) ⟨rfl, rfl, rfl, rfl, rfl, rfl, rfl, rfl, rfl, rfl, rfl, trivial⟩ <| hmemQ (X' := [_, _, _, _, _]) (S' := [_, _, _, _, _]) (fun _ m => m) <| hthen <| hseq <| hreg <| hy (fun _ => y_move rfl) <| hy (fun m => yV (y_ldN rfl ag46 sz46 rfl ((m.blk 0 rfl).cells0)) ((rfl : _ = Value.agg y.cs.toArray))) <| hy (fun _ => y_nilp rfl) <| hy (fun _ => y_fld rfl fa48_1 (by decide)) <| ?_
          refine hx0 (xh_stNa 3 rfl rfl rfl sz46 rfl cs_one (show 6 ≤ 6 from Nat.le_refl 6) ?_)
          refine hmemL (fun w m => m.eqX 0 rfl (show _ = RBlk gw 48 (.pointer (some ⟨gd, 0, none⟩) :: y.cs) from congrArg (RBlk _ _) wcs_put)) ?_
          refine hend <| hsub (ρ' := [(14, _), (13, _), (12, _), (73, _), (36, _), (35, _), (5, _), (4, _), (3, _), (0, _), (1, _)]) ⟨rfl, rfl, rfl, rfl, rfl, rfl, rfl, rfl, rfl, rfl, rfl, trivial⟩ <| hmemQ (X' := [_, _, _, _, _]) (S' := [_, _, _, _, _]) (fun _ m => m) <| hthen <| hseq <| hreg <| hy (fun _ => y_move rfl) <| hy (fun _ => y_nilp rfl) <| hy (fun _ => y_fld rfl fa48_0 (by decide)) <| hy (fun m => y_ld1 rfl ag42 (ld_blk (m.blk 0 rfl) (i := 0) rfl)) <| ?_
          refine hx (xh_call rfl Tryz.call54 (backSC hD (by omega)) [4] rfl [4] rfl ?_)
          rintro _ _ _ ⟨st1, rfl, rfl, rfl, hE1⟩
          refine hy (fun _ => y_move rfl) <| hy (fun _ => y_extract rfl rfl) <| hy (fun _ => y_extract rfl rfl) <| hy (fun _ => y_assign rfl) <| hy (fun _ => y_assign rfl) <| hend <| hsub (ρ' := [(16, _), (15, _), (14, _), (13, _), (12, _), (73, _), (36, _), (35, _), (5, _), (4, _), (3, _), (0, _), (1, _)]) ⟨rfl, rfl, rfl, rfl, rfl, rfl, rfl, rfl, rfl, rfl, rfl, rfl, rfl, trivial⟩ <| hmemQ (X' := [_, _, _, _, _]) (S' := [_, _, _, _, _]) (fun _ m => m) <| hthen <| hseq <| hreg <| ?_
          refine hy (fun _ => y_move rfl) <| hy (fun _ => y_move rfl) <| hy (fun _ => yT (y_eql rfl rfl) ((decide_eq_true rfl))) <| hy (fun _ => y_move rfl) <| hyg (o := _) rfl rfl rfl (fun _ => y_move rfl) <| hyg (o := _) rfl rfl rfl (fun _ => y_move rfl) <| hyg (o := _) rfl rfl rfl (fun _ => yT (y_eql rfl rfl) ((decide_eq_true rfl))) <| hy (fun _ => y_pickT rfl rfl) <| hy (fun _ => y_assign rfl) <| hend <| hsub (ρ' := [(4, _), (16, _), (15, _), (14, _), (13, _), (12, _), (73, _), (36, _), (35, _), (5, _), (3, _), (0, _), (1, _)]) ⟨rfl, rfl, rfl, rfl, rfl, rfl, rfl, rfl, rfl, rfl, rfl, rfl, rfl, trivial⟩ <| hthen <| hret <| hqblock_ret <| hthen_ret <| ?_
          exact hret1 trivial rfl rfl [1, 0] rfl [0] rfl ⟨st1, y, rfl, rfl, rfl, (by rw [hy1]; exact hE1.le (by omega))⟩
        · refine hseq <| hreg <| hy (fun _ => y_eql rfl rfl) <| hy (fun _ => y_assign rfl) <| hend <| hsub (ρ' := [(104, _), (73, _), (36, _), (35, _), (5, _), (4, _), (3, _), (0, _), (1, _)]) ⟨rfl, rfl, rfl, rfl, rfl, rfl, rfl, rfl, rfl, trivial⟩ <| hthen <| ?_
          refine hif rfl (fun c7 => ?_) (fun c7 => ?_)
          · refine hseq <| hdrw [7] [(0, some 0), (1, some 0), (2, some 0), (3, some 0), (4, some 0), (5, some 0), (6, some 0), (7, none), (8, some 1), (9, some 1), (10, some 1), (11, some 1), (12, some 1)] (by kernel_rfl) (by kernel_rfl) rfl 99 <| htyU (y_move rfl) <| htyU (y_nilp rfl) <| htyU (y_fld rfl fa48_0 (by decide)) <| hty (fun m => y_ld1 rfl ag42 (ld_blk (m.blk 2 rfl) (i := 0) rfl)) <| htyU (y_fld rfl fa30_1 (by decide)) <| hty (fun m => y_ld1 rfl ag3 (ld_blk (m.blk 1 rfl) (i := 1) rfl)) <| ?_
            refine htyU (y_rem' rfl rfl (by decide)) ?_
            refine htx (xh_call rfl Tryz.call55 (pimageSC hD) [3] rfl [3] rfl ?_)
            rintro _ _ _ ⟨v2, rfl, rfl, rfl⟩
            refine ⟨(fun _ => wk [2, 2, 2, 0] [0, 1, 2, 3] rfl rfl), ?_⟩
            refine htfact (fun m => (m.own 1 rfl).slice) ?_
            rintro ⟨A_x2, c_x2, rfl, hc_x2⟩
            refine htfact (fun m => (m.ord 1 rfl).2.1) fun hA_x2 => ?_
            refine htyU (y_move rfl) <| htyU (y_extract rfl rfl) <| htyU (y_extract rfl rfl) <| htyU (y_assign rfl) <| htyU (y_assign rfl) <| htend <| hsub (ρ' := [(18, _), (17, _), (104, _), (73, _), (36, _), (35, _), (5, _), (4, _), (3, _), (0, _), (1, _)]) ⟨rfl, rfl, rfl, rfl, rfl, rfl, rfl, rfl, rfl, rfl, rfl, trivial⟩ <| hmemQ (X' := [_, _, _, _, _]) (S' := [_, _, _, _]) (fun _ m => m) <| hthen <| hseq <| hdrwB [1, 1, 1, 1] [0, 1, 2, 3] rfl rfl [7] [(0, some 0), (1, some 0), (2, some 0), (3, some 0), (4, some 0), (5, some 0), (6, some 0), (7, none), (8, some 1), (9, some 1), (10, some 1), (11, some 1), (12, some 1)] (by kernel_rfl) (by kernel_rfl) rfl 99 <| htyU (y_move rfl) <| htyU (y_nilp rfl) <| htyU (y_fld rfl fa48_1 (by decide)) <| hty (fun m => yV (y_ldN rfl ag46 sz46 rfl (wcs_D (m.blk 3 rfl))) ((rfl : _ = Value.agg x.cs.toArray))) <| htyU (y_fld rfl fa30_1 (by decide)) <| hty (fun m => y_ld1 rfl ag3 (ld_blk (m.blk 2 rfl) (i := 1) rfl)) <| ?_
            refine htyU (y_rem' rfl rfl (by decide)) ?_
            refine htx (xh_call rfl Tryz.call56 (rimageSC okx (by omega)) [] rfl [0, 3] rfl ?_)
            rintro _ _ _ ⟨rfl, rfl, rfl⟩
            refine ⟨(fun _ => wk [1, 1, 1, 1] [0, 1, 2, 3] rfl rfl), ?_⟩
            refine htyU (y_move rfl) <| htyU (y_extract rfl rfl) <| htyU (y_extract rfl rfl) <| htyU (y_assign rfl) <| htyU (y_assign rfl) <| htend <| hsub (ρ' := [(20, _), (19, _), (18, _), (17, _), (104, _), (73, _), (36, _), (35, _), (5, _), (4, _), (3, _), (0, _), (1, _)]) ⟨rfl, rfl, rfl, rfl, rfl, rfl, rfl, rfl, rfl, rfl, rfl, rfl, rfl, trivial⟩ <| hmemQ (X' := [_, _, _, _, _]) (S' := [_, _, _, _]) (fun _ m => m) <| hthen <| hseq <| hreg <| ?_
            refine hy (fun _ => y_move rfl) <| hy (fun m => y_b2s rfl Tryz.underlying27 Tryz.underlying5 Tryz.underlying9 (m.ord 1 rfl)) <| hy (fun _ => y_move rfl) <| hy (fun _ => yT (y_seq rfl rfl) ((decide_eq_true rfl))) <| hy (fun _ => y_move rfl) <| hyg (o := _) rfl rfl rfl (fun _ => y_move rfl) <| hyg (o := _) rfl rfl rfl (fun _ => y_move rfl) <| hyg (o := _) rfl rfl rfl (fun _ => yT (y_eql rfl rfl) ((decide_eq_true rfl))) <| hy (fun _ => y_pickT rfl rfl) <| hy (fun _ => y_assign rfl) <| hend <| hsub (ρ' := [(4, _), (20, _), (19, _), (18, _), (17, _), (104, _), (73, _), (36, _), (35, _), (5, _), (3, _), (0, _), (1, _)]) ⟨rfl, rfl, rfl, rfl, rfl, rfl, rfl, rfl, rfl, rfl, rfl, rfl, rfl, trivial⟩ <| hthen <| hret <| hqblock_ret <| hthen_ret <| ?_
            exact hret1 trivial rfl rfl [4, 0] rfl [0] rfl ⟨st, x, rfl, rfl, rfl, hD.le (by omega)⟩
          · refine hseq <| hreg <| hy (fun _ => y_eql rfl rfl) <| hy (fun _ => y_assign rfl) <| hend <| hsub (ρ' := [(137, _), (104, _), (73, _), (36, _), (35, _), (5, _), (4, _), (3, _), (0, _), (1, _)]) ⟨rfl, rfl, rfl, rfl, rfl, rfl, rfl, rfl, rfl, rfl, trivial⟩ <| hthen <| ?_
            refine hif rfl (fun c8 => ?_) (fun c8 => ?_)
            · have hm1 : z.tmod 11 ≤ 1000000000000 := by
                have := Int.tmod_lt_of_pos z (show (0 : Int) < 11 by decide)
                omega
              refine hseq <| hseq <| hreg <| hy (fun _ => y_fld rfl fa30_1 (by decide)) <| hy (fun m => y_ld1 rfl ag3 (ld_blk (m.blk 1 rfl) (i := 1) rfl)) <| ?_
              refine hy (fun m => y_rem' rfl rfl (by decide)) ?_
              refine hy (fun _ => y_eql rfl rfl) <| hend <| hsub (ρ' := [(142, _), (137, _), (104, _), (73, _), (36, _), (35, _), (5, _), (4, _), (3, _), (0, _), (1, _)]) ⟨rfl, rfl, rfl, rfl, rfl, rfl, rfl, rfl, rfl, rfl, rfl, trivial⟩ <| hthen <| ?_
              refine hif rfl (fun p0 => ?_) (fun p0 => ?_)
              · refine hseq <| hdrw [7] [(0, some 0), (1, some 0), (2, some 0), (3, some 0), (4, some 0), (5, some 0), (6, some 0), (7, none)] (by kernel_rfl) (by kernel_rfl) rfl 0 <| htyU (y_move rfl) <| htyU (y_nilp rfl) <| htyU (y_fld rfl fa48_0 (by decide)) <| hty (fun m => y_ld1 rfl ag42 (ld_blk (m.blk 2 rfl) (i := 0) rfl)) <| htyU (y_fld rfl fa30_1 (by decide)) <| hty (fun m => y_ld1 rfl ag3 (ld_blk (m.blk 1 rfl) (i := 1) rfl)) <| ?_
                refine htyU (y_rem' rfl rfl (by decide)) ?_
                refine htx (xh_call rfl Tryz.call20 (dpower22C hD hm1) [3] rfl [] rfl ?_)
                rintro _ _ _ ⟨st1, rfl, rfl, rfl, hE1⟩
                refine ⟨(fun h => absurd h (by decide)), ?_⟩
                refine htend <| hsub (ρ' := [(142, _), (137, _), (104, _), (73, _), (36, _), (35, _), (5, _), (4, _), (3, _), (0, _), (1, _)]) ⟨rfl, rfl, rfl, rfl, rfl, rfl, rfl, rfl, rfl, rfl, rfl, trivial⟩ <| hmemQ (X' := [_, _, _, _]) (S' := [_, _, _, _]) (fun _ m => m) <| hthen <| hdrwB [1, 1, 1] [0, 1, 2, 3] rfl rfl [8, 11] [(0, some 1), (1, some 0), (2, some 0), (3, some 0), (4, some 0), (5, some 0), (6, some 0), (7, some 0), (8, none), (9, some 1), (10, some 1), (11, none)] (by kernel_rfl) (by kernel_rfl) rfl 1 <| htyU (y_move rfl) <| htyU (y_move rfl) <| htyU (y_nilp rfl) <| htyU (y_fld rfl fa48_1 (by decide)) <| hty (fun m => yV (y_ldN rfl ag46 sz46 rfl (wcs_D (m.blk 2 rfl))) ((rfl : _ = Value.agg x.cs.toArray))) <| htyU (y_fld rfl fa30_1 (by decide)) <| hty (fun m => y_ld1 rfl ag3 (ld_blk (m.blk 1 rfl) (i := 1) rfl)) <| ?_
                refine htyU (y_rem' rfl rfl (by decide)) ?_
                refine htx (xh_call rfl Tryz.call57 (rpowerX) [] rfl [0] rfl ?_)
                rintro _ _ _ ⟨y, rfl, rfl, rfl, hy1⟩
                refine ⟨(fun _ => wk [1, 1, 1] [1, 2, 3, 4] rfl rfl), ?_⟩
                refine htyU (y_nilp rfl) <| htyU (y_fld rfl fa48_1 (by decide)) <| ?_
                refine htx0 (xh_stNa 3 rfl rfl rfl sz46 rfl cs_one (show 6 ≤ 6 from Nat.le_refl 6) ⟨(fun h => absurd h (by decide)), ?_⟩)
                refine htmem (fun w m => m.eqX 0 rfl (show _ = RBlk gw 48 (.pointer (some ⟨gd, 0, none⟩) :: y.cs) from congrArg (RBlk _ _) wcs_put)) ?_
                refine htend <| hsub (ρ' := [(142, _), (137, _), (104, _), (73, _), (36, _), (35, _), (5, _), (4, _), (3, _), (0, _), (1, _)]) ⟨rfl, rfl, rfl, rfl, rfl, rfl, rfl, rfl, rfl, rfl, rfl, trivial⟩ <| hmemQ (X' := [_, _, _, _]) (S' := [_, _, _, _, _]) (fun _ m => m) <| hthen <| hseq <| hreg <| hy (fun _ => y_assign rfl) <| hend <| hthen <| hret <| hqblock_ret <| hthen_ret <| ?_
                exact hret1 trivial rfl rfl [0, 0] rfl [0] rfl ⟨st1, y, rfl, rfl, rfl, (by rw [hy1]; exact hE1.le (by omega))⟩
              · refine hcskip <| hthen <| hseq <| hreg <| hy (fun _ => y_assign rfl) <| hend <| hthen <| hret <| hqblock_ret <| hthen_ret <| ?_
                exact hret1 trivial rfl rfl [2, 2] rfl [0] rfl ⟨st, x, rfl, rfl, rfl, hD.le (by omega)⟩
            · refine hseq <| hreg <| hy (fun _ => y_eql rfl rfl) <| hy (fun _ => y_assign rfl) <| hend <| hsub (ρ' := [(162, _), (137, _), (104, _), (73, _), (36, _), (35, _), (5, _), (4, _), (3, _), (0, _), (1, _)]) ⟨rfl, rfl, rfl, rfl, rfl, rfl, rfl, rfl, rfl, rfl, rfl, trivial⟩ <| hthen <| ?_
              refine hif rfl (fun c9 => ?_) (fun c9 => ?_)
              · refine hseq <| hseq <| hreg <| hy (fun _ => y_fld rfl fa30_1 (by decide)) <| hy (fun m => y_ld1 rfl ag3 (ld_blk (m.blk 1 rfl) (i := 1) rfl)) <| ?_
                refine hy (fun m => y_rem' rfl rfl (by decide)) ?_
                refine hy (fun _ => y_eql rfl rfl) <| hend <| hsub (ρ' := [(167, _), (162, _), (137, _), (104, _), (73, _), (36, _), (35, _), (5, _), (4, _), (3, _), (0, _), (1, _)]) ⟨rfl, rfl, rfl, rfl, rfl, rfl, rfl, rfl, rfl, rfl, rfl, rfl, trivial⟩ <| hthen <| ?_
                refine hif rfl (fun p0 => ?_) (fun p0 => ?_)
                · refine hmemC (fun w m => m.asV 2 rfl (View.takeV (k := min mk 20) (Nat.min_le_left _ _))) ?_
                  refine hfactC (fun m => rdX (m.rd 0 rfl)) ?_
                  rintro ⟨hl_rf, hA_rf⟩
                  have hbt : (bools bs).take (min mk 20 * 1) = bools (bs.take (min mk 20)) := by rw [Nat.mul_one]; simp [bools, List.map_take]
                  rw [hbt]
                  have hla := hD.lbound
                  have okr := hD.rok
                  refine hseq <| hreg <| hy (fun _ => y_fld rfl fa30_3 (by decide)) <| hy (fun m => y_ld1 rfl ag28 (ld_blk (m.blk 1 rfl) (i := 3) rfl)) <| hy (fun _ => y_fld rfl fa30_3 (by decide)) <| hy (fun m => y_ld1 rfl ag28 (ld_blk (m.blk 1 rfl) (i := 3) rfl)) <| hy (fun _ => y_lenS rfl Tryz.underlying28) <| hy (fun _ => y_min rfl rfl) <| hy (fun _ => y_slTo rfl rfl Tryz.underlying28 sz4 (show ((min mk 20 : Nat) : Int) = _ by omega) (by omega)) <| hy (fun _ => y_assign rfl) <| hend <| hsub (ρ' := [(21, _), (167, _), (162, _), (137, _), (104, _), (73, _), (36, _), (35, _), (5, _), (4, _), (3, _), (0, _), (1, _)]) ⟨rfl, rfl, rfl, rfl, rfl, rfl, rfl, rfl, rfl, rfl, rfl, rfl, rfl, trivial⟩ <| hthen <| hseq <| hreg <| hy (fun _ => y_move rfl) <| hy (fun _ => y_nilp rfl) <| hy (fun _ => y_fld rfl fa48_0 (by decide)) <| hy (fun m => y_ld1 rfl ag42 (ld_blk (m.blk 2 rfl) (i := 0) rfl)) <| hy (fun _ => y_move rfl) <| ?_
                  refine hx (xh_call rfl Tryz.call22 (drestart22C hD (by omega) (by omega)) [3] rfl [0] rfl ?_)
                  rintro _ _ _ ⟨st1, rfl, rfl, rfl, hE1⟩
                  refine hend <| hsub (ρ' := [(21, _), (167, _), (162, _), (137, _), (104, _), (73, _), (36, _), (35, _), (5, _), (4, _), (3, _), (0, _), (1, _)]) ⟨rfl, rfl, rfl, rfl, rfl, rfl, rfl, rfl, rfl, rfl, rfl, rfl, rfl, trivial⟩ <| hmemQ (X' := [_, _, _, _]) (S' := [_, _, _, _, _]) (fun _ m => m) <| hthen <| hreg <| hy (fun _ => y_move rfl) <| hy (fun _ => y_move rfl) <| hy (fun _ => y_nilp rfl) <| hy (fun _ => y_fld rfl fa48_1 (by decide)) <| hy (fun m => yV (y_ldN rfl ag46 sz46 rfl (wcs_D (m.blk 3 rfl))) ((rfl : _ = Value.agg x.cs.toArray))) <| hy (fun _ => y_move rfl) <| ?_
                  refine hx (xh_call rfl Tryz.call58 (rrestartX (by omega) okr (by omega) (by omega) (by omega) hD.wbound) [] rfl [1, 0] rfl ?_)
                  rintro _ _ _ ⟨y, rfl, rfl, rfl, hy1⟩
                  refine hy (fun _ => y_nilp rfl) <| hy (fun _ => y_fld rfl fa48_1 (by decide)) <| ?_
                  refine hx0 (xh_stNa 3 rfl rfl rfl sz46 rfl cs_one (show 6 ≤ 6 from Nat.le_refl 6) ?_)
                  refine hmemL (fun w m => m.eqX 0 rfl (show _ = RBlk gw 48 (.pointer (some ⟨gd, 0, none⟩) :: y.cs) from congrArg (RBlk _ _) wcs_put)) ?_
                  refine hend <| hsub (ρ' := [(21, _), (167, _), (162, _), (137, _), (104, _), (73, _), (36, _), (35, _), (5, _), (4, _), (3, _), (0, _), (1, _)]) ⟨rfl, rfl, rfl, rfl, rfl, rfl, rfl, rfl, rfl, rfl, rfl, rfl, rfl, trivial⟩ <| hmemQ (X' := [_, _, _, _]) (S' := [_, _, _, _, _, _]) (fun _ m => m) <| hthen <| hseq <| hreg <| hy (fun _ => y_assign rfl) <| hend <| hthen <| hret <| hqblock_ret <| hthen_ret <| ?_
                  exact hret1 trivial rfl rfl [0, 0] rfl [0] rfl ⟨st1, y, rfl, rfl, rfl, (by rw [hy1]; exact hE1.le (by omega))⟩
                · refine hcskip <| hthen <| hseq <| hreg <| hy (fun _ => y_assign rfl) <| hend <| hthen <| hret <| hqblock_ret <| hthen_ret <| ?_
                  exact hret1 trivial rfl rfl [2, 2] rfl [0] rfl ⟨st, x, rfl, rfl, rfl, hD.le (by omega)⟩
              · refine hseq <| hreg <| hy (fun _ => y_eql rfl rfl) <| hy (fun _ => y_assign rfl) <| hend <| hsub (ρ' := [(190, _), (162, _), (137, _), (104, _), (73, _), (36, _), (35, _), (5, _), (4, _), (3, _), (0, _), (1, _)]) ⟨rfl, rfl, rfl, rfl, rfl, rfl, rfl, rfl, rfl, rfl, rfl, rfl, trivial⟩ <| hthen <| ?_
                refine hif rfl (fun c10 => ?_) (fun c10 => ?_)
                · refine hseq <| hseq <| hreg <| hy (fun _ => y_fld rfl fa30_1 (by decide)) <| hy (fun m => y_ld1 rfl ag3 (ld_blk (m.blk 1 rfl) (i := 1) rfl)) <| ?_
                  refine hy (fun m => y_rem' rfl rfl (by decide)) ?_
                  refine hy (fun _ => y_neq rfl rfl) <| hend <| hsub (ρ' := [(195, _), (190, _), (162, _), (137, _), (104, _), (73, _), (36, _), (35, _), (5, _), (4, _), (3, _), (0, _), (1, _)]) ⟨rfl, rfl, rfl, rfl, rfl, rfl, rfl, rfl, rfl, rfl, rfl, rfl, rfl, trivial⟩ <| hthen <| ?_
                  refine hif rfl (fun p0 => ?_) (fun p0 => ?_)
                  · refine hseq <| hreg <| hy (fun _ => y_assign rfl) <| hend <| hthen <| hret <| hthen_ret <| hqblock_ret <| hthen_ret <| ?_
                    exact hret1 trivial rfl rfl [2, 2] rfl [0] rfl ⟨st, x, rfl, rfl, rfl, hD.le (by omega)⟩
                  · obtain ⟨hq1, hq2⟩ := tdiv5 hz
                    obtain ⟨ar2, ar3⟩ := around_lt (z.tdiv 5) 4 (by decide)
                    obtain ⟨k0, hk0, hk1⟩ : ∃ k0 : Nat, around (z.tdiv 5) 4 = (k0 : Int) ∧ k0 < 4 := ⟨(around (z.tdiv 5) 4).toNat, by omega, by omega⟩
                    obtain ⟨p, hp, hpl⟩ : ∃ p, (ss [nSlot 0, nSlot 1, nSup, nSlot 1])[k0]? = some (SV p) ∧ p.length ≤ 1000000 := by
                      match k0, hk1 with
                      | 0, _ => exact ⟨nSlot 0, rfl, by decide⟩
                      | 1, _ => exact ⟨nSlot 1, rfl, by decide⟩
                      | 2, _ => exact ⟨nSup, rfl, by decide⟩
                      | 3, _ => exact ⟨nSlot 1, rfl, by decide⟩
                    refine hcskip <| hthen <| hseq <| hreg <| ?_
                    refine hx (xh_bsl Tryz.underlying71 ti9 rfl rfl rfl (by simp [Value.cells, B8]) (by decide) (by decide) (fun g196 => ?_))
                    have hA_b196 : 0 < 4 → (some (⟨g196, 0, none⟩ : Addr)) ≠ none := fun _ h => by cases h
                    refine hy (fun _ => y_fld rfl fa30_1 (by decide)) <| hy (fun m => y_ld1 rfl ag3 (ld_blk (m.blk 2 rfl) (i := 1) rfl)) <| ?_
                    refine hmemL (fun w m => m.eqX 0 rfl (show _ = ROwn 9 1 (.slice (some ⟨g196, 0, none⟩) 4 4) 4 (ss [nSlot 0, nSlot 1, nSup, nSlot 1]) from rfl)) ?_
                    refine hy (fun m => y_quo' rfl rfl (by decide) (w64 hq1 hq2)) ?_
                    refine hx (xh_call rfl Tryz.call9 (aroundC hq1 hq2 (by decide) (n := (z.tdiv 5)) (m := 4)) [] rfl [] rfl ?_)
                    rintro _ _ _ ⟨rfl, rfl, rfl⟩
                    rw [hk0]
                    refine hy (fun _ => y_idxS1 rfl rfl Tryz.underlying71 sz9 hA_b196 rfl (by omega)) <| hy (fun m => yV (y_ld1 rfl ag9 ((m.ord 0 rfl).cell hp)) ((rfl : _ = Value.string (strOf p)))) <| hy (fun _ => y_assign rfl) <| hend <| hsub (ρ' := [(22, _), (195, _), (190, _), (162, _), (137, _), (104, _), (73, _), (36, _), (35, _), (5, _), (4, _), (3, _), (0, _), (1, _)]) ⟨rfl, rfl, rfl, rfl, rfl, rfl, rfl, rfl, rfl, rfl, rfl, rfl, rfl, rfl, trivial⟩ <| hmemQ (X' := [_, _, _, _, _]) (S' := [_, _, _, _]) (fun _ m => m) <| hthen <| hseq <| hdrwP [7, 11, 12] (.take 0 2 <| .take 1 2 <| .take 2 2 <| .take 3 2 <| .take 4 2 <| .take 5 2 <| .take 6 2 <| .alt 7 (.take 8 2 <| .take 9 2 <| .take 10 3 <| .alt 11 (.alt 12 (.take 13 3 <| .done) (.stop)) (.stop)) (.alt 11 (.alt 7 (.take 8 2 <| .take 9 2 <| .take 10 3 <| .alt 12 (.take 13 3 <| .done) (.stop)) (.stop)) (.stop))) (by kernel_rfl) (by kernel_rfl) rfl 2 <| hpyU (y_move rfl) <| hpyU (y_nilp rfl) <| hpyU (y_fld rfl fa48_1 (by decide)) <| hpy (fun m => yV (y_ldN rfl ag46 sz46 rfl (wcs_D (m.blk 3 rfl))) ((rfl : _ = Value.agg x.cs.toArray))) <| hpyU (y_move rfl) <| hpyU (y_move rfl) <| hpy (fun m => y_b2s rfl Tryz.underlying27 Tryz.underlying5 Tryz.underlying9 (m.ord 1 rfl)) <| ?_
                    refine hpfork ?_ ?_
                    · refine hpx (xh_call rfl Tryz.call40 (rwriteX hD.rok (by omega) hpl (by omega) (p := p) (bb := bb)) [] rfl [0] rfl ?_)
                      rintro _ _ _ ⟨y, rfl, rfl, rfl, hy1⟩
                      refine ⟨(fun _ => wk [0, 0, 0, 0, 0] [1, 2, 3, 4] rfl rfl), ?_⟩
                      refine hpyU (y_move rfl) <| hpyU (y_extract rfl rfl) <| hpyU (y_extract rfl rfl) <| ?_
                      refine hpx (xh_alloc ti46 (fun g23 => ⟨(fun _ => wk [1, 1, 1, 1, 1] [1, 2, 3, 4] rfl rfl), ?_⟩))
                      refine hpx0 (xh_stA 0 rfl rfl rfl sz46 rfl cs_one rfl ⟨(fun h => absurd h (by decide)), ?_⟩)
                      refine hpyU (y_assign rfl) <| hpend <| hsub (ρ' := [(24, _), (23, _), (22, _), (195, _), (190, _), (162, _), (137, _), (104, _), (73, _), (36, _), (35, _), (5, _), (4, _), (3, _), (0, _), (1, _)]) ⟨rfl, rfl, rfl, rfl, rfl, rfl, rfl, rfl, rfl, rfl, rfl, rfl, rfl, rfl, rfl, rfl, trivial⟩ <| hmemQ (X' := [_, _, _, _, _, _]) (S' := [_, _, _, _, _]) (fun _ m => m) <| hthen <| hseq <| hreg <| hy (fun _ => y_move rfl) <| hy (fun m => yV (y_ldN rfl ag46 sz46 rfl ((m.blk 0 rfl).cells0)) ((rfl : _ = Value.agg y.cs.toArray))) <| hy (fun _ => y_nilp rfl) <| hy (fun _ => y_fld rfl fa48_1 (by decide)) <| ?_
                      refine hx0 (xh_stNa 4 rfl rfl rfl sz46 rfl cs_one (show 6 ≤ 6 from Nat.le_refl 6) ?_)
                      refine hmemL (fun w m => m.eqX 0 rfl (show _ = RBlk gw 48 (.pointer (some ⟨gd, 0, none⟩) :: y.cs) from congrArg (RBlk _ _) wcs_put)) ?_
                      refine hend <| hsub (ρ' := [(24, _), (23, _), (22, _), (195, _), (190, _), (162, _), (137, _), (104, _), (73, _), (36, _), (35, _), (5, _), (4, _), (3, _), (0, _), (1, _)]) ⟨rfl, rfl, rfl, rfl, rfl, rfl, rfl, rfl, rfl, rfl, rfl, rfl, rfl, rfl, rfl, rfl, trivial⟩ <| hmemQ (X' := [_, _, _, _, _, _]) (S' := [_, _, _, _, _]) (fun _ m => m) <| hthen <| hseq <| hreg <| hy (fun _ => y_move rfl) <| hy (fun _ => y_nilp rfl) <| hy (fun _ => y_fld rfl fa48_0 (by decide)) <| hy (fun m => y_ld1 rfl ag42 (ld_blk (m.blk 0 rfl) (i := 0) rfl)) <| hy (fun _ => y_move rfl) <| hy (fun _ => y_move rfl) <| ?_
                      refine hx (xh_calll rfl Tryz.call41 (dwriteC hD (by omega) hl30 (by omega) (l := bb) (p := p)) [5] rfl (.x 3 rfl .own .nil) ?_)
                      rintro _ _ _ ⟨st1, rfl, rfl, rfl, hE1⟩
                      refine ⟨rfl, ?_⟩
                      refine hy (fun _ => y_move rfl) <| ?_
                      refine hy (fun _ => yT (y_eql rfl rfl) ((decide_eq_true rfl))) <| hy (fun _ => y_assign rfl) <| hend <| hsub (ρ' := [(4, _), (24, _), (23, _), (22, _), (195, _), (190, _), (162, _), (137, _), (104, _), (73, _), (36, _), (35, _), (5, _), (3, _), (0, _), (1, _)]) ⟨rfl, rfl, rfl, rfl, rfl, rfl, rfl, rfl, rfl, rfl, rfl, rfl, rfl, rfl, rfl, rfl, trivial⟩ <| hmemQ (X' := [_, _, _, _, _, _]) (S' := [_, _, _, _, _]) (fun _ m => m) <| hthen <| hret <| hqblock_ret <| hthen_ret <| ?_
                      exact hret1 trivial rfl rfl [1, 0] rfl [0] rfl ⟨st1, y, rfl, rfl, rfl, (by rw [hy1]; exact hE1.le (by omega))⟩
                    · refine hpx (xh_alloc ti46 (fun g23 => ⟨(fun _ => wk [1, 1, 1, 1, 1] [0, 1, 2, 3] rfl rfl), ?_⟩))
                      refine hpx (xh_call rfl Tryz.call40 (rwriteX hD.rok (by omega) hpl (by omega) (p := p) (bb := bb)) [] rfl [0] rfl ?_)
                      rintro _ _ _ ⟨y, rfl, rfl, rfl, hy1⟩
                      refine ⟨(fun _ => wk [1, 1, 1, 1, 1] [1, 2, 3, 4] rfl rfl), ?_⟩
                      refine hpyU (y_move rfl) <| hpyU (y_extract rfl rfl) <| hpyU (y_extract rfl rfl) <| ?_
                      refine hpx0 (xh_stA 0 rfl rfl rfl sz46 rfl cs_one rfl ⟨(fun h => absurd h (by decide)), ?_⟩)
                      refine hpyU (y_assign rfl) <| hpend <| hsub (ρ' := [(24, _), (23, _), (22, _), (195, _), (190, _), (162, _), (137, _), (104, _), (73, _), (36, _), (35, _), (5, _), (4, _), (3, _), (0, _), (1, _)]) ⟨rfl, rfl, rfl, rfl, rfl, rfl, rfl, rfl, rfl, rfl, rfl, rfl, rfl, rfl, rfl, rfl, trivial⟩ <| hmemQ (X' := [_, _, _, _, _, _]) (S' := [_, _, _, _, _]) (fun _ m => m) <| hthen <| hseq <| hreg <| hy (fun _ => y_move rfl) <| hy (fun m => yV (y_ldN rfl ag46 sz46 rfl ((m.blk 0 rfl).cells0)) ((rfl : _ = Value.agg y.cs.toArray))) <| hy (fun _ => y_nilp rfl) <| hy (fun _ => y_fld rfl fa48_1 (by decide)) <| ?_
                      refine hx0 (xh_stNa 4 rfl rfl rfl sz46 rfl cs_one (show 6 ≤ 6 from Nat.le_refl 6) ?_)
                      refine hmemL (fun w m => m.eqX 0 rfl (show _ = RBlk gw 48 (.pointer (some ⟨gd, 0, none⟩) :: y.cs) from congrArg (RBlk _ _) wcs_put)) ?_
                      refine hend <| hsub (ρ' := [(24, _), (23, _), (22, _), (195, _), (190, _), (162, _), (137, _), (104, _), (73, _), (36, _), (35, _), (5, _), (4, _), (3, _), (0, _), (1, _)]) ⟨rfl, rfl, rfl, rfl, rfl, rfl, rfl, rfl, rfl, rfl, rfl, rfl, rfl, rfl, rfl, rfl, trivial⟩ <| hmemQ (X' := [_, _, _, _, _, _]) (S' := [_, _, _, _, _]) (fun _ m => m) <| hthen <| hseq <| hreg <| hy (fun _ => y_move rfl) <| hy (fun _ => y_nilp rfl) <| hy (fun _ => y_fld rfl fa48_0 (by decide)) <| hy (fun m => y_ld1 rfl ag42 (ld_blk (m.blk 0 rfl) (i := 0) rfl)) <| hy (fun _ => y_move rfl) <| hy (fun _ => y_move rfl) <| ?_
                      refine hx (xh_calll rfl Tryz.call41 (dwriteC hD (by omega) hl30 (by omega) (l := bb) (p := p)) [5] rfl (.x 3 rfl .own .nil) ?_)
                      rintro _ _ _ ⟨st1, rfl, rfl, rfl, hE1⟩
                      refine ⟨rfl, ?_⟩
                      refine hy (fun _ => y_move rfl) <| ?_
                      refine hy (fun _ => yT (y_eql rfl rfl) ((decide_eq_true rfl))) <| hy (fun _ => y_assign rfl) <| hend <| hsub (ρ' := [(4, _), (24, _), (23, _), (22, _), (195, _), (190, _), (162, _), (137, _), (104, _), (73, _), (36, _), (35, _), (5, _), (3, _), (0, _), (1, _)]) ⟨rfl, rfl, rfl, rfl, rfl, rfl, rfl, rfl, rfl, rfl, rfl, rfl, rfl, rfl, rfl, rfl, trivial⟩ <| hmemQ (X' := [_, _, _, _, _, _]) (S' := [_, _, _, _, _]) (fun _ m => m) <| hthen <| hret <| hqblock_ret <| hthen_ret <| ?_
                      exact hret1 trivial rfl rfl [1, 0] rfl [0] rfl ⟨st1, y, rfl, rfl, rfl, (by rw [hy1]; exact hE1.le (by omega))⟩
                · refine hcskip <| hqblock <| hthen <| hseq <| hdrwP [6, 11, 12] (.take 0 2 <| .take 1 2 <| .take 2 2 <| .take 3 2 <| .take 4 2 <| .take 5 2 <| .alt 6 (.take 7 2 <| .take 8 2 <| .take 9 3 <| .take 10 3 <| .alt 11 (.alt 12 (.take 13 3 <| .take 14 3 <| .done) (.stop)) (.stop)) (.alt 11 (.alt 6 (.take 7 2 <| .take 8 2 <| .take 9 3 <| .take 10 3 <| .alt 12 (.take 13 3 <| .take 14 3 <| .done) (.stop)) (.stop)) (.stop))) (by kernel_rfl) (by kernel_rfl) rfl 2 <| hpyU (y_move rfl) <| hpyU (y_nilp rfl) <| hpyU (y_fld rfl fa48_1 (by decide)) <| hpy (fun m => yV (y_ldN rfl ag46 sz46 rfl (wcs_D (m.blk 2 rfl))) ((rfl : _ = Value.agg x.cs.toArray))) <| hpyU (y_move rfl) <| hpy (fun m => y_b2s rfl Tryz.underlying27 Tryz.underlying5 Tryz.underlying9 (m.ord 0 rfl)) <| ?_
                  refine hpfork ?_ ?_
                  · refine hpx (xh_call rfl Tryz.call59 (rstageSC (by omega) okx (by omega) (bb := bb)) [] rfl [0] rfl ?_)
                    rintro _ _ _ ⟨y, rfl, rfl, rfl, hy1⟩
                    refine ⟨(fun _ => wk [0, 0, 0, 0] [1, 2, 3, 4] rfl rfl), ?_⟩
                    refine hpyU (y_move rfl) <| hpyU (y_extract rfl rfl) <| hpyU (y_extract rfl rfl) <| hpyU (y_extract rfl rfl) <| ?_
                    refine hpx (xh_alloc ti46 (fun g25 => ⟨(fun _ => wk [1, 1, 1, 1] [1, 2, 3, 4] rfl rfl), ?_⟩))
                    refine hpx0 (xh_stA 0 rfl rfl rfl sz46 rfl cs_one rfl ⟨(fun h => absurd h (by decide)), ?_⟩)
                    refine hpyU (y_assign rfl) <| hpyU (y_assign rfl) <| hpend <| hsub (ρ' := [(27, _), (26, _), (25, _), (190, _), (162, _), (137, _), (104, _), (73, _), (36, _), (35, _), (5, _), (4, _), (3, _), (0, _), (1, _)]) ⟨rfl, rfl, rfl, rfl, rfl, rfl, rfl, rfl, rfl, rfl, rfl, rfl, rfl, rfl, rfl, trivial⟩ <| hmemQ (X' := [_, _, _, _, _]) (S' := [_, _, _, _, _]) (fun _ m => m) <| hthen <| hseq <| hreg <| hy (fun _ => y_move rfl) <| hy (fun m => yV (y_ldN rfl ag46 sz46 rfl ((m.blk 0 rfl).cells0)) ((rfl : _ = Value.agg y.cs.toArray))) <| hy (fun _ => y_nilp rfl) <| hy (fun _ => y_fld rfl fa48_1 (by decide)) <| ?_
                    refine hx0 (xh_stNa 3 rfl rfl rfl sz46 rfl cs_one (show 6 ≤ 6 from Nat.le_refl 6) ?_)
                    refine hmemL (fun w m => m.eqX 0 rfl (show _ = RBlk gw 48 (.pointer (some ⟨gd, 0, none⟩) :: y.cs) from congrArg (RBlk _ _) wcs_put)) ?_
                    refine hend <| hsub (ρ' := [(27, _), (26, _), (25, _), (190, _), (162, _), (137, _), (104, _), (73, _), (36, _), (35, _), (5, _), (4, _), (3, _), (0, _), (1, _)]) ⟨rfl, rfl, rfl, rfl, rfl, rfl, rfl, rfl, rfl, rfl, rfl, rfl, rfl, rfl, rfl, trivial⟩ <| hmemQ (X' := [_, _, _, _, _]) (S' := [_, _, _, _, _]) (fun _ m => m) <| hthen <| hseq <| hreg <| hy (fun _ => y_move rfl) <| hy (fun _ => y_nilp rfl) <| hy (fun _ => y_fld rfl fa48_0 (by decide)) <| hy (fun m => y_ld1 rfl ag42 (ld_blk (m.blk 0 rfl) (i := 0) rfl)) <| hy (fun _ => y_move rfl) <| ?_
                    refine hx (xh_calll rfl Tryz.call60 (stageSC hl30 hD (by omega) (bb := bb)) [4] rfl (.x 2 rfl .own .nil) ?_)
                    rintro _ _ _ ⟨st1, rfl, rfl, rfl, hE1⟩
                    refine ⟨rfl, ?_⟩
                    refine hy (fun _ => y_move rfl) <| hy (fun _ => y_extract rfl rfl) <| hy (fun _ => y_extract rfl rfl) <| hy (fun _ => y_assign rfl) <| hy (fun _ => y_assign rfl) <| hend <| hsub (ρ' := [(29, _), (28, _), (27, _), (26, _), (25, _), (190, _), (162, _), (137, _), (104, _), (73, _), (36, _), (35, _), (5, _), (4, _), (3, _), (0, _), (1, _)]) ⟨rfl, rfl, rfl, rfl, rfl, rfl, rfl, rfl, rfl, rfl, rfl, rfl, rfl, rfl, rfl, rfl, rfl, trivial⟩ <| hmemQ (X' := [_, _, _, _, _]) (S' := [_, _, _, _, _]) (fun _ m => m) <| hthen <| hseq <| hreg <| ?_
                    refine hy (fun _ => y_move rfl) <| hy (fun _ => y_move rfl) <| hy (fun _ => yT (y_eql rfl rfl) ((decide_eq_true rfl))) <| hy (fun _ => y_move rfl) <| hyg (o := _) rfl rfl rfl (fun _ => y_move rfl) <| hyg (o := _) rfl rfl rfl (fun _ => y_move rfl) <| hyg (o := _) rfl rfl rfl (fun _ => yT (y_eql rfl rfl) ((decide_eq_true rfl))) <| hy (fun _ => y_pickT rfl rfl) <| hy (fun _ => y_assign rfl) <| hend <| hsub (ρ' := [(4, _), (29, _), (28, _), (27, _), (26, _), (25, _), (190, _), (162, _), (137, _), (104, _), (73, _), (36, _), (35, _), (5, _), (3, _), (0, _), (1, _)]) ⟨rfl, rfl, rfl, rfl, rfl, rfl, rfl, rfl, rfl, rfl, rfl, rfl, rfl, rfl, rfl, rfl, rfl, trivial⟩ <| hthen <| hret <| ?_
                    exact hret1 trivial rfl rfl [1, 0] rfl [0] rfl ⟨st1, y, rfl, rfl, rfl, (by rw [hy1]; exact hE1.le (by omega))⟩
                  · refine hpx (xh_alloc ti46 (fun g25 => ⟨(fun _ => wk [1, 1, 1, 1] [0, 1, 2, 3] rfl rfl), ?_⟩))
                    refine hpx (xh_call rfl Tryz.call59 (rstageSC (by omega) okx (by omega) (bb := bb)) [] rfl [0] rfl ?_)
                    rintro _ _ _ ⟨y, rfl, rfl, rfl, hy1⟩
                    refine ⟨(fun _ => wk [1, 1, 1, 1] [1, 2, 3, 4] rfl rfl), ?_⟩
                    refine hpyU (y_move rfl) <| hpyU (y_extract rfl rfl) <| hpyU (y_extract rfl rfl) <| hpyU (y_extract rfl rfl) <| ?_
                    refine hpx0 (xh_stA 0 rfl rfl rfl sz46 rfl cs_one rfl ⟨(fun h => absurd h (by decide)), ?_⟩)
                    refine hpyU (y_assign rfl) <| hpyU (y_assign rfl) <| hpend <| hsub (ρ' := [(27, _), (26, _), (25, _), (190, _), (162, _), (137, _), (104, _), (73, _), (36, _), (35, _), (5, _), (4, _), (3, _), (0, _), (1, _)]) ⟨rfl, rfl, rfl, rfl, rfl, rfl, rfl, rfl, rfl, rfl, rfl, rfl, rfl, rfl, rfl, trivial⟩ <| hmemQ (X' := [_, _, _, _, _]) (S' := [_, _, _, _, _]) (fun _ m => m) <| hthen <| hseq <| hreg <| hy (fun _ => y_move rfl) <| hy (fun m => yV (y_ldN rfl ag46 sz46 rfl ((m.blk 0 rfl).cells0)) ((rfl : _ = Value.agg y.cs.toArray))) <| hy (fun _ => y_nilp rfl) <| hy (fun _ => y_fld rfl fa48_1 (by decide)) <| ?_
                    refine hx0 (xh_stNa 3 rfl rfl rfl sz46 rfl cs_one (show 6 ≤ 6 from Nat.le_refl 6) ?_)
                    refine hmemL (fun w m => m.eqX 0 rfl (show _ = RBlk gw 48 (.pointer (some ⟨gd, 0, none⟩) :: y.cs) from congrArg (RBlk _ _) wcs_put)) ?_
                    refine hend <| hsub (ρ' := [(27, _), (26, _), (25, _), (190, _), (162, _), (137, _), (104, _), (73, _), (36, _), (35, _), (5, _), (4, _), (3, _), (0, _), (1, _)]) ⟨rfl, rfl, rfl, rfl, rfl, rfl, rfl, rfl, rfl, rfl, rfl, rfl, rfl, rfl, rfl, trivial⟩ <| hmemQ (X' := [_, _, _, _, _]) (S' := [_, _, _, _, _]) (fun _ m => m) <| hthen <| hseq <| hreg <| hy (fun _ => y_move rfl) <| hy (fun _ => y_nilp rfl) <| hy (fun _ => y_fld rfl fa48_0 (by decide)) <| hy (fun m => y_ld1 rfl ag42 (ld_blk (m.blk 0 rfl) (i := 0) rfl)) <| hy (fun _ => y_move rfl) <| ?_
                    refine hx (xh_calll rfl Tryz.call60 (stageSC hl30 hD (by omega) (bb := bb)) [4] rfl (.x 2 rfl .own .nil) ?_)
                    rintro _ _ _ ⟨st1, rfl, rfl, rfl, hE1⟩
                    refine ⟨rfl, ?_⟩
                    refine hy (fun _ => y_move rfl) <| hy (fun _ => y_extract rfl rfl) <| hy (fun _ => y_extract rfl rfl) <| hy (fun _ => y_assign rfl) <| hy (fun _ => y_assign rfl) <| hend <| hsub (ρ' := [(29, _), (28, _), (27, _), (26, _), (25, _), (190, _), (162, _), (137, _), (104, _), (73, _), (36, _), (35, _), (5, _), (4, _), (3, _), (0, _), (1, _)]) ⟨rfl, rfl, rfl, rfl, rfl, rfl, rfl, rfl, rfl, rfl, rfl, rfl, rfl, rfl, rfl, rfl, rfl, trivial⟩ <| hmemQ (X' := [_, _, _, _, _]) (S' := [_, _, _, _, _]) (fun _ m => m) <| hthen <| hseq <| hreg <| ?_
                    refine hy (fun _ => y_move rfl) <| hy (fun _ => y_move rfl) <| hy (fun _ => yT (y_eql rfl rfl) ((decide_eq_true rfl))) <| hy (fun _ => y_move rfl) <| hyg (o := _) rfl rfl rfl (fun _ => y_move rfl) <| hyg (o := _) rfl rfl rfl (fun _ => y_move rfl) <| hyg (o := _) rfl rfl rfl (fun _ => yT (y_eql rfl rfl) ((decide_eq_true rfl))) <| hy (fun _ => y_pickT rfl rfl) <| hy (fun _ => y_assign rfl) <| hend <| hsub (ρ' := [(4, _), (29, _), (28, _), (27, _), (26, _), (25, _), (190, _), (162, _), (137, _), (104, _), (73, _), (36, _), (35, _), (5, _), (3, _), (0, _), (1, _)]) ⟨rfl, rfl, rfl, rfl, rfl, rfl, rfl, rfl, rfl, rfl, rfl, rfl, rfl, rfl, rfl, rfl, rfl, trivial⟩ <| hthen <| hret <| ?_
                    exact hret1 trivial rfl rfl [1, 0] rfl [0] rfl ⟨st1, y, rfl, rfl, rfl, (by rw [hy1]; exact hE1.le (by omega))⟩
end Go.Proofs.YtfikjheicjamhaaGreatDoor
end
section
/- == of superblocks as values. -/
set_option linter.unusedVariables false
set_option linter.unusedSimpArgs false
set_option maxRecDepth 20000
namespace Go.Proofs.YtfikjheicjamhaaGreatDoor
open Go.Eng Go.Hx
def _root_.Go.Hx.Sup.lits (s : Sup) : List Lit := Lit.int .i64 s.active :: Lit.int .i64 s.gen :: (s.s0.lits ++ s.s1.lits)
theorem Sup_lits_inj {s q : Sup} (h : s.wf) (h' : q.wf) : s.lits = q.lits ↔ s = q := by
  constructor
  · intro e
    obtain ⟨a, g, x, y⟩ := s
    obtain ⟨a', g', x', y'⟩ := q
    simp only [Sup.lits, List.cons.injEq, Lit.int.injEq, true_and] at e
    obtain ⟨e1, e2, e3⟩ := e
    obtain ⟨e4, e5⟩ := (two_inj h.w0 h.w1 h'.w0 h'.w1).1 e3
    simp only at e4 e5
    rw [e1, e2, e4, e5]
  · rintro rfl; rfl
theorem sup_c0 {s : Sup} : (s.cs.drop 0).take 1 = [.int .i64 s.active] := rfl
theorem sup_c1 {s : Sup} : (s.cs.drop 1).take 1 = [.int .i64 s.gen] := rfl
theorem sup_c2 {s : Sup} (h : s.wf) : (s.cs.drop 2).take 34 = s.s0.cs := by
  have := two_at h.w0 h.w1 (j := 0) (by decide)
  rw [Nat.zero_mul, List.drop_zero, if_pos rfl] at this
  rw [Sup.cs, List.drop_succ_cons, List.drop_succ_cons, List.drop_zero]
  exact this
theorem sup_c3 {s : Sup} (h : s.wf) : (s.cs.drop 36).take 34 = s.s1.cs := by
  have := two_at h.w0 h.w1 (j := 1) (by decide)
  rw [Nat.one_mul, if_neg (by decide)] at this
  rw [Sup.cs, List.drop_succ_cons, List.drop_succ_cons]
  exact this
theorem kl_sup {s : Sup} (h : s.wf) : Tryz.prog.keyLits 4 51 s.cs = some s.lits := by
  have e : s.lits = [[Lit.int .i64 s.active], [Lit.int .i64 s.gen], s.s0.lits, s.s1.lits].flatten := by simp [Sup.lits]
  rw [e]
  refine kl_struct (d := 3) Tryz.underlying51 (by rw [Sup.cs_len h]; kernel_rfl) (by kernel_rfl) (mapM_some ?_)
  have c0 : Tryz.prog.cellsOf 3 = 1 := by kernel_rfl
  have c1 : Tryz.prog.cellsOf 49 = 34 := by kernel_rfl
  simp only [List.map_cons, List.map_nil, c0, c1]
  rw [sup_c0, sup_c1, sup_c2 h, sup_c3 h, kl_i64 (d := 2) Tryz.underlying3 h.a0 h.a1, kl_i64 (d := 2) Tryz.underlying3 h.g0 h.g1, kl_slot h.w0 (by kernel_rfl) c1, kl_slot h.w1 (by kernel_rfl) c1]
theorem y_neS {N : Nat} {D : List Deferred} {ρ : Env} {w : World} {ty t' : TypeId} {x y : Operand} {a c : Sup} (hx : ev ρ x = some (.agg a.cs.toArray)) (hy : ev ρ y = some (.agg c.cs.toArray)) (ha : a.wf) (hc : c.wf) :
    Yl Tryz.prog N D ρ w (.binOp .neq 51 x y t') ty (.bool (decide (¬ a = c))) :=
  y_neK (m := 6) hx hy (by decide) (by kernel_rfl) (by kernel_rfl) ag51 (by rw [Sup.cs_len ha]; kernel_rfl) (by rw [Sup.cs_len hc]; kernel_rfl) (kl_sup ha) (kl_sup hc) (Sup_lits_inj ha hc)
end Go.Proofs.YtfikjheicjamhaaGreatDoor
end
section
/- The law SlotsPlays. -/
set_option linter.unusedVariables false
set_option linter.unusedSimpArgs false
set_option maxRecDepth 20000
set_option maxHeartbeats 4000000
namespace Go.Proofs.YtfikjheicjamhaaGreatDoor
open Go.Eng Go.Hx
/-- what is done with slots, in cells -/
theorem ty_O22 {xs : List Cell} (h : Ty Tryz.prog 30 xs) : ∃ (a z : Int) (B : Option Addr) (m c : Nat) (ys : List Cell) (l : List UInt8) (B2 : Option Addr) (m2 c2 : Nat) (zs : List Cell), xs = [.v (.int .i64 a), .v (.int .i64 z), .s 1 B m c ys, .s 1 B2 m2 c2 zs] ∧
    (-9223372036854775808 ≤ a ∧ a ≤ 9223372036854775807) ∧ (-9223372036854775808 ≤ z ∧ z ≤ 9223372036854775807) ∧ m ≤ c ∧ m ≤ 140737488351232 ∧ ys.map Cell.val = b8s l ∧ l.length = m ∧ Ty Tryz.prog 28 [.s 1 B2 m2 c2 zs] := by
  obtain ⟨hl, hf⟩ := ty_struct Tryz.underlying30 h
  have hl4 : xs.length = 4 := hl.trans (by kernel_rfl)
  match xs, hl4 with
  | [x0, x1, x4, x5], _ =>
    obtain ⟨a, e0, h0⟩ := ty_i64 Tryz.underlying3 (hf 0 _ rfl)
    obtain ⟨z, e1, h1⟩ := ty_i64 Tryz.underlying3 (hf 1 _ rfl)
    obtain ⟨B, m, c, ys, l, e4, h4, h5, h6, h7⟩ := ty_bytes Tryz.underlying27 Tryz.underlying5 (by kernel_rfl) (by kernel_rfl) (hf 2 _ rfl)
    have h8 := hf 3 _ rfl
    obtain ⟨B2, m2, c2, zs, e5, h9, _⟩ := ty_slice Tryz.underlying28 h8
    have c1 : Tryz.prog.cellsOf 4 = 1 := by kernel_rfl
    rw [c1] at e5
    have d0 : x0 = .v (.int .i64 a) := List.singleton_inj.1 e0
    have d1 : x1 = .v (.int .i64 z) := List.singleton_inj.1 e1
    have d4 : x4 = .s 1 B m c ys := List.singleton_inj.1 e4
    have d5 : x5 = .s 1 B2 m2 c2 zs := List.singleton_inj.1 e5
    subst d0 d1 d4 d5
    rw [e5] at h8
    exact ⟨a, z, B, m, c, ys, l, B2, m2, c2, zs, rfl, h0, h1, h4, h5, h6, h7, h8⟩
theorem O22_cells {w : World} {A : Option Addr} {n i : Nat} {xs ys zs : List Cell} {a z : Int} {B : Option Addr} {m mc : Nat} {B2 : Option Addr} {m2 mc2 : Nat} (h : Rd w 4 A n (xs.map Cell.val)) (he : (xs.drop (i * 4)).take 4 = [.v (.int .i64 a), .v (.int .i64 z), .s 1 B m mc ys, .s 1 B2 m2 mc2 zs]) :
    ∀ (j : Nat) (u : Value), (o22 a z B m mc B2 m2 mc2)[j]? = some u → w.cell? (((A.getD d0).add (i * 4)).add j) = some u := by
  intro j u hu
  match j, hu with
  | 0, hu => cases hu; exact rd_fld h (cell_val (piece_get he (o := 0) rfl))
  | 1, hu => cases hu; exact rd_fld h (cell_val (piece_get he (o := 1) rfl))
  | 2, hu => cases hu; exact rd_fld h (cell_val (piece_get he (o := 2) rfl))
  | 3, hu => cases hu; exact rd_fld h (cell_val (piece_get he (o := 3) rfl))
  | j + 4, hu => simp [o22] at hu
theorem slotsPlaysC {z : Int} {A : Option Addr} {n c : Nat} {xs : List Cell} (hz : -9223372036854775808 ≤ z ∧ z ≤ 9223372036854775807) (hT : Ty Tryz.prog 22 [.s 4 A n c xs]) : Con Tryz.prog 3 [.int .i64 z, .slice A n c] [] [RCell (.s 4 A n c xs), RRoots] (fun v_ X_ S_ => v_ = (.bool true) ∧ X_ = [] ∧ S_ = []) := by
  obtain ⟨_, _, _, _, e6, hnc, hnb, hxl, hel⟩ := ty_slice Tryz.underlying22 hT
  have c6 : Tryz.prog.cellsOf 30 = 4 := by kernel_rfl
  have b6 : Tryz.prog.bytesOf 30 = 64 := by kernel_rfl
  rw [c6] at e6 hel hxl
  rw [b6] at hnb
  cases e6
  obtain ⟨ar0, ar1⟩ := around_lt z 201 (by decide)
  refine henter (N := 96) Tryz.func3 rfl rfl (by simp) fun b => ?_
  refine hfactC (fun m => cellF (m.sres 0 rfl)) ?_
  rintro ⟨hl_r, hA_r, hc_r⟩
  refine hseq <| hreg <| hy (fun _ => y_assign rfl) <| hend <| hthen <| hseq <| hreg <| hy (fun _ => y_move rfl) <| ?_
  refine hx (xh_call rfl Tryz.call9 (aroundC hz.1 hz.2 (by decide) (n := z) (m := 201)) [] rfl [] rfl ?_)
  rintro _ _ _ ⟨rfl, rfl, rfl⟩
  refine hy (fun _ => y_add rfl rfl (w64 (by omega) (by omega))) <| ?_
  refine hx (xh_call rfl Tryz.call8 (beginC (by omega) (by omega)) [] rfl [] rfl ?_)
  rintro _ _ _ ⟨gw, gd, st, y, rfl, rfl, rfl, hg⟩
  refine hy (fun _ => y_assign rfl) <| hend <| hsub (ρ' := [(5, _), (4, _), (0, _), (1, _)]) ⟨rfl, rfl, rfl, rfl, trivial⟩ <| hmemQ (X' := [_, _]) (S' := [_, _, _]) (fun _ m => m) <| hthen <| hseq <| hseq <| hreg <| hy (fun _ => y_move rfl) <| hy (fun _ => y_eqPn rfl rfl (by kernel_rfl)) <| hend <| hsub (ρ' := [(20, _), (5, _), (4, _), (0, _), (1, _)]) ⟨rfl, rfl, rfl, rfl, rfl, trivial⟩ <| hthen <| ?_
  obtain ⟨hD0, hy0⟩ := hg
  rw [← hy0] at hD0
  refine hiff rfl (rfl) ?_
  refine hcskip <| hthen <| hseq <| hseq <| hreg <| hy (fun _ => y_assign rfl) <| hend <| hthen <| hblock <| ?_
  refine hloop3 (fun i st x => n - i) (fun i st x => [(6, .int .i64 (i : Nat))]) (fun i st x => [RBlk gw 48 (.pointer (some ⟨gd, 0, none⟩) :: x.cs), RDisk gd st]) (fun i st x => [RRef x]) (fun i st x => i ≤ 20 ∧ i ≤ n ∧ DS st x.d (2 + 3 * i)) 0 st y [(20, _), (5, _), (0, _), (1, _)] ⟨rfl, rfl, rfl, rfl, trivial⟩ [0, 0] rfl [0] rfl (⟨by decide, Nat.zero_le _, hD0⟩) ⟨rfl, trivial⟩ (fun i st x ⟨h20, hin, hD⟩ => ?_)
  refine hseq <| hseq <| hreg <| hy (fun _ => y_move rfl) <| hy (fun _ => y_move rfl) <| hy (fun _ => y_lenS rfl Tryz.underlying22) <| hy (fun _ => y_lss rfl rfl) <| hy (fun _ => y_move rfl) <| ?_
  refine hsplit 25 rfl (fun h1 => ?_) (fun h1 => ?_)
  · refine hyg (o := _) rfl rfl rfl (fun _ => y_move rfl) <| hyg (o := _) rfl rfl rfl (fun _ => y_lss rfl rfl) <| hy (fun _ => y_pickT rfl rfl) <| hend <| hsub (ρ' := [(28, _), (6, _), (20, _), (5, _), (0, _), (1, _)]) ⟨rfl, rfl, rfl, rfl, rfl, rfl, trivial⟩ <| hthen <| ?_
    refine hif rfl (fun h2 => ?_) (fun h2 => ?_)
    · obtain ⟨oa, oz, Bo, mb, mc, ys, lb, B2, m2, mc2, zs2, he, ha1, hz1, hmc, hmn, hys, hlb, hT2⟩ := ty_O22 (hel i (by omega))
      obtain ⟨_, _, _, _, bs, e7, hmc2, hm2, hbs, hbl⟩ := ty_bools hT2
      cases e7
      refine hmemC (fun w m => m.asV 2 rfl (View.cellRow (piece_get he (o := 2) rfl) hys)) ?_
      refine hfactC (fun m => rdB (m.rd 0 rfl)) ?_
      rintro ⟨hl_rb, hA_rb⟩
      refine hmemC (fun w m => m.asV 3 rfl (View.cellRow (piece_get he (o := 3) rfl) hbs)) ?_
      refine hfactC (fun m => rdX (m.rd 0 rfl)) ?_
      rintro ⟨hl_rk, hA_rk⟩
      refine hcskip <| hthen <| hseq <| hblock <| hseq <| hseq <| hreg <| hy (fun _ => y_move rfl) <| hy (fun _ => y_move rfl) <| hy (fun _ => y_move rfl) <| hy (fun _ => y_idxS rfl rfl Tryz.underlying22 sz30 hA_r rfl (by omega)) <| hy (fun m => yV (y_ldN rfl ag30 sz30 rfl (O22_cells (View.row0.ok.1 _ (m.sres 4 rfl)) he)) ((rfl : _ = Value.agg (o22 oa oz Bo mb mc B2 m2 mc2).toArray))) <| ?_
      refine hx (xh_call rfl Tryz.call10 (does22C hD (by omega) ha1 hz1 hmc hmn hmc2 hm2 (lb := lb) (bs := bs)) [0, 0] rfl [2, 1, 0, 5] rfl ?_)
      rintro _ _ _ ⟨st1, y2, rfl, rfl, rfl, hdd⟩
      have hw := y2.d.loadS_wf
      have okx := hdd.rdok
      refine hy (fun _ => (y_not rfl)) <| hy (fun _ => y_move rfl) <| hyg (o := _) rfl rfl rfl (fun _ => y_move rfl) <| ?_
      refine hxg (o := _) rfl rfl rfl (xh_call rfl Tryz.call11 (like22C hdd (by omega)) [0, 0] rfl [0] rfl ?_)
      rintro _ _ _ ⟨rfl, rfl, rfl⟩
      refine hyg (o := _) rfl rfl rfl (fun _ => (y_not rfl)) <| hy (fun _ => y_pickF rfl rfl) <| hend <| hsub (ρ' := [(42, _), (28, _), (6, _), (20, _), (5, _), (0, _), (1, _)]) ⟨rfl, rfl, rfl, rfl, rfl, rfl, rfl, trivial⟩ <| hmemQ (X' := [_, _]) (S' := [_, _, _, _, _, _, _]) (fun _ m => m) <| hthen <| ?_
      refine hiff rfl (rfl) ?_
      refine hcskip <| hthen <| hseq <| hreg <| hy (fun _ => y_move rfl) <| hy (fun _ => y_nilp rfl) <| hy (fun _ => y_fld rfl fa48_0 (by decide)) <| hy (fun m => y_ld1 rfl ag42 (ld_blk (m.blk 0 rfl) (i := 0) rfl)) <| ?_
      refine hx (xh_call rfl Tryz.call12 (loadSC hdd) [1] rfl [] rfl ?_)
      rintro _ _ _ ⟨rfl, rfl, rfl⟩
      refine hy (fun _ => y_move rfl) <| hy (fun _ => y_extract rfl rfl) <| hy (fun _ => y_extract rfl rfl) <| ?_
      refine hx (xh_alloc ti38 (fun g7 => ?_))
      refine hx0 (xh_stA 0 rfl rfl rfl sz38 (Sup.cs_len hw) Sup.cs_one rfl ?_)
      refine hy (fun _ => y_assign rfl) <| hend <| hsub (ρ' := [(8, _), (7, _), (42, _), (28, _), (6, _), (20, _), (5, _), (0, _), (1, _)]) ⟨rfl, rfl, rfl, rfl, rfl, rfl, rfl, rfl, rfl, trivial⟩ <| hmemQ (X' := [_, _, _]) (S' := [_, _, _, _, _, _, _]) (fun _ m => m) <| hthen <| hseq <| hreg <| hy (fun _ => y_move rfl) <| hy (fun _ => y_nilp rfl) <| hy (fun _ => y_fld rfl fa48_1 (by decide)) <| hy (fun m => yV (y_ldN rfl ag46 sz46 rfl (wcs_D (m.blk 2 rfl))) ((rfl : _ = Value.agg y2.cs.toArray))) <| ?_
      refine hx (xh_call rfl Tryz.call13 (rloadSC okx (by omega)) [] rfl [0] rfl ?_)
      rintro _ _ _ ⟨rfl, rfl, rfl⟩
      refine hy (fun _ => y_move rfl) <| hy (fun _ => y_extract rfl rfl) <| hy (fun _ => y_extract rfl rfl) <| ?_
      refine hx (xh_alloc ti51 (fun g9 => ?_))
      refine hx0 (xh_stA 0 rfl rfl rfl sz51 (Sup.cs_len hw) Sup.cs_one rfl ?_)
      refine hy (fun _ => y_assign rfl) <| hend <| hsub (ρ' := [(10, _), (9, _), (8, _), (7, _), (42, _), (28, _), (6, _), (20, _), (5, _), (0, _), (1, _)]) ⟨rfl, rfl, rfl, rfl, rfl, rfl, rfl, rfl, rfl, rfl, rfl, trivial⟩ <| hmemQ (X' := [_, _, _, _]) (S' := [_, _, _, _, _, _, _]) (fun _ m => m) <| hthen <| hseq <| hreg <| hy (fun _ => y_move rfl) <| hy (fun _ => y_nilp rfl) <| hy (fun _ => y_fld rfl fa48_0 (by decide)) <| hy (fun m => y_ld1 rfl ag42 (ld_blk (m.blk 3 rfl) (i := 0) rfl)) <| ?_
      refine hx (xh_call rfl Tryz.call14 (activeSC hdd) [2] rfl [6] rfl ?_)
      rintro _ _ _ ⟨v, rfl, rfl, rfl⟩
      refine hfactL (fun m => (m.own 1 rfl).slice) ?_
      rintro ⟨A_x, c_x, rfl, hc_x⟩
      refine hfactL (fun m => (m.ord 1 rfl).2.1) fun hA_x => ?_
      refine hy (fun _ => y_move rfl) <| hy (fun _ => y_extract rfl rfl) <| hy (fun _ => y_extract rfl rfl) <| hy (fun _ => y_assign rfl) <| hy (fun _ => y_assign rfl) <| hend <| hsub (ρ' := [(12, _), (11, _), (10, _), (9, _), (8, _), (7, _), (42, _), (28, _), (6, _), (20, _), (5, _), (0, _), (1, _)]) ⟨rfl, rfl, rfl, rfl, rfl, rfl, rfl, rfl, rfl, rfl, rfl, rfl, rfl, trivial⟩ <| hmemQ (X' := [_, _, _, _, _]) (S' := [_, _, _, _, _, _, _]) (fun _ m => m) <| hthen <| hseq <| hreg <| hy (fun _ => y_move rfl) <| hy (fun _ => y_nilp rfl) <| hy (fun _ => y_fld rfl fa48_1 (by decide)) <| hy (fun m => yV (y_ldN rfl ag46 sz46 rfl (wcs_D (m.blk 4 rfl))) ((rfl : _ = Value.agg y2.cs.toArray))) <| ?_
      refine hx (xh_call rfl Tryz.call15 (ractiveSC okx (by omega)) [] rfl [0, 6] rfl ?_)
      rintro _ _ _ ⟨rfl, rfl, rfl⟩
      refine hy (fun _ => y_move rfl) <| hy (fun _ => y_extract rfl rfl) <| hy (fun _ => y_extract rfl rfl) <| hy (fun _ => y_assign rfl) <| hy (fun _ => y_assign rfl) <| hend <| hsub (ρ' := [(14, _), (13, _), (12, _), (11, _), (10, _), (9, _), (8, _), (7, _), (42, _), (28, _), (6, _), (20, _), (5, _), (0, _), (1, _)]) ⟨rfl, rfl, rfl, rfl, rfl, rfl, rfl, rfl, rfl, rfl, rfl, rfl, rfl, rfl, rfl, trivial⟩ <| hmemQ (X' := [_, _, _, _, _]) (S' := [_, _, _, _, _, _, _]) (fun _ m => m) <| hthen <| hseq <| hdrw [5] [(0, some 0), (1, some 0), (2, some 0), (3, some 0), (4, some 0), (6, some 1), (5, none), (7, some 1), (8, some 1), (9, some 1), (10, some 1), (11, some 1), (12, some 1), (13, some 1), (14, some 1), (15, some 1), (16, some 1), (17, some 1), (18, some 1), (19, some 1)] (by kernel_rfl) (by kernel_rfl) rfl 99 <| ?_
      refine htyU (y_move rfl) <| htyU (y_move rfl) <| htyU (yF (y_neq rfl rfl) ((decide_eq_false (fun h => h rfl)))) <| htyU (y_move rfl) <| htyg (o := _) rfl rfl rfl (fun m => yV (y_ldN rfl ag38 sz38 (Sup.cs_len hw) ((m.blk 3 rfl).cells0)) ((rfl : _ = Value.agg y2.d.loadS.1.cs.toArray))) <| htyg (o := _) rfl rfl rfl (fun m => yV (y_ldN rfl ag51 sz51 (Sup.cs_len hw) ((m.blk 2 rfl).cells0)) ((rfl : _ = Value.agg y2.d.loadS.1.cs.toArray))) <| ?_
      refine htxg (o := _) rfl rfl rfl (xh_call rfl Tryz.call16 (asSC hw) [] rfl [] rfl ?_)
      rintro _ _ _ ⟨rfl, rfl, rfl⟩
      refine ⟨(fun _ => wk [0, 0, 0, 0, 0] [0, 1, 2, 3, 4, 5, 6] rfl rfl), ?_⟩
      refine htyUg (o := _) rfl rfl rfl (yF (y_neS rfl rfl hw hw) (decide_eq_false (fun h => h rfl))) ?_
      refine htyU (y_pickF rfl rfl) <| htyU (y_move rfl) <| htyUg (o := _) rfl rfl rfl (y_move rfl) <| htyUg (o := _) rfl rfl rfl (y_move rfl) <| htyUg (o := _) rfl rfl rfl (yF (y_neq rfl rfl) ((decide_eq_false (fun h => h rfl)))) <| htyU (y_pickF rfl rfl) <| htyU (y_move rfl) <| htyUg (o := _) rfl rfl rfl (y_move rfl) <| htyg (o := _) rfl rfl rfl (fun m => y_b2s rfl Tryz.underlying27 Tryz.underlying5 Tryz.underlying9 (m.ord 1 rfl)) <| htyUg (o := _) rfl rfl rfl (y_move rfl) <| htyUg (o := _) rfl rfl rfl (yF (y_sne rfl rfl) ((decide_eq_false (fun h => h rfl)))) <| htyU (y_pickF rfl rfl) <| htend <| hsub (ρ' := [(94, _), (14, _), (13, _), (12, _), (11, _), (10, _), (9, _), (8, _), (7, _), (42, _), (28, _), (6, _), (20, _), (5, _), (0, _), (1, _)]) ⟨rfl, rfl, rfl, rfl, rfl, rfl, rfl, rfl, rfl, rfl, rfl, rfl, rfl, rfl, rfl, rfl, trivial⟩ <| hmemQ (X' := [_, _, _, _, _]) (S' := [_, _, _, _, _, _, _]) (fun _ m => m) <| hthen <| ?_
      refine hiff rfl (rfl) ?_
      refine hcskip <| hqblock <| hthen <| hreg <| hy (fun _ => y_move rfl) <| hy (fun _ => y_add rfl rfl (w64 (by omega) (by omega))) <| hy (fun _ => y_assign rfl) <| hend <| hsub (ρ' := [(6, _), (94, _), (14, _), (13, _), (12, _), (11, _), (10, _), (9, _), (8, _), (7, _), (42, _), (28, _), (20, _), (5, _), (0, _), (1, _)]) ⟨rfl, rfl, rfl, rfl, rfl, rfl, rfl, rfl, rfl, rfl, rfl, rfl, rfl, rfl, rfl, rfl, trivial⟩ <| ?_
      refine hnext3 (i + 1) st1 y2 ⟨rfl, rfl, rfl, rfl, rfl, trivial⟩ [4, 0] rfl [0, 4, 5, 6] rfl (⟨by omega, by omega, hdd.le (by omega)⟩) (by omega)
    · refine hexit <| hthen_exit <| hthen_exit <| hqblock_exit <| hthen <| hseq <| hreg <| ?_
      refine hx (xh_call rfl Tryz.call17 (lives22C) [] rfl [3] rfl ?_)
      rintro _ _ _ ⟨rfl, rfl, rfl⟩
      refine hy (fun _ => y_assign rfl) <| hend <| hsub (ρ' := [(4, _), (28, _), (6, _), (20, _), (5, _), (0, _), (1, _)]) ⟨rfl, rfl, rfl, rfl, rfl, rfl, rfl, trivial⟩ <| hmemQ (X' := [_, _]) (S' := [_, _, _, _]) (fun _ m => m) <| hthen <| hret <| ?_
      exact hret1 trivial rfl rfl [] rfl [] rfl ⟨rfl, rfl, rfl⟩
  · refine hskip rfl rfl rfl (by decide) <| hskip rfl rfl rfl (by decide) <| hy (fun _ => y_pickF rfl rfl) <| hend <| hsub (ρ' := [(28, _), (6, _), (20, _), (5, _), (0, _), (1, _)]) ⟨rfl, rfl, rfl, rfl, rfl, rfl, trivial⟩ <| hthen <| ?_
    refine hiff rfl (rfl) ?_
    refine hexit <| hthen_exit <| hthen_exit <| hqblock_exit <| hthen <| hseq <| hreg <| ?_
    refine hx (xh_call rfl Tryz.call17 (lives22C) [] rfl [3] rfl ?_)
    rintro _ _ _ ⟨rfl, rfl, rfl⟩
    refine hy (fun _ => y_assign rfl) <| hend <| hsub (ρ' := [(4, _), (28, _), (6, _), (20, _), (5, _), (0, _), (1, _)]) ⟨rfl, rfl, rfl, rfl, rfl, rfl, rfl, trivial⟩ <| hmemQ (X' := [_, _]) (S' := [_, _, _, _]) (fun _ m => m) <| hthen <| hret <| ?_
    exact hret1 trivial rfl rfl [] rfl [] rfl ⟨rfl, rfl, rfl⟩
theorem slotsPlays (z : Int) (A : Option Addr) (n c : Nat) (xs : List Cell) (W : World) (hz : -9223372036854775808 ≤ z ∧ z ≤ 9223372036854775807) (hr : (RCell (.s 4 A n c xs)).holds W) (hT : Ty Tryz.prog 22 [.s 4 A n c xs]) (hro : RRoots.holds W) :
    Calls Tryz.prog 3 #[.int .i64 z, .slice A n c] W fun e w' => e = .returned (.bool true) ∧ Fr No W w' :=
  con_calls (slotsPlaysC hz hT) (by
    intro s hs
    simp only [List.mem_cons, List.not_mem_nil, or_false] at hs
    rcases hs with rfl | rfl
    · exact hr
    · exact hro)
end Go.Proofs.YtfikjheicjamhaaGreatDoor
end
