/- The law DiskLasts, computed. -/
import Derived.Test.YtflcokdkobhieaaDiskPl
set_option linter.unusedVariables false
set_option linter.unusedSimpArgs false
set_option maxRecDepth 20000
namespace Go.Proofs.Ytflcokdkobhieaa
open Go.Eng Go.Hx
theorem started_synced (st : DSt) (gl : Nat) (bs : List Bool) (gs : Nat) : ((st.synced gl).started bs gs).seen = st.seen ∧ ((st.synced gl).started bs gs).waits = [] ∧ ((st.synced gl).started bs gs).power = -1 := ⟨by simp [DSt.started, DSt.synced, rfold], rfl, rfl⟩
theorem diskLastsC {A : Option Addr} {n c : Nat} {xs : List Cell} {sy : Bool} {K : Option Addr} {mk ck : Nat} {zs : List Cell} (hT : Ty Try.prog 71 [.s 6 A n c xs]) (hK : Ty Try.prog 27 [.s 1 K mk ck zs]) : Con Try.prog 7 [.slice A n c, .bool sy, .slice K mk ck] [] [RCell (.s 6 A n c xs), RCell (.s 1 K mk ck zs)] (fun v_ X_ S_ => v_ = (.bool true) ∧ X_ = [] ∧ S_ = []) := by
  obtain ⟨_, _, _, _, e6, hnc, hnb, hxl, hel⟩ := ty_slice Try.underlying71 hT
  have c6 : Try.prog.cellsOf 75 = 6 := by kernel_rfl
  have b6 : Try.prog.bytesOf 75 = 80 := by kernel_rfl
  rw [c6] at e6 hel hxl
  rw [b6] at hnb
  cases e6
  obtain ⟨_, _, _, _, ks, e8, hkc, hk2, hks, hkl⟩ := ty_bools hK
  cases e8
  refine henter (N := 100) Try.func7 rfl rfl (by simp) fun b => ?_
  refine hfactC (fun m => cellF (m.sres 0 rfl)) ?_
  rintro ⟨hl_r, hA_r, hc_r⟩
  refine hfactC (fun m => cellF (m.sres 1 rfl)) ?_
  rintro ⟨hl_k, hA_k, hc_k⟩
  refine hseq <| hreg <| hy (fun _ => y_assign rfl) <| hend <| hthen <| hseq <| hreg <| ?_
  refine hx (xh_call rfl Try.call22 (newC (by omega) (by omega) (n := 200)) [] rfl [] rfl ?_)
  rintro _ _ _ ⟨g, gs, gl, rfl, rfl, rfl⟩
  refine hy (fun _ => y_move rfl) <| hy (fun _ => y_extract rfl rfl) <| hy (fun _ => y_extract rfl rfl) <| hy (fun _ => y_assign rfl) <| hy (fun _ => y_assign rfl) <| hend <| hsub (ρ' := [(8, _), (7, _), (6, _), (0, _), (1, _), (2, _)]) ⟨rfl, rfl, rfl, rfl, rfl, rfl, trivial⟩ <| hmemQ (X' := [_]) (S' := [_, _]) (fun _ m => m) <| hthen <| hseq <| hseq <| hreg <| hy (fun _ => y_move rfl) <| hy (fun _ => y_eqPn rfl rfl (by kernel_rfl)) <| hy (fun _ => y_move rfl) <| ?_
  refine hyg (o := _) rfl rfl rfl (fun _ => y_move rfl) <| hyg (o := _) rfl rfl rfl (fun _ => y_neq rfl rfl) <| hy (fun _ => y_pickF rfl rfl) <| hend <| hsub (ρ' := [(23, _), (8, _), (7, _), (6, _), (0, _), (1, _), (2, _)]) ⟨rfl, rfl, rfl, rfl, rfl, rfl, rfl, trivial⟩ <| hthen <| ?_
  refine hiff rfl ((by decide)) ?_
  refine hcskip <| hthen <| hseq <| hreg <| ?_
  refine hx (xh_call rfl Try.call23 (rnewX) [] rfl [] rfl ?_)
  rintro _ _ _ ⟨y, rfl, rfl, rfl, hyd⟩
  refine hx (xh_alloc ti54 (fun g9 => ?_))
  refine hx0 (xh_stA 0 rfl rfl rfl sz54 rfl cs_one rfl ?_)
  have hD0 : DS (dinit 200 gs gl) y.d 0 := by rw [hyd]; exact DS.init (by omega)
  refine hend <| hsub (ρ' := [(9, _), (23, _), (8, _), (7, _), (6, _), (0, _), (1, _), (2, _)]) ⟨rfl, rfl, rfl, rfl, rfl, rfl, rfl, rfl, trivial⟩ <| hmemQ (X' := [_, _]) (S' := [_, _, _]) (fun _ m => m) <| hthen <| hseq <| hseq <| hreg <| hy (fun _ => y_assign rfl) <| hend <| hthen <| hblock <| ?_
  refine hloop3 (fun i st x => n - i) (fun i st x => [(10, .int .i64 (i : Nat))]) (fun i st x => [RDisk g st, RBlk g9 54 x.cs]) (fun i st x => [RRef x]) (fun i st x => i ≤ 12 ∧ i ≤ n ∧ DS st x.d i ∧ st.power = -1) 0 (dinit 200 gs gl) y [(9, _), (23, _), (8, _), (7, _), (0, _), (1, _), (2, _)] ⟨rfl, rfl, rfl, rfl, rfl, rfl, rfl, trivial⟩ [1, 0] rfl [0] rfl (⟨by decide, Nat.zero_le _, hD0, rfl⟩) ⟨rfl, trivial⟩ (fun i st x ⟨h24, hin, hD, hpw⟩ => ?_)
  refine hseq <| hseq <| hreg <| hy (fun _ => y_move rfl) <| hy (fun _ => y_move rfl) <| hy (fun _ => y_lenS rfl Try.underlying71) <| hy (fun _ => y_lss rfl rfl) <| hy (fun _ => y_move rfl) <| ?_
  refine hsplit 29 rfl (fun h1 => ?_) (fun h1 => ?_)
  · refine hyg (o := _) rfl rfl rfl (fun _ => y_move rfl) <| hyg (o := _) rfl rfl rfl (fun _ => y_lss rfl rfl) <| hy (fun _ => y_pickT rfl rfl) <| hend <| hsub (ρ' := [(32, _), (10, _), (9, _), (23, _), (8, _), (7, _), (0, _), (1, _), (2, _)]) ⟨rfl, rfl, rfl, rfl, rfl, rfl, rfl, rfl, rfl, trivial⟩ <| hthen <| ?_
    refine hif rfl (fun h2 => ?_) (fun h2 => ?_)
    · obtain ⟨oa, op, ot, on, Bo, mb, mc, ys, lb, B2, m2, mc2, zs2, he, ha1, hp1, ht1, hn1, hmc, hmn, hys, hlb, hmc2, hT2⟩ := ty_O (hel i (by omega))
      obtain ⟨_, _, _, _, bs, e7, _, hm2, hbs, hbl⟩ := ty_bools hT2
      cases e7
      refine hmemC (fun w m => m.asV 2 rfl (View.cellRow (piece_get he (o := 4) rfl) hys)) ?_
      refine hfactC (fun m => rdB (m.rd 0 rfl)) ?_
      rintro ⟨hl_rb, hA_rb⟩
      refine hmemC (fun w m => m.asV 3 rfl (View.cellRow (piece_get he (o := 5) rfl) hbs)) ?_
      refine hfactC (fun m => rdX (m.rd 0 rfl)) ?_
      rintro ⟨hl_rk, hA_rk⟩
      refine hcskip <| hthen <| hseq <| hblock <| hseq <| hseq <| hreg <| hy (fun _ => y_move rfl) <| hy (fun _ => y_move rfl) <| hy (fun _ => y_idxS rfl rfl Try.underlying71 sz75 hA_r rfl (by omega)) <| hy (fun _ => y_fld rfl fa75_0 (by decide)) <| hy (fun m => yV (y_ld1 rfl ag3 (rd_fld (View.row0.ok.1 _ (m.sres 4 rfl)) (cell_val (piece_get he (o := 0) rfl)))) ((rfl : _ = Value.int .i64 oa))) <| ?_
      refine hx (xh_call rfl Try.call20 (aroundC (by omega) (by omega) (by omega)) [] rfl [] rfl ?_)
      rintro _ _ _ ⟨rfl, rfl, rfl⟩
      refine hy (fun _ => y_eql rfl rfl) <| hend <| hsub (ρ' := [(41, _), (32, _), (10, _), (9, _), (23, _), (8, _), (7, _), (0, _), (1, _), (2, _)]) ⟨rfl, rfl, rfl, rfl, rfl, rfl, rfl, rfl, rfl, rfl, trivial⟩ <| hmemQ (X' := [_, _]) (S' := [_, _, _, _, _, _]) (fun _ m => m) <| hthen <| ?_
      refine hif rfl (fun h7 => ?_) (fun h7 => ?_)
      · refine hexit <| hthen_exit <| hqblock_exit <| hthen <| hreg <| hy (fun _ => y_move rfl) <| hy (fun _ => y_add rfl rfl (w64 (by omega) (by omega))) <| hy (fun _ => y_assign rfl) <| hend <| hsub (ρ' := [(10, _), (41, _), (32, _), (9, _), (23, _), (8, _), (7, _), (0, _), (1, _), (2, _)]) ⟨rfl, rfl, rfl, rfl, rfl, rfl, rfl, rfl, rfl, rfl, trivial⟩ <| ?_
        refine hnext3 (i + 1) st x ⟨rfl, rfl, rfl, rfl, rfl, rfl, rfl, rfl, trivial⟩ [0, 0] rfl [2, 3, 4, 5] rfl (⟨by omega, by omega, hD.le (Nat.le_succ _), hpw⟩) (by omega)
      · refine hcskip <| hthen <| hseq <| hdrwPB [1] [0, 1, 2, 3, 4, 5] rfl rfl [6, 10, 11] (.take 0 2 <| .take 1 2 <| .take 2 2 <| .take 3 2 <| .take 4 2 <| .take 5 2 <| .alt 6 (.take 7 2 <| .take 8 2 <| .take 9 3 <| .alt 10 (.alt 11 (.take 12 3 <| .done) (.stop)) (.stop)) (.alt 10 (.alt 6 (.take 7 2 <| .take 8 2 <| .take 9 3 <| .alt 11 (.take 12 3 <| .done) (.stop)) (.stop)) (.stop))) (by kernel_rfl) (by kernel_rfl) rfl 2 <| hpyU (y_move rfl) <| hpy (fun m => yV (y_ldN rfl ag54 sz54 rfl ((m.blk 0 rfl).cells0)) ((rfl : _ = Value.agg x.cs.toArray))) <| hpyU (y_move rfl) <| hpyU (y_move rfl) <| hpyU (y_idxS rfl rfl Try.underlying71 sz75 hA_r rfl (by omega)) <| hpy (fun m => yV (y_ldN rfl ag75 sz75 rfl (Od_cells (View.row0.ok.1 _ (m.sres 4 rfl)) he)) ((rfl : _ = Value.agg (ocs oa op ot on Bo mb mc B2 m2 mc2).toArray))) <| ?_
        refine hpfork ?_ ?_
        · refine hpx (xh_call rfl Try.call35 (doesC hD (by omega) (by omega) (by omega) (by omega) (by omega) (by omega) (by omega) (by omega) (by omega) (by omega) (by omega) (lb := lb) (bs := bs)) [0] rfl [2, 1, 0] rfl ?_)
          rintro _ _ _ ⟨y2, st1, rfl, rfl, rfl, hdd⟩
          refine ⟨(fun _ => wk [1] [1, 2, 3, 4, 5, 6] rfl rfl), ?_⟩
          refine hpyU (y_move rfl) <| hpyU (y_extract rfl rfl) <| hpyU (y_extract rfl rfl) <| ?_
          refine hpx (xh_alloc ti54 (fun g11 => ⟨(fun _ => wk [2] [1, 2, 3, 4, 5, 6] rfl rfl), ?_⟩))
          refine hpx0 (xh_stA 0 rfl rfl rfl sz54 rfl cs_one rfl ⟨(fun h => absurd h (by decide)), ?_⟩)
          refine hpyU (y_assign rfl) <| hpend <| hsub (ρ' := [(12, _), (11, _), (41, _), (32, _), (10, _), (9, _), (23, _), (8, _), (7, _), (0, _), (1, _), (2, _)]) ⟨rfl, rfl, rfl, rfl, rfl, rfl, rfl, rfl, rfl, rfl, rfl, rfl, trivial⟩ <| hmemQ (X' := [_, _, _]) (S' := [_, _, _, _, _, _, _]) (fun _ m => m) <| hthen <| hseq <| hreg <| hy (fun m => yV (y_ldN rfl ag54 sz54 rfl ((m.blk 0 rfl).cells0)) ((rfl : _ = Value.agg y2.cs.toArray))) <| ?_
          refine hx0 (xh_stA 2 rfl rfl rfl sz54 rfl cs_one rfl ?_)
          refine hend <| hsub (ρ' := [(12, _), (11, _), (41, _), (32, _), (10, _), (9, _), (23, _), (8, _), (7, _), (0, _), (1, _), (2, _)]) ⟨rfl, rfl, rfl, rfl, rfl, rfl, rfl, rfl, rfl, rfl, rfl, rfl, trivial⟩ <| hmemQ (X' := [_, _, _]) (S' := [_, _, _, _, _, _, _]) (fun _ m => m) <| hthen <| hseq <| hreg <| hy (fun _ => y_move rfl) <| hy (fun _ => (y_not rfl)) <| hend <| hsub (ρ' := [(54, _), (12, _), (11, _), (41, _), (32, _), (10, _), (9, _), (23, _), (8, _), (7, _), (0, _), (1, _), (2, _)]) ⟨rfl, rfl, rfl, rfl, rfl, rfl, rfl, rfl, rfl, rfl, rfl, rfl, rfl, trivial⟩ <| hthen <| ?_
          refine hiff rfl (rfl) ?_
          refine hcskip <| hqblock <| hthen <| hreg <| hy (fun _ => y_move rfl) <| hy (fun _ => y_add rfl rfl (w64 (by omega) (by omega))) <| hy (fun _ => y_assign rfl) <| hend <| hsub (ρ' := [(10, _), (54, _), (12, _), (11, _), (41, _), (32, _), (9, _), (23, _), (8, _), (7, _), (0, _), (1, _), (2, _)]) ⟨rfl, rfl, rfl, rfl, rfl, rfl, rfl, rfl, rfl, rfl, rfl, rfl, rfl, trivial⟩ <| ?_
          refine hnext3 (i + 1) st1 y2 ⟨rfl, rfl, rfl, rfl, rfl, rfl, rfl, rfl, trivial⟩ [2, 0] rfl [0, 4, 5, 6] rfl (⟨by omega, by omega, hdd.1, hdd.2 h7 hpw⟩) (by omega)
        · refine hpx (xh_alloc ti54 (fun g11 => ⟨(fun _ => wk [2] [0, 1, 2, 3, 4, 5] rfl rfl), ?_⟩))
          refine hpx (xh_call rfl Try.call35 (doesC hD (by omega) (by omega) (by omega) (by omega) (by omega) (by omega) (by omega) (by omega) (by omega) (by omega) (by omega) (lb := lb) (bs := bs)) [1] rfl [2, 1, 0] rfl ?_)
          rintro _ _ _ ⟨y2, st1, rfl, rfl, rfl, hdd⟩
          refine ⟨(fun _ => wk [2] [1, 2, 3, 4, 5, 6] rfl rfl), ?_⟩
          refine hpyU (y_move rfl) <| hpyU (y_extract rfl rfl) <| hpyU (y_extract rfl rfl) <| ?_
          refine hpx0 (xh_stA 1 rfl rfl rfl sz54 rfl cs_one rfl ⟨(fun h => absurd h (by decide)), ?_⟩)
          refine hpyU (y_assign rfl) <| hpend <| hsub (ρ' := [(12, _), (11, _), (41, _), (32, _), (10, _), (9, _), (23, _), (8, _), (7, _), (0, _), (1, _), (2, _)]) ⟨rfl, rfl, rfl, rfl, rfl, rfl, rfl, rfl, rfl, rfl, rfl, rfl, trivial⟩ <| hmemQ (X' := [_, _, _]) (S' := [_, _, _, _, _, _, _]) (fun _ m => m) <| hthen <| hseq <| hreg <| hy (fun m => yV (y_ldN rfl ag54 sz54 rfl ((m.blk 0 rfl).cells0)) ((rfl : _ = Value.agg y2.cs.toArray))) <| ?_
          refine hx0 (xh_stA 2 rfl rfl rfl sz54 rfl cs_one rfl ?_)
          refine hend <| hsub (ρ' := [(12, _), (11, _), (41, _), (32, _), (10, _), (9, _), (23, _), (8, _), (7, _), (0, _), (1, _), (2, _)]) ⟨rfl, rfl, rfl, rfl, rfl, rfl, rfl, rfl, rfl, rfl, rfl, rfl, trivial⟩ <| hmemQ (X' := [_, _, _]) (S' := [_, _, _, _, _, _, _]) (fun _ m => m) <| hthen <| hseq <| hreg <| hy (fun _ => y_move rfl) <| hy (fun _ => (y_not rfl)) <| hend <| hsub (ρ' := [(54, _), (12, _), (11, _), (41, _), (32, _), (10, _), (9, _), (23, _), (8, _), (7, _), (0, _), (1, _), (2, _)]) ⟨rfl, rfl, rfl, rfl, rfl, rfl, rfl, rfl, rfl, rfl, rfl, rfl, rfl, trivial⟩ <| hthen <| ?_
          refine hiff rfl (rfl) ?_
          refine hcskip <| hqblock <| hthen <| hreg <| hy (fun _ => y_move rfl) <| hy (fun _ => y_add rfl rfl (w64 (by omega) (by omega))) <| hy (fun _ => y_assign rfl) <| hend <| hsub (ρ' := [(10, _), (54, _), (12, _), (11, _), (41, _), (32, _), (9, _), (23, _), (8, _), (7, _), (0, _), (1, _), (2, _)]) ⟨rfl, rfl, rfl, rfl, rfl, rfl, rfl, rfl, rfl, rfl, rfl, rfl, rfl, trivial⟩ <| ?_
          refine hnext3 (i + 1) st1 y2 ⟨rfl, rfl, rfl, rfl, rfl, rfl, rfl, rfl, trivial⟩ [2, 0] rfl [0, 4, 5, 6] rfl (⟨by omega, by omega, hdd.1, hdd.2 h7 hpw⟩) (by omega)
    · refine hmemC (fun w m => m.asV 3 rfl (View.rowOf hks)) ?_
      refine hfactC (fun m => rdX (m.rd 0 rfl)) ?_
      rintro ⟨hl_rk, hA_rk⟩
      refine hmemC (fun w m => m.asV 0 rfl (View.takeV (k := min mk 30) (Nat.min_le_left _ _))) ?_
      refine hfactC (fun m => rdX (m.rd 0 rfl)) ?_
      rintro ⟨hl_rf, hA_rf⟩
      have hbt : (bools ks).take (min mk 30 * 1) = bools (ks.take (min mk 30)) := by rw [Nat.mul_one]; simp [bools, List.map_take]
      rw [hbt]
      have hsm := hD.ok.sm
      have hwa : st.waits.length ≤ 1000000 := by have := hD.ok.rest; omega
      have okr := hD.rok
      have hla := hD.lbound
      have hwb := hD.wbound
      refine hexit <| hthen_exit <| hthen_exit <| hqblock_exit <| hthen <| hseq <| hreg <| hy (fun _ => y_move rfl) <| hy (fun _ => y_move rfl) <| hy (fun _ => y_lenS rfl Try.underlying27) <| hy (fun _ => y_min rfl rfl) <| hy (fun _ => y_slTo rfl rfl Try.underlying27 sz4 (show ((min mk 30 : Nat) : Int) = _ by omega) (by omega)) <| hy (fun _ => y_assign rfl) <| hend <| hsub (ρ' := [(13, _), (32, _), (10, _), (9, _), (23, _), (8, _), (7, _), (0, _), (1, _), (2, _)]) ⟨rfl, rfl, rfl, rfl, rfl, rfl, rfl, rfl, rfl, rfl, trivial⟩ <| hthen <| hseq <| hseq <| hreg <| hy (fun _ => y_move rfl) <| hend <| hthen <| ?_
      cases sy
      · refine hiff rfl (rfl) ?_
        refine hcskip <| hthen <| hseq <| hreg <| hy (fun _ => y_move rfl) <| hy (fun _ => y_move rfl) <| ?_
        refine hx (xh_call rfl Try.call13 (restartAC (by omega) (by omega) (by omega)) [0] rfl [0] rfl ?_)
        rintro _ _ _ ⟨gs2, rfl, rfl, rfl⟩
        refine hend <| hsub (ρ' := [(60, _), (13, _), (32, _), (10, _), (9, _), (23, _), (8, _), (7, _), (0, _), (1, _), (2, _)]) ⟨rfl, rfl, rfl, rfl, rfl, rfl, rfl, rfl, rfl, rfl, rfl, trivial⟩ <| hmemQ (X' := [_, _]) (S' := [_, _, _, _, _, _]) (fun _ m => m) <| hthen <| hseq <| hreg <| hy (fun _ => y_move rfl) <| hy (fun m => yV (y_ldN rfl ag54 sz54 rfl ((m.blk 1 rfl).cells0)) ((rfl : _ = Value.agg x.cs.toArray))) <| hy (fun _ => y_move rfl) <| ?_
        refine hx (xh_call rfl Try.call39 (rrestartX (by omega) okr (by omega) (by omega) (by omega) hwb) [] rfl [2, 0] rfl ?_)
        rintro _ _ _ ⟨y2, rfl, rfl, rfl, hrr⟩
        have hW := hD.restart (ks.take (min mk 30)) gs2
        rw [← hrr] at hW
        refine hx (xh_call rfl Try.call28 (likeX hW (by omega)) [0] rfl [0] rfl ?_)
        rintro _ _ _ ⟨rfl, rfl, rfl⟩
        refine hy (fun _ => y_move rfl) <| ?_
        refine hxg (o := _) rfl rfl rfl (xh_call rfl Try.call29 (lives12C) [] rfl [] rfl ?_)
        rintro _ _ _ ⟨rfl, rfl, rfl⟩
        refine hy (fun _ => y_pickT rfl rfl) <| hy (fun _ => y_assign rfl) <| hend <| hsub (ρ' := [(6, _), (60, _), (13, _), (32, _), (10, _), (9, _), (23, _), (8, _), (7, _), (0, _), (1, _), (2, _)]) ⟨rfl, rfl, rfl, rfl, rfl, rfl, rfl, rfl, rfl, rfl, rfl, rfl, trivial⟩ <| hmemQ (X' := [_, _]) (S' := [_, _, _, _, _, _, _]) (fun _ m => m) <| hthen <| hret <| ?_
        exact hret1 trivial rfl rfl [] rfl [] rfl ⟨rfl, rfl, rfl⟩
      · refine hift rfl (rfl) ?_
        refine hseq <| hseq <| hreg <| hy (fun _ => y_move rfl) <| ?_
        refine hx (xh_call rfl Try.call36 (syncC hD.ok) [0] rfl [] rfl ?_)
        rintro _ _ _ ⟨st1, gl2, rfl, rfl, rfl, hr⟩
        have hE : syncE st = 0 := by rw [syncE, if_neg (by omega)]
        rw [hE]
        have hst := (hr.resolve_left (fun h => by omega)).2
        obtain ⟨hs1, hs2, hs3⟩ := started_synced st gl2 (ks.take (min mk 30)) 0
        have ok1 := hD.ok.synced gl2
        rw [← hst] at ok1
        have hw1 : st1.waits.length ≤ 1000000 := by have := ok1.rest; omega
        refine hy (fun _ => y_neq rfl rfl) <| hend <| hsub (ρ' := [(63, _), (60, _), (13, _), (32, _), (10, _), (9, _), (23, _), (8, _), (7, _), (0, _), (1, _), (2, _)]) ⟨rfl, rfl, rfl, rfl, rfl, rfl, rfl, rfl, rfl, rfl, rfl, rfl, trivial⟩ <| hmemQ (X' := [_, _]) (S' := [_, _, _, _, _, _]) (fun _ m => m) <| hthen <| ?_
        refine hiff rfl ((by decide)) ?_
        refine hcskip <| hthen <| hseq <| hreg <| hy (fun _ => y_move rfl) <| hy (fun _ => y_move rfl) <| ?_
        refine hx (xh_call rfl Try.call13 (restartAC (by omega) ok1.sm (by omega)) [0] rfl [0] rfl ?_)
        rintro _ _ _ ⟨gs2, rfl, rfl, rfl⟩
        obtain ⟨hs1, hs2, hs3⟩ := started_synced st gl2 (ks.take (min mk 30)) gs2
        rw [← hst] at hs1 hs2 hs3
        have ok2 := ok1.started (ks.take (min mk 30)) gs2
        generalize st1.started (ks.take (min mk 30)) gs2 = st2 at hs1 hs2 hs3 ok2 ⊢
        have hft := hD.sim.files.tot
        have htot := hD.ok.tot
        have hlen := hD.sim.files.len1
        have hsn := hD.ok.seen
        have hna : (akeys st2.seen).length = st2.seen.length := by simp [akeys]
        refine hend <| hsub (ρ' := [(63, _), (60, _), (13, _), (32, _), (10, _), (9, _), (23, _), (8, _), (7, _), (0, _), (1, _), (2, _)]) ⟨rfl, rfl, rfl, rfl, rfl, rfl, rfl, rfl, rfl, rfl, rfl, rfl, trivial⟩ <| hmemQ (X' := [_, _]) (S' := [_, _, _, _, _, _]) (fun _ m => m) <| hthen <| hseq <| hdrwB [1] [0, 1, 2, 3, 4, 5] rfl rfl [1, 5, 7, 12, 20] [(0, some 5), (1, none), (2, some 5), (3, some 5), (4, some 5), (6, some 5), (5, none), (7, none), (8, some 5), (9, some 3), (10, some 3), (11, some 3), (14, some 5), (15, some 5), (16, some 4), (12, none), (13, some 4), (17, some 4), (18, some 4), (19, some 4), (20, none), (21, some 5), (22, some 5)] (by kernel_rfl) (by kernel_rfl) rfl 99 <| htyU (y_move rfl) <| ?_
        refine htx (xh_call rfl Try.call34 (waitsC) [0] rfl [] rfl ?_)
        rintro _ _ _ ⟨rfl, rfl, rfl⟩
        refine ⟨(fun _ => wk [1] [0, 1, 2, 3, 4, 5] rfl rfl), ?_⟩
        refine htyU (yT (y_eql rfl rfl) ((by rw [hs2]; rfl))) <| htyU (y_move rfl) <| htyUg (o := _) rfl rfl rfl (y_move rfl) <| htyg (o := _) rfl rfl rfl (fun m => yV (y_ldN rfl ag54 sz54 rfl ((m.blk 0 rfl).cells0)) ((rfl : _ = Value.agg x.cs.toArray))) <| ?_
        refine htxg (o := _) rfl rfl rfl (xh_call rfl Try.call37 (usedC (by rw [hs1]; omega)) [0] rfl [] rfl ?_)
        rintro _ _ _ ⟨rfl, rfl, rfl⟩
        refine ⟨(fun _ => wk [1] [0, 1, 2, 3, 4, 5] rfl rfl), ?_⟩
        refine htxg (o := _) rfl rfl rfl (xh_call rfl Try.call38 (rusedX okr (by omega)) [] rfl [2] rfl ?_)
        rintro _ _ _ ⟨rfl, rfl, rfl⟩
        refine ⟨(fun _ => wk [1] [0, 1, 2, 3, 4, 5] rfl rfl), ?_⟩
        refine htyUg (o := _) rfl rfl rfl (yT (y_eql rfl rfl) ((decide_eq_true (by rw [hs1]; omega)))) <| htyU (y_pickT rfl rfl) <| htyU (y_move rfl) <| htyUg (o := _) rfl rfl rfl (y_move rfl) <| htyUg (o := _) rfl rfl rfl (y_fld rfl fa54_1 (by decide)) <| htyg (o := _) rfl rfl rfl (fun m => y_ld1 rfl ag51 (ld_blk (m.blk 0 rfl) (i := 1) rfl)) <| htyUg (o := _) rfl rfl rfl (y_lenS rfl Try.underlying51) <| ?_
        refine htxg (o := _) rfl rfl rfl (xh_call rfl Try.call27 (listC (by rw [hs1]; omega) (p := [])) [0] rfl [] rfl ?_)
        rintro _ _ _ ⟨v, n2, ks, rfl, rfl, rfl, hl⟩
        refine ⟨(fun _ => wk [2] [0, 1, 2, 3, 4, 5] rfl rfl), ?_⟩
        refine htfact (fun m => (m.own 1 rfl).slice) ?_
        rintro ⟨A_x, c_x, rfl, hc_x⟩
        refine htfact (fun m => (m.ord 1 rfl).2.1) fun hA_x => ?_
        refine htyUg (o := _) rfl rfl rfl (y_lenS rfl Try.underlying48) <| ?_
        obtain ⟨hl1, hl2⟩ := hl
        rw [pre_nil] at hl2
        have hl3 := hl2.length_eq
        refine htyUg (o := _) rfl rfl rfl (yT (y_eql rfl rfl) ((decide_eq_true (by rw [hs1] at hl3 hna; omega)))) <| htyU (y_pickT rfl rfl) <| htyU (y_move rfl) <| ?_
        refine htxg (o := _) rfl rfl rfl (xh_call rfl Try.call29 (lives12C) [] rfl [] rfl ?_)
        rintro _ _ _ ⟨rfl, rfl, rfl⟩
        refine ⟨(fun _ => wk [2] [0, 1, 2, 3, 4, 5] rfl rfl), ?_⟩
        refine htyU (y_pickT rfl rfl) <| htyU (y_assign rfl) <| htend <| hsub (ρ' := [(6, _), (63, _), (60, _), (13, _), (32, _), (10, _), (9, _), (23, _), (8, _), (7, _), (0, _), (1, _), (2, _)]) ⟨rfl, rfl, rfl, rfl, rfl, rfl, rfl, rfl, rfl, rfl, rfl, rfl, rfl, trivial⟩ <| hmemQ (X' := [_, _, _]) (S' := [_, _, _, _, _, _]) (fun _ m => m) <| hthen <| hret <| hthen_ret <| ?_
        exact hret1 trivial rfl rfl [] rfl [] rfl ⟨rfl, rfl, rfl⟩
  · refine hskip rfl rfl rfl (by decide) <| hskip rfl rfl rfl (by decide) <| hy (fun _ => y_pickF rfl rfl) <| hend <| hsub (ρ' := [(32, _), (10, _), (9, _), (23, _), (8, _), (7, _), (0, _), (1, _), (2, _)]) ⟨rfl, rfl, rfl, rfl, rfl, rfl, rfl, rfl, rfl, trivial⟩ <| hthen <| ?_
    refine hiff rfl (rfl) ?_
    refine hmemC (fun w m => m.asV 3 rfl (View.rowOf hks)) ?_
    refine hfactC (fun m => rdX (m.rd 0 rfl)) ?_
    rintro ⟨hl_rk, hA_rk⟩
    refine hmemC (fun w m => m.asV 0 rfl (View.takeV (k := min mk 30) (Nat.min_le_left _ _))) ?_
    refine hfactC (fun m => rdX (m.rd 0 rfl)) ?_
    rintro ⟨hl_rf, hA_rf⟩
    have hbt : (bools ks).take (min mk 30 * 1) = bools (ks.take (min mk 30)) := by rw [Nat.mul_one]; simp [bools, List.map_take]
    rw [hbt]
    have hsm := hD.ok.sm
    have hwa : st.waits.length ≤ 1000000 := by have := hD.ok.rest; omega
    have okr := hD.rok
    have hla := hD.lbound
    have hwb := hD.wbound
    refine hexit <| hthen_exit <| hthen_exit <| hqblock_exit <| hthen <| hseq <| hreg <| hy (fun _ => y_move rfl) <| hy (fun _ => y_move rfl) <| hy (fun _ => y_lenS rfl Try.underlying27) <| hy (fun _ => y_min rfl rfl) <| hy (fun _ => y_slTo rfl rfl Try.underlying27 sz4 (show ((min mk 30 : Nat) : Int) = _ by omega) (by omega)) <| hy (fun _ => y_assign rfl) <| hend <| hsub (ρ' := [(13, _), (32, _), (10, _), (9, _), (23, _), (8, _), (7, _), (0, _), (1, _), (2, _)]) ⟨rfl, rfl, rfl, rfl, rfl, rfl, rfl, rfl, rfl, rfl, trivial⟩ <| hthen <| hseq <| hseq <| hreg <| hy (fun _ => y_move rfl) <| hend <| hthen <| ?_
    cases sy
    · refine hiff rfl (rfl) ?_
      refine hcskip <| hthen <| hseq <| hreg <| hy (fun _ => y_move rfl) <| hy (fun _ => y_move rfl) <| ?_
      refine hx (xh_call rfl Try.call13 (restartAC (by omega) (by omega) (by omega)) [0] rfl [0] rfl ?_)
      rintro _ _ _ ⟨gs2, rfl, rfl, rfl⟩
      refine hend <| hsub (ρ' := [(60, _), (13, _), (32, _), (10, _), (9, _), (23, _), (8, _), (7, _), (0, _), (1, _), (2, _)]) ⟨rfl, rfl, rfl, rfl, rfl, rfl, rfl, rfl, rfl, rfl, rfl, trivial⟩ <| hmemQ (X' := [_, _]) (S' := [_, _, _, _, _, _]) (fun _ m => m) <| hthen <| hseq <| hreg <| hy (fun _ => y_move rfl) <| hy (fun m => yV (y_ldN rfl ag54 sz54 rfl ((m.blk 1 rfl).cells0)) ((rfl : _ = Value.agg x.cs.toArray))) <| hy (fun _ => y_move rfl) <| ?_
      refine hx (xh_call rfl Try.call39 (rrestartX (by omega) okr (by omega) (by omega) (by omega) hwb) [] rfl [2, 0] rfl ?_)
      rintro _ _ _ ⟨y2, rfl, rfl, rfl, hrr⟩
      have hW := hD.restart (ks.take (min mk 30)) gs2
      rw [← hrr] at hW
      refine hx (xh_call rfl Try.call28 (likeX hW (by omega)) [0] rfl [0] rfl ?_)
      rintro _ _ _ ⟨rfl, rfl, rfl⟩
      refine hy (fun _ => y_move rfl) <| ?_
      refine hxg (o := _) rfl rfl rfl (xh_call rfl Try.call29 (lives12C) [] rfl [] rfl ?_)
      rintro _ _ _ ⟨rfl, rfl, rfl⟩
      refine hy (fun _ => y_pickT rfl rfl) <| hy (fun _ => y_assign rfl) <| hend <| hsub (ρ' := [(6, _), (60, _), (13, _), (32, _), (10, _), (9, _), (23, _), (8, _), (7, _), (0, _), (1, _), (2, _)]) ⟨rfl, rfl, rfl, rfl, rfl, rfl, rfl, rfl, rfl, rfl, rfl, rfl, trivial⟩ <| hmemQ (X' := [_, _]) (S' := [_, _, _, _, _, _, _]) (fun _ m => m) <| hthen <| hret <| ?_
      exact hret1 trivial rfl rfl [] rfl [] rfl ⟨rfl, rfl, rfl⟩
    · refine hift rfl (rfl) ?_
      refine hseq <| hseq <| hreg <| hy (fun _ => y_move rfl) <| ?_
      refine hx (xh_call rfl Try.call36 (syncC hD.ok) [0] rfl [] rfl ?_)
      rintro _ _ _ ⟨st1, gl2, rfl, rfl, rfl, hr⟩
      have hE : syncE st = 0 := by rw [syncE, if_neg (by omega)]
      rw [hE]
      have hst := (hr.resolve_left (fun h => by omega)).2
      obtain ⟨hs1, hs2, hs3⟩ := started_synced st gl2 (ks.take (min mk 30)) 0
      have ok1 := hD.ok.synced gl2
      rw [← hst] at ok1
      have hw1 : st1.waits.length ≤ 1000000 := by have := ok1.rest; omega
      refine hy (fun _ => y_neq rfl rfl) <| hend <| hsub (ρ' := [(63, _), (60, _), (13, _), (32, _), (10, _), (9, _), (23, _), (8, _), (7, _), (0, _), (1, _), (2, _)]) ⟨rfl, rfl, rfl, rfl, rfl, rfl, rfl, rfl, rfl, rfl, rfl, rfl, trivial⟩ <| hmemQ (X' := [_, _]) (S' := [_, _, _, _, _, _]) (fun _ m => m) <| hthen <| ?_
      refine hiff rfl ((by decide)) ?_
      refine hcskip <| hthen <| hseq <| hreg <| hy (fun _ => y_move rfl) <| hy (fun _ => y_move rfl) <| ?_
      refine hx (xh_call rfl Try.call13 (restartAC (by omega) ok1.sm (by omega)) [0] rfl [0] rfl ?_)
      rintro _ _ _ ⟨gs2, rfl, rfl, rfl⟩
      obtain ⟨hs1, hs2, hs3⟩ := started_synced st gl2 (ks.take (min mk 30)) gs2
      rw [← hst] at hs1 hs2 hs3
      have ok2 := ok1.started (ks.take (min mk 30)) gs2
      generalize st1.started (ks.take (min mk 30)) gs2 = st2 at hs1 hs2 hs3 ok2 ⊢
      have hft := hD.sim.files.tot
      have htot := hD.ok.tot
      have hlen := hD.sim.files.len1
      have hsn := hD.ok.seen
      have hna : (akeys st2.seen).length = st2.seen.length := by simp [akeys]
      refine hend <| hsub (ρ' := [(63, _), (60, _), (13, _), (32, _), (10, _), (9, _), (23, _), (8, _), (7, _), (0, _), (1, _), (2, _)]) ⟨rfl, rfl, rfl, rfl, rfl, rfl, rfl, rfl, rfl, rfl, rfl, rfl, trivial⟩ <| hmemQ (X' := [_, _]) (S' := [_, _, _, _, _, _]) (fun _ m => m) <| hthen <| hseq <| hdrwB [1] [0, 1, 2, 3, 4, 5] rfl rfl [1, 5, 7, 12, 20] [(0, some 5), (1, none), (2, some 5), (3, some 5), (4, some 5), (6, some 5), (5, none), (7, none), (8, some 5), (9, some 3), (10, some 3), (11, some 3), (14, some 5), (15, some 5), (16, some 4), (12, none), (13, some 4), (17, some 4), (18, some 4), (19, some 4), (20, none), (21, some 5), (22, some 5)] (by kernel_rfl) (by kernel_rfl) rfl 99 <| htyU (y_move rfl) <| ?_
      refine htx (xh_call rfl Try.call34 (waitsC) [0] rfl [] rfl ?_)
      rintro _ _ _ ⟨rfl, rfl, rfl⟩
      refine ⟨(fun _ => wk [1] [0, 1, 2, 3, 4, 5] rfl rfl), ?_⟩
      refine htyU (yT (y_eql rfl rfl) ((by rw [hs2]; rfl))) <| htyU (y_move rfl) <| htyUg (o := _) rfl rfl rfl (y_move rfl) <| htyg (o := _) rfl rfl rfl (fun m => yV (y_ldN rfl ag54 sz54 rfl ((m.blk 0 rfl).cells0)) ((rfl : _ = Value.agg x.cs.toArray))) <| ?_
      refine htxg (o := _) rfl rfl rfl (xh_call rfl Try.call37 (usedC (by rw [hs1]; omega)) [0] rfl [] rfl ?_)
      rintro _ _ _ ⟨rfl, rfl, rfl⟩
      refine ⟨(fun _ => wk [1] [0, 1, 2, 3, 4, 5] rfl rfl), ?_⟩
      refine htxg (o := _) rfl rfl rfl (xh_call rfl Try.call38 (rusedX okr (by omega)) [] rfl [2] rfl ?_)
      rintro _ _ _ ⟨rfl, rfl, rfl⟩
      refine ⟨(fun _ => wk [1] [0, 1, 2, 3, 4, 5] rfl rfl), ?_⟩
      refine htyUg (o := _) rfl rfl rfl (yT (y_eql rfl rfl) ((decide_eq_true (by rw [hs1]; omega)))) <| htyU (y_pickT rfl rfl) <| htyU (y_move rfl) <| htyUg (o := _) rfl rfl rfl (y_move rfl) <| htyUg (o := _) rfl rfl rfl (y_fld rfl fa54_1 (by decide)) <| htyg (o := _) rfl rfl rfl (fun m => y_ld1 rfl ag51 (ld_blk (m.blk 0 rfl) (i := 1) rfl)) <| htyUg (o := _) rfl rfl rfl (y_lenS rfl Try.underlying51) <| ?_
      refine htxg (o := _) rfl rfl rfl (xh_call rfl Try.call27 (listC (by rw [hs1]; omega) (p := [])) [0] rfl [] rfl ?_)
      rintro _ _ _ ⟨v, n2, ks, rfl, rfl, rfl, hl⟩
      refine ⟨(fun _ => wk [2] [0, 1, 2, 3, 4, 5] rfl rfl), ?_⟩
      refine htfact (fun m => (m.own 1 rfl).slice) ?_
      rintro ⟨A_x, c_x, rfl, hc_x⟩
      refine htfact (fun m => (m.ord 1 rfl).2.1) fun hA_x => ?_
      refine htyUg (o := _) rfl rfl rfl (y_lenS rfl Try.underlying48) <| ?_
      obtain ⟨hl1, hl2⟩ := hl
      rw [pre_nil] at hl2
      have hl3 := hl2.length_eq
      refine htyUg (o := _) rfl rfl rfl (yT (y_eql rfl rfl) ((decide_eq_true (by rw [hs1] at hl3 hna; omega)))) <| htyU (y_pickT rfl rfl) <| htyU (y_move rfl) <| ?_
      refine htxg (o := _) rfl rfl rfl (xh_call rfl Try.call29 (lives12C) [] rfl [] rfl ?_)
      rintro _ _ _ ⟨rfl, rfl, rfl⟩
      refine ⟨(fun _ => wk [2] [0, 1, 2, 3, 4, 5] rfl rfl), ?_⟩
      refine htyU (y_pickT rfl rfl) <| htyU (y_assign rfl) <| htend <| hsub (ρ' := [(6, _), (63, _), (60, _), (13, _), (32, _), (10, _), (9, _), (23, _), (8, _), (7, _), (0, _), (1, _), (2, _)]) ⟨rfl, rfl, rfl, rfl, rfl, rfl, rfl, rfl, rfl, rfl, rfl, rfl, rfl, trivial⟩ <| hmemQ (X' := [_, _, _]) (S' := [_, _, _, _, _, _]) (fun _ m => m) <| hthen <| hret <| hthen_ret <| ?_
      exact hret1 trivial rfl rfl [] rfl [] rfl ⟨rfl, rfl, rfl⟩
theorem diskLasts (A : Option Addr) (n c : Nat) (xs : List Cell) (sy : Bool) (K : Option Addr) (mk ck : Nat) (zs : List Cell) (W : World) (hr : (RCell (.s 6 A n c xs)).holds W) (hT : Ty Try.prog 71 [.s 6 A n c xs]) (hk : (RCell (.s 1 K mk ck zs)).holds W) (hK : Ty Try.prog 27 [.s 1 K mk ck zs]) :
    Calls Try.prog 7 #[.slice A n c, .bool sy, .slice K mk ck] W fun e w' => e = .returned (.bool true) ∧ Fr No W w' :=
  con_calls (diskLastsC hT hK) (by
    intro s hs
    simp only [List.mem_cons, List.not_mem_nil, or_false] at hs
    rcases hs with rfl | rfl
    · exact hr
    · exact hk)
end Go.Proofs.Ytflcokdkobhieaa
