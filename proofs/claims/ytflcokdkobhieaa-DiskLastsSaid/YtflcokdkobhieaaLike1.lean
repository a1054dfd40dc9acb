/- Contract: like of layer 12: a disk has the document's files. -/
import Derived.Test.YtflcokdkobhieaaPlainDisk
set_option linter.unusedVariables false
set_option linter.unusedSimpArgs false
set_option maxRecDepth 20000
namespace Go.Proofs.Ytflcokdkobhieaa
open Go.Eng Go.Hx
theorem pre_nil (l : List (List UInt8)) : l.filter (pre []) = l := List.filter_eq_self.2 (fun a _ => by simp [pre])
theorem DSim.readE {st : DSt} {d : RD} (h : DSim st d) (p : List UInt8) : foundE st p = d.readE p := by
  have h1 := h.files.look p
  rw [← lk_find] at h1
  unfold foundE RD.readE
  rw [h.power]
  by_cases h0 : d.pw = 0
  · rw [if_pos h0, if_pos h0]
  · rw [if_neg h0, if_neg h0]
    cases ha : aget st.seen p with
    | none =>
      rw [ha] at h1
      cases hb : d.seen[findN d.seen p]? with
      | none => simp
      | some y => rw [hb] at h1; cases h1
    | some r =>
      rw [ha] at h1
      cases hb : d.seen[findN d.seen p]? with
      | none => rw [hb] at h1; cases h1
      | some y => simp
theorem DSim.readB {st : DSt} {d : RD} (h : DSim st d) (p : List UInt8) : readB st p = d.readB p := by
  have h1 := h.files.look p
  rw [← lk_find] at h1
  have h2 := h.readE p
  unfold Go.Proofs.Ytflcokdkobhieaa.readB RD.readB
  rw [h2, ← h1]
  unfold RD.readE
  by_cases h0 : d.pw = 0
  · rw [if_pos h0, if_pos h0, if_neg (by decide)]
  · rw [if_neg h0, if_neg h0]
    cases hb : d.seen[findN d.seen p]? with
    | none =>
      rw [hb] at h1
      cases ha : aget st.seen p with
      | none => simp
      | some r => rw [ha] at h1; cases h1
    | some y => simp
theorem likeC {g : Nat} {st : DSt} {d : RD} {kk : Nat} {A Al A3 : Option Addr} {n c nl cl n3 c3 : Nat} (hl : d.seen.length = n) (hw : d.waits.length = n3) (ok : DOk st kk) (okr : ROk d kk) (hkk : kk ≤ 1000) (hS : DSim st d) : Con Try.prog 28 [.pointer (some ⟨g, 0, none⟩), .agg (rv d A n c Al nl cl A3 n3 c3).toArray] [RDisk g st] [RRd 2 A n (fc d.seen)] (fun v_ X_ S_ => v_ = (.bool true) ∧ X_ = [RDisk g st] ∧ S_ = []) := by
  have hs1 := ok.seen
  have hs2 := okr.seen
  have hs3 := hS.files.len1
  have hs4 := hS.files.tot
  have hs5 := hS.waits
  have hs6 := ok.tot
  have hs7 := okr.tot
  have hs8 := hS.power
  have hsm := ok.sm
  refine henter (N := 90) Try.func28 rfl rfl (by simp) fun b => ?_
  refine hfactC (fun m => rdX (m.rd 0 rfl)) ?_
  rintro ⟨hl_r, hA_r⟩
  refine hseq <| hreg <| ?_
  refine hx (xh_box rfl (fun g3 => ?_))
  refine hmemL (fun w m => m.eqX 0 rfl (show _ = RBlk g3 54 (rv d A n c Al nl cl A3 n3 c3) from congrArg (RBlk _ _) (cells_agg _))) ?_
  refine hy (fun _ => y_assign rfl) <| hend <| hmemQ (X' := [_, _]) (S' := [_]) (fun _ m => m) <| hthen <| hseq <| hreg <| hy (fun _ => y_move rfl) <| ?_
  refine hx (xh_call rfl Try.call27 (listC (show st.seen.length ≤ 100000 by omega) (p := [])) [1] rfl [] rfl ?_)
  rintro _ _ _ ⟨v, n2, ks, rfl, rfl, rfl, hp⟩
  refine hfactL (fun m => (m.own 1 rfl).slice) ?_
  rintro ⟨A_x, c_x, rfl, hc_x⟩
  refine hfactL (fun m => (m.ord 1 rfl).2.1) fun hA_x => ?_
  obtain ⟨hn1, hks⟩ := hp
  rw [pre_nil] at hks
  have hnm := hS.files.names hks
  have hkl := hks.length_eq
  have hka : (akeys st.seen).length = st.seen.length := by simp [akeys]
  rw [hnm]
  refine hy (fun _ => y_assign rfl) <| hend <| hsub (ρ' := [(5, _), (4, _), (3, _), (0, _), (1, _)]) ⟨rfl, rfl, rfl, rfl, rfl, trivial⟩ <| hmemQ (X' := [_, _, _]) (S' := [_]) (fun _ m => m) <| hthen <| hseq <| hseq <| hdrw [8, 10, 15, 23] [(0, some 4), (1, some 4), (2, some 4), (3, some 4), (4, some 4), (5, some 4), (6, some 4), (7, some 4), (9, some 4), (8, none), (10, none), (11, some 4), (12, some 2), (13, some 2), (14, some 2), (16, some 4), (17, some 4), (18, some 3), (15, none), (19, some 3), (20, some 3), (21, some 3), (22, some 3), (24, some 4), (25, some 4), (26, some 4), (23, none), (27, some 4), (28, some 4)] (by kernel_rfl) (by kernel_rfl) rfl 99 <| htyU (y_move rfl) <| htyU (y_lenS rfl Try.underlying48) <| htyU (y_fld rfl fa54_1 (by decide)) <| hty (fun m => y_ld1 rfl ag51 (ld_blk (m.blk 2 rfl) (i := 1) rfl)) <| htyU (y_lenS rfl Try.underlying51) <| htyU (yF (y_neq rfl rfl) ((decide_eq_false (by omega)))) <| htyU (y_move rfl) <| htyUg (o := _) rfl rfl rfl (y_move rfl) <| htyg (o := _) rfl rfl rfl (fun m => yV (y_ldN rfl ag54 sz54 rfl ((m.blk 2 rfl).cells0)) ((rfl : _ = Value.agg (dv d.room (.slice A n c) (.slice Al nl cl) (.slice A3 n3 c3) d.pw).toArray))) <| ?_
  refine htxg (o := _) rfl rfl rfl (xh_call rfl Try.call37 (usedC (by omega)) [0] rfl [] rfl ?_)
  rintro _ _ _ ⟨rfl, rfl, rfl⟩
  refine ⟨(fun _ => wk [0, 0, 0] [0] rfl rfl), ?_⟩
  refine htxg (o := _) rfl rfl rfl (xh_call rfl Try.call38 (rusedC (by omega) (by omega) (by omega) (l := d.seen)) [] rfl [0] rfl ?_)
  rintro _ _ _ ⟨rfl, rfl, rfl⟩
  refine ⟨(fun _ => wk [0, 0, 0] [0] rfl rfl), ?_⟩
  refine htyUg (o := _) rfl rfl rfl (yF (y_neq rfl rfl) ((decide_eq_false (by omega)))) <| htyU (y_pickF rfl rfl) <| htyU (y_move rfl) <| htyUg (o := _) rfl rfl rfl (y_move rfl) <| htyUg (o := _) rfl rfl rfl (y_fld rfl fa54_3 (by decide)) <| htyg (o := _) rfl rfl rfl (fun m => y_ld1 rfl ag52 (ld_blk (m.blk 2 rfl) rfl)) <| htyUg (o := _) rfl rfl rfl (y_lenS rfl Try.underlying52) <| ?_
  refine htxg (o := _) rfl rfl rfl (xh_call rfl Try.call34 (waitsC) [0] rfl [] rfl ?_)
  rintro _ _ _ ⟨rfl, rfl, rfl⟩
  refine ⟨(fun _ => wk [0, 0, 0] [0] rfl rfl), ?_⟩
  refine htyUg (o := _) rfl rfl rfl (yF (y_neq rfl rfl) ((decide_eq_false (by omega)))) <| htyU (y_pickF rfl rfl) <| htyU (y_move rfl) <| htyUg (o := _) rfl rfl rfl (y_move rfl) <| htyUg (o := _) rfl rfl rfl (y_fld rfl fa54_4 (by decide)) <| htyg (o := _) rfl rfl rfl (fun m => y_ld1 rfl ag3 (ld_blk (m.blk 2 rfl) rfl)) <| htyUg (o := _) rfl rfl rfl (y_neq rfl rfl) <| ?_
  refine htxg (o := _) rfl rfl rfl (xh_call rfl Try.call31 (upC) [0] rfl [] rfl ?_)
  rintro _ _ _ ⟨rfl, rfl, rfl⟩
  refine ⟨(fun _ => wk [0, 0, 0] [0] rfl rfl), ?_⟩
  refine htyUg (o := _) rfl rfl rfl (yF (y_bne Try.underlying4 rfl rfl) ((by rw [hs8]; simp))) <| htyU (y_pickF rfl rfl) <| htend <| hsub (ρ' := [(41, _), (5, _), (4, _), (3, _), (0, _), (1, _)]) ⟨rfl, rfl, rfl, rfl, rfl, rfl, trivial⟩ <| hmemQ (X' := [_, _, _]) (S' := [_]) (fun _ m => m) <| hthen <| ?_
  refine hiff rfl (rfl) ?_
  refine hcskip <| hthen <| hseq <| hseq <| hreg <| hy (fun _ => y_assign rfl) <| hend <| hthen <| hblock <| ?_
  refine hloop1 (fun i => n2 - i) (fun i => [(6, .int .i64 (i : Nat))]) (fun i => [RDisk g st, ROwn 9 1 (.slice A_x n2 c_x) n2 (ss (d.seen.map (·.1))), RBlk g3 54 (rv d A n c Al nl cl A3 n3 c3)]) (fun i => []) (fun i => i ≤ n2) 0 [(41, _), (5, _), (3, _), (0, _), (1, _)] ⟨rfl, rfl, rfl, rfl, rfl, trivial⟩ [0, 0, 0] rfl [] rfl (Nat.zero_le _) ⟨rfl, trivial⟩ (fun i hI => ?_)
  refine hseq <| hseq <| hreg <| hy (fun _ => y_move rfl) <| hy (fun _ => y_move rfl) <| hy (fun _ => y_lenS rfl Try.underlying48) <| hy (fun _ => y_lss rfl rfl) <| hend <| hsub (ρ' := [(45, _), (6, _), (41, _), (5, _), (3, _), (0, _), (1, _)]) ⟨rfl, rfl, rfl, rfl, rfl, rfl, rfl, trivial⟩ <| hthen <| ?_
  refine hif rfl (fun hlt => ?_) (fun hlt => ?_)
  · have hil : i < d.seen.length := by omega
    obtain ⟨x0, hgx⟩ : ∃ x0, d.seen[i]? = some x0 := ⟨_, List.getElem?_eq_getElem hil⟩
    obtain ⟨f0, f1⟩ := fc_get d.seen i x0 hgx
    have hnmi : (ss (d.seen.map (·.1)))[i]? = some (SV x0.1) := by simp [ss, List.getElem?_map, hgx]
    have hE := hS.readE x0.1
    have hB := hS.readB x0.1
    refine hcskip <| hthen <| hseq <| hblock <| hseq <| hreg <| hy (fun _ => y_move rfl) <| hy (fun _ => y_move rfl) <| hy (fun _ => y_move rfl) <| hy (fun _ => y_idxS1 rfl rfl Try.underlying48 sz9 hA_x rfl (by omega)) <| hy (fun m => yV (y_ld1 rfl ag9 ((m.ord 1 rfl).cell hnmi)) ((rfl : _ = Value.string (strOf x0.1)))) <| ?_
    refine hx (xh_call rfl Try.call32 (readC hsm) [0] rfl [] rfl ?_)
    rintro _ _ _ ⟨v2, rfl, rfl, rfl⟩
    refine hfactL (fun m => (m.own 1 rfl).slice) ?_
    rintro ⟨A_x2, c_x2, rfl, hc_x2⟩
    refine hfactL (fun m => (m.ord 1 rfl).2.1) fun hA_x2 => ?_
    refine hy (fun _ => y_move rfl) <| hy (fun _ => y_extract rfl rfl) <| hy (fun _ => y_extract rfl rfl) <| hy (fun _ => y_assign rfl) <| hy (fun _ => y_assign rfl) <| hend <| hsub (ρ' := [(8, _), (7, _), (45, _), (6, _), (41, _), (5, _), (3, _), (0, _), (1, _)]) ⟨rfl, rfl, rfl, rfl, rfl, rfl, rfl, rfl, rfl, trivial⟩ <| hmemQ (X' := [_, _, _, _]) (S' := [_]) (fun _ m => m) <| hthen <| hseq <| hdrw [7] [(0, some 0), (1, some 1), (2, some 0), (3, some 0), (4, some 0), (5, some 0), (6, some 0), (7, none), (8, some 1), (9, some 1), (10, some 1), (11, some 1), (12, some 1)] (by kernel_rfl) (by kernel_rfl) rfl 99 <| hty (fun m => yV (y_ldN rfl ag54 sz54 rfl ((m.blk 3 rfl).cells0)) ((rfl : _ = Value.agg (rv d A n c Al nl cl A3 n3 c3).toArray))) <| htyU (y_fld rfl fa54_1 (by decide)) <| hty (fun m => y_ld1 rfl ag51 (ld_blk (m.blk 3 rfl) (i := 1) rfl)) <| htyU (y_move rfl) <| htyU (y_idxS rfl rfl Try.underlying51 sz60 hA_r rfl (by omega)) <| htyU (y_fld rfl fa60_0 (by decide)) <| hty (fun m => yV (y_ld1 rfl ag9 (rd_fld (m.rd 0 rfl) f0)) ((rfl : _ = Value.string (strOf x0.1)))) <| ?_
    refine htx (xh_call rfl Try.call62 (rreadC (by omega) okr (by omega)) [] rfl [0] rfl ?_)
    rintro _ _ _ ⟨rfl, rfl, rfl⟩
    refine ⟨(fun _ => wk [0, 0, 0, 0] [0] rfl rfl), ?_⟩
    refine htyU (y_move rfl) <| htyU (y_extract rfl rfl) <| htyU (y_extract rfl rfl) <| htyU (y_assign rfl) <| htyU (y_assign rfl) <| htend <| hsub (ρ' := [(10, _), (9, _), (8, _), (7, _), (45, _), (6, _), (41, _), (5, _), (3, _), (0, _), (1, _)]) ⟨rfl, rfl, rfl, rfl, rfl, rfl, rfl, rfl, rfl, rfl, rfl, trivial⟩ <| hmemQ (X' := [_, _, _, _]) (S' := [_]) (fun _ m => m) <| hthen <| hseq <| hdrw [] [(0, some 0), (1, some 0), (2, some 0), (3, some 0), (4, some 0), (5, some 0), (6, some 0), (7, some 0), (8, some 0), (9, some 0), (10, some 0), (11, some 0), (12, some 0), (13, some 0), (14, some 0), (15, some 0), (16, some 0), (17, some 0), (18, some 0), (19, some 0), (20, some 0), (21, some 0)] (by kernel_rfl) (by kernel_rfl) rfl 99 <| htyU (y_move rfl) <| htyU (y_move rfl) <| htyU (y_idxS1 rfl rfl Try.underlying48 sz9 hA_x rfl (by omega)) <| hty (fun m => yV (y_ld1 rfl ag9 ((m.ord 2 rfl).cell hnmi)) ((rfl : _ = Value.string (strOf x0.1)))) <| htyU (y_fld rfl fa54_1 (by decide)) <| hty (fun m => y_ld1 rfl ag51 (ld_blk (m.blk 3 rfl) (i := 1) rfl)) <| htyU (y_move rfl) <| htyU (y_idxS rfl rfl Try.underlying51 sz60 hA_r rfl (by omega)) <| htyU (y_fld rfl fa60_0 (by decide)) <| hty (fun m => yV (y_ld1 rfl ag9 (rd_fld (m.rd 0 rfl) f0)) ((rfl : _ = Value.string (strOf x0.1)))) <| htyU (yF (y_sne rfl rfl) ((decide_eq_false (not_not_intro rfl)))) <| htyU (y_move rfl) <| ?_
    refine htyUg (o := _) rfl rfl rfl (y_move rfl) <| htyUg (o := _) rfl rfl rfl (y_move rfl) <| htyUg (o := _) rfl rfl rfl (yF (y_neq rfl rfl) ((decide_eq_false (not_not_intro hE)))) <| htyU (y_pickF rfl rfl) <| htyU (y_move rfl) <| htyUg (o := _) rfl rfl rfl (y_move rfl) <| htyg (o := _) rfl rfl rfl (fun m => y_b2s rfl Try.underlying44 Try.underlying5 Try.underlying9 (m.ord 1 rfl)) <| htyUg (o := _) rfl rfl rfl (y_move rfl) <| htyUg (o := _) rfl rfl rfl (yF (y_sne rfl rfl) ((decide_eq_false (not_not_intro (congrArg strOf hB))))) <| htyU (y_pickF rfl rfl) <| htend <| hsub (ρ' := [(89, _), (10, _), (9, _), (8, _), (7, _), (45, _), (6, _), (41, _), (5, _), (3, _), (0, _), (1, _)]) ⟨rfl, rfl, rfl, rfl, rfl, rfl, rfl, rfl, rfl, rfl, rfl, rfl, trivial⟩ <| hthen <| ?_
    refine hiff rfl (rfl) ?_
    refine hcskip <| hqblock <| hthen <| hreg <| hy (fun _ => y_move rfl) <| hy (fun _ => y_add rfl rfl (w64 (by omega) (by omega))) <| hy (fun _ => y_assign rfl) <| hend <| hsub (ρ' := [(6, _), (89, _), (10, _), (9, _), (8, _), (7, _), (45, _), (41, _), (5, _), (3, _), (0, _), (1, _)]) ⟨rfl, rfl, rfl, rfl, rfl, rfl, rfl, rfl, rfl, rfl, rfl, rfl, trivial⟩ <| ?_
    refine hnext1 (i + 1) ⟨rfl, rfl, rfl, rfl, rfl, rfl, trivial⟩ [0, 1, 1] rfl [0] rfl (by omega) (by omega)
  · refine hexit <| hthen_exit <| hthen_exit <| hqblock_exit <| hthen <| hseq <| hreg <| hy (fun _ => y_assign rfl) <| hend <| hthen <| hret <| ?_
    exact hret1 trivial rfl rfl [0] rfl [] rfl ⟨rfl, rfl, rfl⟩
end Go.Proofs.Ytflcokdkobhieaa
