/- What the claim leans on, part 3. -/
import Derived.Test.YtlbecpekemlllaaGreatJC2
import Derived.Laws.BitsAllLaws
section
/- Contracts: the document's disk (layer 12): files with one more, changes. -/
set_option linter.unusedVariables false
set_option linter.unusedSimpArgs false
set_option maxRecDepth 20000
namespace Go.Proofs.YtlbecpekemlllaaGreat
open Go.Eng Go.Hx
def sless (a b : List UInt8) : Bool := Op.bytesLess (strOf a).toList (strOf b).toList
def wstep (f : FP) (st : List FP × Bool) (x : FP) : List FP × Bool :=
  let s1 := if st.2 = false ∧ sless x.1 f.1 = false then (st.1 ++ [f], true) else st
  (if x.1 ≠ f.1 then s1.1 ++ [x] else s1.1, s1.2)
def wst (f : FP) (l : List FP) (i : Nat) : List FP × Bool := (l.take i).foldl (wstep f) ([], false)
theorem wst_succ {f : FP} {l : List FP} {i : Nat} {x : FP} (h : l[i]? = some x) : wst f l (i + 1) = wstep f (wst f l i) x := by
  obtain ⟨hi, rfl⟩ := List.getElem?_eq_some_iff.1 h
  unfold wst
  rw [List.take_succ_eq_append_getElem hi, List.foldl_append]
  rfl
def withF (l : List FP) (f : FP) : List FP := if (wst f l l.length).2 then (wst f l l.length).1 else (wst f l l.length).1 ++ [f]
theorem rwithC {A : Option Addr} {n c : Nat} {l : List FP} {f : FP} (hl : l.length = n) (hn : n ≤ 1000000) : Con Tryz.prog 71 [.slice A n c, .agg [SV f.1, SV f.2].toArray] [] [RRd 2 A n (fc l)] (fun v_ X_ S_ => ∃ v k, v_ = v ∧ X_ = [ROwn 102 2 v k (fc (withF l f))] ∧ S_ = [] ∧ (k = (withF l f).length ∧ k ≤ n + 1)) := by
  refine henter (N := 52) Tryz.func71 rfl rfl (by simp) fun b => ?_
  refine hfactC (fun m => rdX (m.rd 0 rfl)) ?_
  rintro ⟨hl_r, hA_r⟩
  refine hseq <| hreg <| ?_
  refine hx (xh_box rfl (fun g3 => ?_))
  refine hmemL (fun w m => m.eqX 0 rfl (show _ = RBlk g3 102 [SV f.1, SV f.2] from congrArg (RBlk _ _) (cells_agg _))) ?_
  refine hy (fun _ => y_assign rfl) <| hend <| hmemQ (X' := [_]) (S' := [_]) (fun _ m => m) <| hthen <| hseq <| hreg <| hy (fun _ => y_assign rfl) <| hend <| hthen <| hseq <| hreg <| hy (fun _ => y_assign rfl) <| hend <| hthen <| hseq <| hseq <| hreg <| hy (fun _ => y_assign rfl) <| hend <| hthen <| hblock <| ?_
  refine hmemC (fun w m => m.addX (r' := ROwn 102 2 (.slice none 0 0) 0 []) (.refl _ _) (Own.nil _ _ _ _) (fun k hk => hk.elim)) ?_
  refine hloop6 (fun i A1 k c1 out pt => n - i) (fun i A1 k c1 out pt => [(5, .slice A1 k c1), (6, .bool pt), (7, .int .i64 (i : Nat))]) (fun i A1 k c1 out pt => [ROwn 102 2 (.slice A1 k c1) k (fc out), RBlk g3 102 [SV f.1, SV f.2]]) (fun i A1 k c1 out pt => []) (fun i A1 k c1 out pt => i ≤ n ∧ wst f l i = (out, pt) ∧ k = out.length ∧ k ≤ i + pt.toNat) 0 none 0 0 [] false [(4, _), (3, _), (0, _), (1, _)] ⟨rfl, rfl, rfl, rfl, trivial⟩ [0, 0] rfl [] rfl (⟨Nat.zero_le _, rfl, rfl, Nat.le_refl _⟩) ⟨rfl, rfl, rfl, trivial⟩ (fun i A1 k c1 out pt ⟨hin, hw, hk, hki⟩ => ?_)
  have hpt : pt.toNat ≤ 1 := by cases pt <;> decide
  refine hseq <| hseq <| hreg <| hy (fun _ => y_move rfl) <| hy (fun _ => y_move rfl) <| hy (fun _ => y_lenS rfl Tryz.underlying31) <| hy (fun _ => y_lss rfl rfl) <| hend <| hsub (ρ' := [(11, _), (5, _), (6, _), (7, _), (4, _), (3, _), (0, _), (1, _)]) ⟨rfl, rfl, rfl, rfl, rfl, rfl, rfl, rfl, trivial⟩ <| hthen <| ?_
  refine hif rfl (fun h => ?_) (fun h => ?_)
  · have hil : i < l.length := by omega
    obtain ⟨x, hgx⟩ : ∃ x, l[i]? = some x := ⟨_, List.getElem?_eq_getElem hil⟩
    obtain ⟨g0, g2⟩ := fc_get l i x hgx
    have hs := wst_succ (f := f) hgx
    rw [hw] at hs
    unfold wstep at hs
    by_cases hp : pt = true
    · subst hp
      simp only [Bool.true_eq_false, false_and, if_false] at hs
      refine hcskip <| hthen <| hseq <| hblock <| hseq <| hseq <| hdrw [] [(0, some 0), (1, some 0), (2, some 0), (3, some 0), (4, some 0), (5, some 0), (6, some 0), (7, some 0), (8, some 0), (9, some 0), (10, some 0), (11, some 0)] (by kernel_rfl) (by kernel_rfl) rfl 99 <| htyU (y_move rfl) <| htyU ((y_not rfl)) <| htyU (y_move rfl) <| htskip rfl rfl rfl (by decide) <| htskip rfl rfl rfl (by decide) <| htskip rfl rfl rfl (by decide) <| htskip rfl rfl rfl (by decide) <| htskip rfl rfl rfl (by decide) <| htskip rfl rfl rfl (by decide) <| htskip rfl rfl rfl (by decide) <| htskip rfl rfl rfl (by decide) <| htyU (y_pickF rfl rfl) <| htend <| hsub (ρ' := [(25, _), (11, _), (5, _), (6, _), (7, _), (4, _), (3, _), (0, _), (1, _)]) ⟨rfl, rfl, rfl, rfl, rfl, rfl, rfl, rfl, rfl, trivial⟩ <| hthen <| ?_
      refine hiff rfl (rfl) ?_
      refine hcskip <| hthen <| hseq <| hdrw [] [(0, some 0), (1, some 0), (2, some 0), (3, some 0), (4, some 0), (5, some 0), (6, some 0), (7, some 0)] (by kernel_rfl) (by kernel_rfl) rfl 99 <| htyU (y_move rfl) <| htyU (y_move rfl) <| htyU (y_idxS rfl rfl Tryz.underlying31 sz102 hA_r rfl (by omega)) <| htyU (y_fld rfl fa102_0 (by decide)) <| hty (fun m => yV (y_ld1 rfl ag9 (rd_fld (m.rd 0 rfl) g0)) ((rfl : _ = Value.string (strOf x.1)))) <| htyU (y_fld rfl fa102_0 (by decide)) <| hty (fun m => yV (y_ld1 rfl ag9 (ld_blk (m.blk 1 rfl) (i := 0) rfl)) ((rfl : _ = Value.string (strOf f.1)))) <| htyU (y_sne rfl rfl) <| htend <| hsub (ρ' := [(37, _), (25, _), (11, _), (5, _), (6, _), (7, _), (4, _), (3, _), (0, _), (1, _)]) ⟨rfl, rfl, rfl, rfl, rfl, rfl, rfl, rfl, rfl, rfl, trivial⟩ <| hthen <| ?_
      refine hif rfl (fun h1 => ?_) (fun h1 => ?_)
      · have hne : x.1 ≠ f.1 := fun e => h1 (strOf_inj.2 e)
        refine hreg <| hy (fun _ => y_move rfl) <| hy (fun _ => y_move rfl) <| hy (fun _ => y_move rfl) <| hy (fun _ => y_idxS rfl rfl Tryz.underlying31 sz102 hA_r rfl (by omega)) <| hy (fun m => yV (y_ldN rfl ag102 sz102 rfl (fc_cells (m.rd 0 rfl) hgx)) ((rfl : _ = Value.agg [SV x.1, SV x.2].toArray))) <| ?_
        refine hx (xh_bsl Tryz.underlying31 ti102 rfl rfl rfl (by simp [Value.cells, B8]) (by decide) (by decide) (fun g43 => ?_))
        have hA_b43 : 0 < 1 → (some (⟨g43, 0, none⟩ : Addr)) ≠ none := fun _ h => by cases h
        refine hmemL (fun w m => m.eqX 0 rfl (show _ = ROwn 102 2 (.slice (some ⟨g43, 0, none⟩) 1 1) 1 (fc [x]) from rfl)) ?_
        refine hx (xh_app 1 rfl rfl rfl Tryz.underlying31 Tryz.underlying31 (by exact .inl rfl) ti102 rfl (fun m => Src.of_rd (m.ord 0 rfl)) fc_one (by unfold maxLen; omega) (by omega) (fun u => ?_))
        refine hfactL (fun m => (m.own 0 rfl).slice) ?_
        rintro ⟨A_o, c_o, rfl, hc_o⟩
        refine hfactL (fun m => (m.ord 0 rfl).2.1) fun hA_o => ?_
        refine hmemL (fun w m => m.eqX 0 rfl (show _ = ROwn 102 2 (.slice A_o (k + 1) c_o) (k + 1) (fc (out ++ [x])) from congrArg (ROwn _ _ _ _) (fc_append ..).symm)) ?_
        refine hy (fun _ => y_assign rfl) <| hend <| hsub (ρ' := [(5, _), (37, _), (25, _), (11, _), (6, _), (7, _), (4, _), (3, _), (0, _), (1, _)]) ⟨rfl, rfl, rfl, rfl, rfl, rfl, rfl, rfl, rfl, rfl, trivial⟩ <| hmemQ (X' := [_, _, _]) (S' := [_]) (fun _ m => m) <| hqblock <| hthen <| hreg <| hy (fun _ => y_move rfl) <| hy (fun _ => y_add rfl rfl (w64 (by omega) (by omega))) <| hy (fun _ => y_assign rfl) <| hend <| hsub (ρ' := [(7, _), (5, _), (37, _), (25, _), (11, _), (6, _), (4, _), (3, _), (0, _), (1, _)]) ⟨rfl, rfl, rfl, rfl, rfl, rfl, rfl, rfl, rfl, rfl, trivial⟩ <| ?_
        refine hnext6 (i + 1) A_o (k + 1) c_o (out ++ [x]) true ⟨rfl, rfl, rfl, rfl, rfl, rfl, rfl, trivial⟩ [0, 1] rfl [0] rfl (⟨by omega, by rw [hs, if_pos hne], by rw [List.length_append, hk.symm]; rfl, by simp at hki ⊢; omega⟩) (by omega)
      · have hne : ¬ x.1 ≠ f.1 := fun e => h1 (fun h => e (strOf_inj.1 h))
        refine hcskip <| hqblock <| hthen <| hreg <| hy (fun _ => y_move rfl) <| hy (fun _ => y_add rfl rfl (w64 (by omega) (by omega))) <| hy (fun _ => y_assign rfl) <| hend <| hsub (ρ' := [(7, _), (37, _), (25, _), (11, _), (5, _), (6, _), (4, _), (3, _), (0, _), (1, _)]) ⟨rfl, rfl, rfl, rfl, rfl, rfl, rfl, rfl, rfl, rfl, trivial⟩ <| ?_
        refine hnext6 (i + 1) A1 (k) c1 (out) true ⟨rfl, rfl, rfl, rfl, rfl, rfl, rfl, trivial⟩ [0, 0] rfl [0] rfl (⟨by omega, by rw [hs, if_neg hne], hk.symm.symm, by simp at hki ⊢; omega⟩) (by omega)
    · obtain rfl : pt = false := by simpa using hp
      by_cases hge : sless x.1 f.1 = false
      · simp only [hge, and_self, if_true] at hs
        refine hcskip <| hthen <| hseq <| hblock <| hseq <| hseq <| hdrw [] [(0, some 0), (1, some 0), (2, some 0), (3, some 0), (4, some 0), (5, some 0), (6, some 0), (7, some 0), (8, some 0), (9, some 0), (10, some 0), (11, some 0)] (by kernel_rfl) (by kernel_rfl) rfl 99 <| htyU (y_move rfl) <| htyU ((y_not rfl)) <| htyU (y_move rfl) <| htyUg (o := _) rfl rfl rfl (y_move rfl) <| htyUg (o := _) rfl rfl rfl (y_move rfl) <| htyUg (o := _) rfl rfl rfl (y_idxS rfl rfl Tryz.underlying31 sz102 hA_r rfl (by omega)) <| htyUg (o := _) rfl rfl rfl (y_fld rfl fa102_0 (by decide)) <| htyg (o := _) rfl rfl rfl (fun m => yV (y_ld1 rfl ag9 (rd_fld (m.rd 0 rfl) g0)) ((rfl : _ = Value.string (strOf x.1)))) <| htyUg (o := _) rfl rfl rfl (y_fld rfl fa102_0 (by decide)) <| htyg (o := _) rfl rfl rfl (fun m => yV (y_ld1 rfl ag9 (ld_blk (m.blk 1 rfl) (i := 0) rfl)) ((rfl : _ = Value.string (strOf f.1)))) <| htyUg (o := _) rfl rfl rfl (yT (y_sge rfl rfl) ((by show (!sless x.1 f.1) = true; rw [hge]; rfl))) <| htyU (y_pickT rfl rfl) <| htend <| hsub (ρ' := [(25, _), (11, _), (5, _), (6, _), (7, _), (4, _), (3, _), (0, _), (1, _)]) ⟨rfl, rfl, rfl, rfl, rfl, rfl, rfl, rfl, rfl, trivial⟩ <| hthen <| ?_
        refine hift rfl (rfl) ?_
        refine hseq <| hreg <| hy (fun _ => y_move rfl) <| hy (fun m => yV (y_ldN rfl ag102 sz102 rfl ((m.blk 1 rfl).cells0)) ((rfl : _ = Value.agg [SV f.1, SV f.2].toArray))) <| ?_
        refine hx (xh_bsl Tryz.underlying31 ti102 rfl rfl rfl (by simp [Value.cells, B8]) (by decide) (by decide) (fun g28 => ?_))
        have hA_b28 : 0 < 1 → (some (⟨g28, 0, none⟩ : Addr)) ≠ none := fun _ h => by cases h
        refine hmemL (fun w m => m.eqX 0 rfl (show _ = ROwn 102 2 (.slice (some ⟨g28, 0, none⟩) 1 1) 1 (fc [f]) from rfl)) ?_
        refine hx (xh_app 1 rfl rfl rfl Tryz.underlying31 Tryz.underlying31 (by exact .inl rfl) ti102 rfl (fun m => Src.of_rd (m.ord 0 rfl)) fc_one (by unfold maxLen; omega) (by omega) (fun u => ?_))
        refine hfactL (fun m => (m.own 0 rfl).slice) ?_
        rintro ⟨A_o, c_o, rfl, hc_o⟩
        refine hfactL (fun m => (m.ord 0 rfl).2.1) fun hA_o => ?_
        refine hmemL (fun w m => m.eqX 0 rfl (show _ = ROwn 102 2 (.slice A_o (k + 1) c_o) (k + 1) (fc (out ++ [f])) from congrArg (ROwn _ _ _ _) (fc_append ..).symm)) ?_
        have hk1 : (out ++ [f]).length = k + 1 := by rw [List.length_append, hk]; rfl
        refine hy (fun _ => y_assign rfl) <| hend <| hsub (ρ' := [(5, _), (25, _), (11, _), (6, _), (7, _), (4, _), (3, _), (0, _), (1, _)]) ⟨rfl, rfl, rfl, rfl, rfl, rfl, rfl, rfl, rfl, trivial⟩ <| hmemQ (X' := [_, _, _]) (S' := [_]) (fun _ m => m) <| hthen <| hreg <| hy (fun _ => y_assign rfl) <| hend <| hthen <| hseq <| hdrw [] [(0, some 0), (1, some 0), (2, some 0), (3, some 0), (4, some 0), (5, some 0), (6, some 0), (7, some 0)] (by kernel_rfl) (by kernel_rfl) rfl 99 <| htyU (y_move rfl) <| htyU (y_move rfl) <| htyU (y_idxS rfl rfl Tryz.underlying31 sz102 hA_r rfl (by omega)) <| htyU (y_fld rfl fa102_0 (by decide)) <| hty (fun m => yV (y_ld1 rfl ag9 (rd_fld (m.rd 0 rfl) g0)) ((rfl : _ = Value.string (strOf x.1)))) <| htyU (y_fld rfl fa102_0 (by decide)) <| hty (fun m => yV (y_ld1 rfl ag9 (ld_blk (m.blk 2 rfl) (i := 0) rfl)) ((rfl : _ = Value.string (strOf f.1)))) <| htyU (y_sne rfl rfl) <| htend <| hsub (ρ' := [(37, _), (6, _), (5, _), (25, _), (11, _), (7, _), (4, _), (3, _), (0, _), (1, _)]) ⟨rfl, rfl, rfl, rfl, rfl, rfl, rfl, rfl, rfl, rfl, trivial⟩ <| hthen <| ?_
        refine hif rfl (fun h1 => ?_) (fun h1 => ?_)
        · have hne : x.1 ≠ f.1 := fun e => h1 (strOf_inj.2 e)
          refine hreg <| hy (fun _ => y_move rfl) <| hy (fun _ => y_move rfl) <| hy (fun _ => y_move rfl) <| hy (fun _ => y_idxS rfl rfl Tryz.underlying31 sz102 hA_r rfl (by omega)) <| hy (fun m => yV (y_ldN rfl ag102 sz102 rfl (fc_cells (m.rd 0 rfl) hgx)) ((rfl : _ = Value.agg [SV x.1, SV x.2].toArray))) <| ?_
          refine hx (xh_bsl Tryz.underlying31 ti102 rfl rfl rfl (by simp [Value.cells, B8]) (by decide) (by decide) (fun g43 => ?_))
          have hA_b43 : 0 < 1 → (some (⟨g43, 0, none⟩ : Addr)) ≠ none := fun _ h => by cases h
          refine hmemL (fun w m => m.eqX 0 rfl (show _ = ROwn 102 2 (.slice (some ⟨g43, 0, none⟩) 1 1) 1 (fc [x]) from rfl)) ?_
          refine hx (xh_app 1 rfl rfl rfl Tryz.underlying31 Tryz.underlying31 (by exact .inl rfl) ti102 rfl (fun m => Src.of_rd (m.ord 0 rfl)) fc_one (by unfold maxLen; omega) (by omega) (fun u2 => ?_))
          refine hfactL (fun m => (m.own 0 rfl).slice) ?_
          rintro ⟨A_o2, c_o2, rfl, hc_o⟩
          refine hfactL (fun m => (m.ord 0 rfl).2.1) fun hA_o => ?_
          refine hmemL (fun w m => m.eqX 0 rfl (show _ = ROwn 102 2 (.slice A_o2 (k + 1 + 1) c_o2) (k + 1 + 1) (fc ((out ++ [f]) ++ [x])) from congrArg (ROwn _ _ _ _) (fc_append ..).symm)) ?_
          refine hy (fun _ => y_assign rfl) <| hend <| hsub (ρ' := [(5, _), (37, _), (6, _), (25, _), (11, _), (7, _), (4, _), (3, _), (0, _), (1, _)]) ⟨rfl, rfl, rfl, rfl, rfl, rfl, rfl, rfl, rfl, rfl, trivial⟩ <| hmemQ (X' := [_, _, _, _]) (S' := [_]) (fun _ m => m) <| hqblock <| hthen <| hreg <| hy (fun _ => y_move rfl) <| hy (fun _ => y_add rfl rfl (w64 (by omega) (by omega))) <| hy (fun _ => y_assign rfl) <| hend <| hsub (ρ' := [(7, _), (5, _), (37, _), (6, _), (25, _), (11, _), (4, _), (3, _), (0, _), (1, _)]) ⟨rfl, rfl, rfl, rfl, rfl, rfl, rfl, rfl, rfl, rfl, trivial⟩ <| ?_
          refine hnext6 (i + 1) A_o2 (k + 1 + 1) c_o2 ((out ++ [f]) ++ [x]) true ⟨rfl, rfl, rfl, rfl, rfl, rfl, rfl, trivial⟩ [0, 2] rfl [0] rfl (⟨by omega, by rw [hs, if_pos hne], by rw [List.length_append, hk1]; rfl, by simp at hki ⊢; omega⟩) (by omega)
        · have hne : ¬ x.1 ≠ f.1 := fun e => h1 (fun h => e (strOf_inj.1 h))
          refine hcskip <| hqblock <| hthen <| hreg <| hy (fun _ => y_move rfl) <| hy (fun _ => y_add rfl rfl (w64 (by omega) (by omega))) <| hy (fun _ => y_assign rfl) <| hend <| hsub (ρ' := [(7, _), (37, _), (6, _), (5, _), (25, _), (11, _), (4, _), (3, _), (0, _), (1, _)]) ⟨rfl, rfl, rfl, rfl, rfl, rfl, rfl, rfl, rfl, rfl, trivial⟩ <| ?_
          refine hnext6 (i + 1) A_o (k + 1) c_o ((out ++ [f])) true ⟨rfl, rfl, rfl, rfl, rfl, rfl, rfl, trivial⟩ [0, 1] rfl [0] rfl (⟨by omega, by rw [hs, if_neg hne], hk1.symm, by simp at hki ⊢; omega⟩) (by omega)
      · have hlt : sless x.1 f.1 = true := by simpa using hge
        simp only [hlt, Bool.true_eq_false, and_false, if_false] at hs
        refine hcskip <| hthen <| hseq <| hblock <| hseq <| hseq <| hdrw [] [(0, some 0), (1, some 0), (2, some 0), (3, some 0), (4, some 0), (5, some 0), (6, some 0), (7, some 0), (8, some 0), (9, some 0), (10, some 0), (11, some 0)] (by kernel_rfl) (by kernel_rfl) rfl 99 <| htyU (y_move rfl) <| htyU ((y_not rfl)) <| htyU (y_move rfl) <| htyUg (o := _) rfl rfl rfl (y_move rfl) <| htyUg (o := _) rfl rfl rfl (y_move rfl) <| htyUg (o := _) rfl rfl rfl (y_idxS rfl rfl Tryz.underlying31 sz102 hA_r rfl (by omega)) <| htyUg (o := _) rfl rfl rfl (y_fld rfl fa102_0 (by decide)) <| htyg (o := _) rfl rfl rfl (fun m => yV (y_ld1 rfl ag9 (rd_fld (m.rd 0 rfl) g0)) ((rfl : _ = Value.string (strOf x.1)))) <| htyUg (o := _) rfl rfl rfl (y_fld rfl fa102_0 (by decide)) <| htyg (o := _) rfl rfl rfl (fun m => yV (y_ld1 rfl ag9 (ld_blk (m.blk 1 rfl) (i := 0) rfl)) ((rfl : _ = Value.string (strOf f.1)))) <| htyUg (o := _) rfl rfl rfl (yF (y_sge rfl rfl) ((by show (!sless x.1 f.1) = false; rw [hlt]; rfl))) <| htyU (y_pickT rfl rfl) <| htend <| hsub (ρ' := [(25, _), (11, _), (5, _), (6, _), (7, _), (4, _), (3, _), (0, _), (1, _)]) ⟨rfl, rfl, rfl, rfl, rfl, rfl, rfl, rfl, rfl, trivial⟩ <| hthen <| ?_
        refine hiff rfl (rfl) ?_
        refine hcskip <| hthen <| hseq <| hdrw [] [(0, some 0), (1, some 0), (2, some 0), (3, some 0), (4, some 0), (5, some 0), (6, some 0), (7, some 0)] (by kernel_rfl) (by kernel_rfl) rfl 99 <| htyU (y_move rfl) <| htyU (y_move rfl) <| htyU (y_idxS rfl rfl Tryz.underlying31 sz102 hA_r rfl (by omega)) <| htyU (y_fld rfl fa102_0 (by decide)) <| hty (fun m => yV (y_ld1 rfl ag9 (rd_fld (m.rd 0 rfl) g0)) ((rfl : _ = Value.string (strOf x.1)))) <| htyU (y_fld rfl fa102_0 (by decide)) <| hty (fun m => yV (y_ld1 rfl ag9 (ld_blk (m.blk 1 rfl) (i := 0) rfl)) ((rfl : _ = Value.string (strOf f.1)))) <| htyU (y_sne rfl rfl) <| htend <| hsub (ρ' := [(37, _), (25, _), (11, _), (5, _), (6, _), (7, _), (4, _), (3, _), (0, _), (1, _)]) ⟨rfl, rfl, rfl, rfl, rfl, rfl, rfl, rfl, rfl, rfl, trivial⟩ <| hthen <| ?_
        refine hif rfl (fun h1 => ?_) (fun h1 => ?_)
        · have hne : x.1 ≠ f.1 := fun e => h1 (strOf_inj.2 e)
          refine hreg <| hy (fun _ => y_move rfl) <| hy (fun _ => y_move rfl) <| hy (fun _ => y_move rfl) <| hy (fun _ => y_idxS rfl rfl Tryz.underlying31 sz102 hA_r rfl (by omega)) <| hy (fun m => yV (y_ldN rfl ag102 sz102 rfl (fc_cells (m.rd 0 rfl) hgx)) ((rfl : _ = Value.agg [SV x.1, SV x.2].toArray))) <| ?_
          refine hx (xh_bsl Tryz.underlying31 ti102 rfl rfl rfl (by simp [Value.cells, B8]) (by decide) (by decide) (fun g43 => ?_))
          have hA_b43 : 0 < 1 → (some (⟨g43, 0, none⟩ : Addr)) ≠ none := fun _ h => by cases h
          refine hmemL (fun w m => m.eqX 0 rfl (show _ = ROwn 102 2 (.slice (some ⟨g43, 0, none⟩) 1 1) 1 (fc [x]) from rfl)) ?_
          refine hx (xh_app 1 rfl rfl rfl Tryz.underlying31 Tryz.underlying31 (by exact .inl rfl) ti102 rfl (fun m => Src.of_rd (m.ord 0 rfl)) fc_one (by unfold maxLen; omega) (by omega) (fun u => ?_))
          refine hfactL (fun m => (m.own 0 rfl).slice) ?_
          rintro ⟨A_o, c_o, rfl, hc_o⟩
          refine hfactL (fun m => (m.ord 0 rfl).2.1) fun hA_o => ?_
          refine hmemL (fun w m => m.eqX 0 rfl (show _ = ROwn 102 2 (.slice A_o (k + 1) c_o) (k + 1) (fc (out ++ [x])) from congrArg (ROwn _ _ _ _) (fc_append ..).symm)) ?_
          refine hy (fun _ => y_assign rfl) <| hend <| hsub (ρ' := [(5, _), (37, _), (25, _), (11, _), (6, _), (7, _), (4, _), (3, _), (0, _), (1, _)]) ⟨rfl, rfl, rfl, rfl, rfl, rfl, rfl, rfl, rfl, rfl, trivial⟩ <| hmemQ (X' := [_, _, _]) (S' := [_]) (fun _ m => m) <| hqblock <| hthen <| hreg <| hy (fun _ => y_move rfl) <| hy (fun _ => y_add rfl rfl (w64 (by omega) (by omega))) <| hy (fun _ => y_assign rfl) <| hend <| hsub (ρ' := [(7, _), (5, _), (37, _), (25, _), (11, _), (6, _), (4, _), (3, _), (0, _), (1, _)]) ⟨rfl, rfl, rfl, rfl, rfl, rfl, rfl, rfl, rfl, rfl, trivial⟩ <| ?_
          refine hnext6 (i + 1) A_o (k + 1) c_o (out ++ [x]) false ⟨rfl, rfl, rfl, rfl, rfl, rfl, rfl, trivial⟩ [0, 1] rfl [0] rfl (⟨by omega, by rw [hs, if_pos hne], by rw [List.length_append, hk.symm]; rfl, by simp at hki ⊢; omega⟩) (by omega)
        · have hne : ¬ x.1 ≠ f.1 := fun e => h1 (fun h => e (strOf_inj.1 h))
          refine hcskip <| hqblock <| hthen <| hreg <| hy (fun _ => y_move rfl) <| hy (fun _ => y_add rfl rfl (w64 (by omega) (by omega))) <| hy (fun _ => y_assign rfl) <| hend <| hsub (ρ' := [(7, _), (37, _), (25, _), (11, _), (5, _), (6, _), (4, _), (3, _), (0, _), (1, _)]) ⟨rfl, rfl, rfl, rfl, rfl, rfl, rfl, rfl, rfl, rfl, trivial⟩ <| ?_
          refine hnext6 (i + 1) A1 (k) c1 (out) false ⟨rfl, rfl, rfl, rfl, rfl, rfl, rfl, trivial⟩ [0, 0] rfl [0] rfl (⟨by omega, by rw [hs, if_neg hne], hk.symm.symm, by simp at hki ⊢; omega⟩) (by omega)
  · obtain rfl : i = n := by omega
    have hww : wst f l l.length = (out, pt) := by rw [hl]; exact hw
    by_cases hp : pt = true
    · subst hp
      have hW : withF l f = out := by rw [withF, hww]; rfl
      refine hexit <| hthen_exit <| hthen_exit <| hqblock_exit <| hthen <| hseq <| hseq <| hreg <| hy (fun _ => y_move rfl) <| hy (fun _ => (y_not rfl)) <| hend <| hsub (ρ' := [(46, _), (11, _), (5, _), (6, _), (7, _), (4, _), (3, _), (0, _), (1, _)]) ⟨rfl, rfl, rfl, rfl, rfl, rfl, rfl, rfl, rfl, trivial⟩ <| hthen <| ?_
      refine hiff rfl (rfl) ?_
      refine hcskip <| hthen <| hseq <| hreg <| hy (fun _ => y_move rfl) <| hy (fun _ => y_assign rfl) <| hend <| hsub (ρ' := [(4, _), (46, _), (11, _), (5, _), (6, _), (7, _), (3, _), (0, _), (1, _)]) ⟨rfl, rfl, rfl, rfl, rfl, rfl, rfl, rfl, rfl, trivial⟩ <| hthen <| hret <| ?_
      refine hmemQ (fun w m => m.eqX 0 rfl (show _ = ROwn 102 2 (.slice A1 k c1) k (fc (withF l f)) from by rw [hW])) ?_
      exact hret1 trivial rfl rfl [0] rfl [] rfl ⟨_, _, rfl, rfl, rfl, ⟨by rw [hW]; exact hk, by simp at hki; omega⟩⟩
    · obtain rfl : pt = false := by simpa using hp
      have hW : withF l f = out ++ [f] := by rw [withF, hww]; rfl
      refine hexit <| hthen_exit <| hthen_exit <| hqblock_exit <| hthen <| hseq <| hseq <| hreg <| hy (fun _ => y_move rfl) <| hy (fun _ => (y_not rfl)) <| hend <| hsub (ρ' := [(46, _), (11, _), (5, _), (6, _), (7, _), (4, _), (3, _), (0, _), (1, _)]) ⟨rfl, rfl, rfl, rfl, rfl, rfl, rfl, rfl, rfl, trivial⟩ <| hthen <| ?_
      refine hift rfl (rfl) ?_
      refine hreg <| hy (fun _ => y_move rfl) <| hy (fun m => yV (y_ldN rfl ag102 sz102 rfl ((m.blk 1 rfl).cells0)) ((rfl : _ = Value.agg [SV f.1, SV f.2].toArray))) <| ?_
      refine hx (xh_bsl Tryz.underlying31 ti102 rfl rfl rfl (by simp [Value.cells, B8]) (by decide) (by decide) (fun g49 => ?_))
      have hA_b49 : 0 < 1 → (some (⟨g49, 0, none⟩ : Addr)) ≠ none := fun _ h => by cases h
      refine hmemL (fun w m => m.eqX 0 rfl (show _ = ROwn 102 2 (.slice (some ⟨g49, 0, none⟩) 1 1) 1 (fc [f]) from rfl)) ?_
      refine hx (xh_app 1 rfl rfl rfl Tryz.underlying31 Tryz.underlying31 (by exact .inl rfl) ti102 rfl (fun m => Src.of_rd (m.ord 0 rfl)) fc_one (by unfold maxLen; omega) (by omega) (fun u => ?_))
      refine hfactL (fun m => (m.own 0 rfl).slice) ?_
      rintro ⟨A_o, c_o, rfl, hc_o⟩
      refine hfactL (fun m => (m.ord 0 rfl).2.1) fun hA_o => ?_
      refine hmemL (fun w m => m.eqX 0 rfl (show _ = ROwn 102 2 (.slice A_o (k + 1) c_o) (k + 1) (fc (withF l f)) from (congrArg (ROwn _ _ _ _) ((fc_append ..).symm.trans (congrArg fc hW.symm))))) ?_
      refine hy (fun _ => y_assign rfl) <| hend <| hsub (ρ' := [(5, _), (46, _), (11, _), (6, _), (7, _), (4, _), (3, _), (0, _), (1, _)]) ⟨rfl, rfl, rfl, rfl, rfl, rfl, rfl, rfl, rfl, trivial⟩ <| hmemQ (X' := [_, _, _]) (S' := [_]) (fun _ m => m) <| hthen <| hseq <| hreg <| hy (fun _ => y_move rfl) <| hy (fun _ => y_assign rfl) <| hend <| hsub (ρ' := [(4, _), (5, _), (46, _), (11, _), (6, _), (7, _), (3, _), (0, _), (1, _)]) ⟨rfl, rfl, rfl, rfl, rfl, rfl, rfl, rfl, rfl, trivial⟩ <| hthen <| hret <| ?_
      exact hret1 trivial rfl rfl [0] rfl [] rfl ⟨_, _, rfl, rfl, rfl, ⟨by rw [hW, List.length_append, hk]; rfl, by simp at hki; omega⟩⟩
end Go.Proofs.YtlbecpekemlllaaGreat
end
section
/- Contracts: the document's disk (layer 12): a change made, Read. -/
set_option linter.unusedVariables false
set_option linter.unusedSimpArgs false
set_option maxRecDepth 20000
namespace Go.Proofs.YtlbecpekemlllaaGreat
open Go.Eng Go.Hx
def withoutF (l : List FP) (p : List UInt8) : List FP := l.filter fun x => decide (x.1 ≠ p)
/-- a change of the document, as a value -/
def cv (k : Int) (p t b : List UInt8) : List Value := [.int .i64 k, SV p, SV t, SV b]
def makeF (l : List FP) (k : Int) (p t b : List UInt8) : List FP :=
  if k = 0 then withF l (p, b) else match l[findN l p]? with
    | none => l
    | some x => if k = 2 then withoutF l p else withF (withoutF l p) (t, x.2)
theorem findI_neg {l : List FP} {p : List UInt8} : findI l p < 0 ↔ l[findN l p]? = none := by
  unfold findI
  by_cases h : findN l p < l.length
  · rw [if_pos h, List.getElem?_eq_getElem h]; simp
  · rw [if_neg h, List.getElem?_eq_none (by omega)]; simp
theorem rmakeC {A : Option Addr} {n c : Nat} {l : List FP} {k : Int} {p t bb : List UInt8} (hl : l.length = n) (hn : n ≤ 900000) : Con Tryz.prog 41 [.slice A n c, .agg (cv k p t bb).toArray] [] [RRd 2 A n (fc l)] (fun v_ X_ S_ => ∃ A1 n1 c1, v_ = (.slice A1 n1 c1) ∧ X_ = [] ∧ S_ = [RRd 2 A1 n1 (fc (makeF l k p t bb))] ∧ (n1 = (makeF l k p t bb).length ∧ n1 ≤ n + 1)) := by
  refine henter (N := 43) Tryz.func41 rfl rfl (by simp) fun b => ?_
  refine hfactC (fun m => rdX (m.rd 0 rfl)) ?_
  rintro ⟨hl_r, hA_r⟩
  refine hseq <| hreg <| ?_
  refine hx (xh_box rfl (fun g3 => ?_))
  refine hmemL (fun w m => m.eqX 0 rfl (show _ = RBlk g3 87 (cv k p t bb) from congrArg (RBlk _ _) (cells_agg _))) ?_
  refine hy (fun _ => y_assign rfl) <| hend <| hmemQ (X' := [_]) (S' := [_]) (fun _ m => m) <| hthen <| hseq <| hseq <| hreg <| hy (fun _ => y_fld rfl fa87_0 (by decide)) <| hy (fun m => y_ld1 rfl ag3 (ld_blk (m.blk 0 rfl) (i := 0) rfl)) <| hy (fun _ => y_eql rfl rfl) <| hend <| hsub (ρ' := [(8, _), (4, _), (3, _), (0, _), (1, _)]) ⟨rfl, rfl, rfl, rfl, rfl, trivial⟩ <| hthen <| ?_
  refine hif rfl (fun h0 => ?_) (fun h0 => ?_)
  · have hM : makeF l k p t bb = withF l (p, bb) := by rw [makeF, if_pos h0]
    refine hseq <| hreg <| hy (fun _ => y_move rfl) <| hy (fun _ => y_fld rfl fa87_1 (by decide)) <| hy (fun m => yV (y_ld1 rfl ag9 (ld_blk (m.blk 0 rfl) (i := 1) rfl)) ((rfl : _ = SV p))) <| hy (fun _ => y_fld rfl fa87_3 (by decide)) <| hy (fun m => yV (y_ld1 rfl ag9 (ld_blk (m.blk 0 rfl) (i := 3) rfl)) ((rfl : _ = SV bb))) <| hy (fun _ => yV (y_build ti102 rfl rfl (by kernel_rfl) (.cons (o := 0) (sz := 1) (by kernel_rfl) rfl rfl (Nat.le_of_ble_eq_true rfl) (.cons (o := 1) (sz := 1) (by kernel_rfl) rfl rfl (Nat.le_of_ble_eq_true rfl) .nil))) ((rfl : _ = Value.agg [SV p, SV bb].toArray))) <| ?_
    refine hx (xh_call rfl Tryz.call71 (rwithC (by omega) (by omega) (f := (p, bb))) [] rfl [0] rfl ?_)
    rintro _ _ _ ⟨v, k2, rfl, rfl, rfl, hp⟩
    refine hfactL (fun m => (m.own 0 rfl).slice) ?_
    rintro ⟨A_x, c_x, rfl, hc_x⟩
    refine hfactL (fun m => (m.ord 0 rfl).2.1) fun hA_x => ?_
    refine hy (fun _ => y_assign rfl) <| hend <| hsub (ρ' := [(4, _), (8, _), (3, _), (0, _), (1, _)]) ⟨rfl, rfl, rfl, rfl, rfl, trivial⟩ <| hmemQ (X' := [_, _]) (S' := [_]) (fun _ m => m) <| hthen <| hret <| hthen_ret <| ?_
    rw [← hM] at hp
    refine hmemQ (fun w m => m.eqX 0 rfl (show _ = ROwn 102 2 (.slice A_x k2 c_x) k2 (fc (makeF l k p t bb)) from by rw [hM])) ?_
    refine hmemQ (fun w m => (m.perm (takeR_perm [0] _ [_] _ rfl)).freeze) ?_
    refine hmemQ (fun w m => m.asV 0 rfl .own) ?_
    refine hfactQ (fun m => rdX (m.rd 0 rfl)) ?_
    rintro ⟨hl_xr, hA_xr⟩
    exact hret1 trivial rfl rfl [] rfl [0] rfl ⟨_, _, _, rfl, rfl, rfl, hp⟩
  · refine hcskip <| hthen <| hseq <| hreg <| hy (fun _ => y_move rfl) <| hy (fun _ => y_fld rfl fa87_1 (by decide)) <| hy (fun m => yV (y_ld1 rfl ag9 (ld_blk (m.blk 0 rfl) (i := 1) rfl)) ((rfl : _ = SV p))) <| ?_
    refine hx (xh_call rfl Tryz.call52 (rfindC (by omega) (by omega)) [] rfl [0] rfl ?_)
    rintro _ _ _ ⟨rfl, rfl, rfl⟩
    refine hy (fun _ => y_assign rfl) <| hend <| hsub (ρ' := [(5, _), (8, _), (4, _), (3, _), (0, _), (1, _)]) ⟨rfl, rfl, rfl, rfl, rfl, rfl, trivial⟩ <| hmemQ (X' := [_]) (S' := [_]) (fun _ m => m) <| hthen <| hseq <| hseq <| hreg <| hy (fun _ => y_move rfl) <| hy (fun _ => y_lss rfl rfl) <| hend <| hsub (ρ' := [(21, _), (5, _), (8, _), (4, _), (3, _), (0, _), (1, _)]) ⟨rfl, rfl, rfl, rfl, rfl, rfl, rfl, trivial⟩ <| hthen <| ?_
    refine hif rfl (fun h1 => ?_) (fun h1 => ?_)
    · have hM : makeF l k p t bb = l := by rw [makeF, if_neg h0, findI_neg.1 h1]
      refine hseq <| hreg <| hy (fun _ => y_move rfl) <| hy (fun _ => y_assign rfl) <| hend <| hsub (ρ' := [(4, _), (21, _), (5, _), (8, _), (3, _), (0, _), (1, _)]) ⟨rfl, rfl, rfl, rfl, rfl, rfl, rfl, trivial⟩ <| hthen <| hret <| hthen_ret <| ?_
      rw [hM]
      exact hret1 trivial rfl rfl [] rfl [0] rfl ⟨_, _, _, rfl, rfl, rfl, ⟨hl.symm, by omega⟩⟩
    · obtain ⟨x0, hx0⟩ : ∃ x0, l[findN l p]? = some x0 := by
        cases hq : l[findN l p]? with
        | none => exact absurd (findI_neg.2 hq) h1
        | some x0 => exact ⟨x0, rfl⟩
      have hfl : findN l p < l.length := (List.getElem?_eq_some_iff.1 hx0).1
      obtain ⟨f0, f1⟩ := fc_get l _ x0 hx0
      have hfi : findI l p = (findN l p : Nat) := by rw [findI, if_pos hfl]
      have hwl : (withoutF l p).length ≤ l.length := List.length_filter_le ..
      refine hcskip <| hthen <| hseq <| hseq <| hreg <| hy (fun _ => y_fld rfl fa87_0 (by decide)) <| hy (fun m => y_ld1 rfl ag3 (ld_blk (m.blk 0 rfl) (i := 0) rfl)) <| hy (fun _ => y_eql rfl rfl) <| hend <| hsub (ρ' := [(25, _), (21, _), (5, _), (8, _), (4, _), (3, _), (0, _), (1, _)]) ⟨rfl, rfl, rfl, rfl, rfl, rfl, rfl, rfl, trivial⟩ <| hthen <| ?_
      refine hif rfl (fun h2 => ?_) (fun h2 => ?_)
      · have hM : makeF l k p t bb = withoutF l p := by rw [makeF, if_neg h0, hx0]; simp only [if_pos h2]
        refine hseq <| hreg <| hy (fun _ => y_move rfl) <| hy (fun _ => y_fld rfl fa87_1 (by decide)) <| hy (fun m => yV (y_ld1 rfl ag9 (ld_blk (m.blk 0 rfl) (i := 1) rfl)) ((rfl : _ = SV p))) <| ?_
        refine hx (xh_call rfl Tryz.call72 (rwithoutC (by omega) (by omega)) [] rfl [0] rfl ?_)
        rintro _ _ _ ⟨v, k2, rfl, rfl, rfl, hp⟩
        refine hfactL (fun m => (m.own 0 rfl).slice) ?_
        rintro ⟨A_x, c_x, rfl, hc_x⟩
        refine hfactL (fun m => (m.ord 0 rfl).2.1) fun hA_x => ?_
        refine hy (fun _ => y_assign rfl) <| hend <| hsub (ρ' := [(4, _), (25, _), (21, _), (5, _), (8, _), (3, _), (0, _), (1, _)]) ⟨rfl, rfl, rfl, rfl, rfl, rfl, rfl, rfl, trivial⟩ <| hmemQ (X' := [_, _]) (S' := [_]) (fun _ m => m) <| hthen <| hret <| hthen_ret <| ?_
        refine hmemQ (fun w m => m.eqX 0 rfl (show _ = ROwn 102 2 (.slice A_x k2 c_x) k2 (fc (makeF l k p t bb)) from by rw [hM]; rfl)) ?_
        refine hmemQ (fun w m => (m.perm (takeR_perm [0] _ [_] _ rfl)).freeze) ?_
        refine hmemQ (fun w m => m.asV 0 rfl .own) ?_
        refine hfactQ (fun m => rdX (m.rd 0 rfl)) ?_
        rintro ⟨hl_xr, hA_xr⟩
        exact hret1 trivial rfl rfl [] rfl [0] rfl ⟨_, _, _, rfl, rfl, rfl, ⟨hp.trans (congrArg List.length hM.symm), by rw [hp]; show (withoutF l p).length ≤ _; omega⟩⟩
      · have hM : makeF l k p t bb = withF (withoutF l p) (t, x0.2) := by rw [makeF, if_neg h0, hx0]; simp only [if_neg h2]
        refine hcskip <| hthen <| hseq <| hdrw [3, 12] [(0, some 0), (1, some 0), (2, some 0), (4, some 1), (5, some 1), (6, some 2), (7, some 2), (8, some 1), (9, some 1), (10, some 1), (11, some 1), (3, none), (12, none), (13, some 2)] (by kernel_rfl) (by kernel_rfl) rfl 99 <| htyU (y_move rfl) <| htyU (y_fld rfl fa87_1 (by decide)) <| hty (fun m => yV (y_ld1 rfl ag9 (ld_blk (m.blk 0 rfl) (i := 1) rfl)) ((rfl : _ = SV p))) <| htyU (y_fld rfl fa87_2 (by decide)) <| hty (fun m => yV (y_ld1 rfl ag9 (ld_blk (m.blk 0 rfl) (i := 2) rfl)) ((rfl : _ = SV t))) <| htyU (y_move rfl) <| htyU (y_move rfl) <| htyU (y_idxS rfl rfl Tryz.underlying31 sz102 hA_r hfi.symm (by omega)) <| htyU (y_fld rfl fa102_1 (by decide)) <| hty (fun m => yV (y_ld1 rfl ag9 (rd_fld (m.rd 0 rfl) f1)) ((rfl : _ = SV x0.2))) <| htyU (yV (y_build ti102 rfl rfl (by kernel_rfl) (.cons (o := 0) (sz := 1) (by kernel_rfl) rfl rfl (Nat.le_of_ble_eq_true rfl) (.cons (o := 1) (sz := 1) (by kernel_rfl) rfl rfl (Nat.le_of_ble_eq_true rfl) .nil))) ((rfl : _ = Value.agg [SV t, SV x0.2].toArray))) <| ?_
        refine htx (xh_call rfl Tryz.call72 (rwithoutC (by omega) (by omega)) [] rfl [0] rfl ?_)
        rintro _ _ _ ⟨v, k2, rfl, rfl, rfl, hp⟩
        refine ⟨(fun _ => wk [1] [0] rfl rfl), ?_⟩
        refine htfact (fun m => (m.own 0 rfl).slice) ?_
        rintro ⟨A_x, c_x, rfl, hc_x⟩
        refine htfact (fun m => (m.ord 0 rfl).2.1) fun hA_x => ?_
        have hk2 : k2 = (withoutF l p).length := hp
        clear hp
        refine htx (xh_calll rfl Tryz.call71 (rwithC (by omega) (by omega) (l := (withoutF l p)) (f := (t, x0.2))) [] rfl (.x 0 rfl .own .nil) ?_)
        rintro _ _ _ ⟨v2, k3, rfl, rfl, rfl, hp2⟩
        refine ⟨rfl, ?_⟩
        refine ⟨(fun _ => wk [2] [0] rfl rfl), ?_⟩
        refine htfact (fun m => (m.own 0 rfl).slice) ?_
        rintro ⟨A_x2, c_x2, rfl, hc_x2⟩
        refine htfact (fun m => (m.ord 0 rfl).2.1) fun hA_x2 => ?_
        refine htyU (y_assign rfl) <| htend <| hsub (ρ' := [(4, _), (25, _), (21, _), (5, _), (8, _), (3, _), (0, _), (1, _)]) ⟨rfl, rfl, rfl, rfl, rfl, rfl, rfl, rfl, trivial⟩ <| hmemQ (X' := [_, _, _]) (S' := [_]) (fun _ m => m) <| hthen <| hret <| ?_
        rw [hM]
        refine hmemQ (fun w m => (m.perm (takeR_perm [0] _ [_] _ rfl)).freeze) ?_
        refine hmemQ (fun w m => m.asV 0 rfl .own) ?_
        refine hfactQ (fun m => rdX (m.rd 0 rfl)) ?_
        rintro ⟨hl_x2r, hA_x2r⟩
        exact hret1 trivial rfl rfl [] rfl [0] rfl ⟨_, _, _, rfl, rfl, rfl, ⟨hp2.1, by omega⟩⟩
abbrev RC := Int × List UInt8 × List UInt8 × List UInt8
def wcs (l : List RC) : List Value := l.flatMap fun x => cv x.1 x.2.1 x.2.2.1 x.2.2.2
theorem wcs_append (a b : List RC) : wcs (a ++ b) = wcs a ++ wcs b := by simp [wcs]
theorem wcs_one {l : List RC} : ∀ u ∈ wcs l, u.oneCell' = true := by
  intro u hu
  obtain ⟨x, _, h⟩ := List.mem_flatMap.1 hu
  simp only [cv, List.mem_cons, List.not_mem_nil, or_false] at h
  rcases h with rfl | rfl | rfl | rfl <;> rfl
theorem dv_one {room pw : Int} {A A2 A3 : Option Addr} {n c n2 c2 n3 c3 : Nat} : ∀ u ∈ dv room (.slice A n c) (.slice A2 n2 c2) (.slice A3 n3 c3) pw, u.oneCell' = true := by
  intro u hu
  simp only [dv, List.mem_cons, List.not_mem_nil, or_false] at hu
  rcases hu with rfl | rfl | rfl | rfl | rfl <;> rfl
def lessP (pw : Int) : Int := if 0 < pw then pw - 1 else pw
theorem rdoC {room pw : Int} {A Al A3 : Option Addr} {n c nl cl n3 c3 : Nat} {l : List FP} {wl : List RC} {k : Int} {p t bb : List UInt8} (hl : l.length = n) (hn : n ≤ 900000) (hw : wl.length = n3) (hn3 : n3 ≤ 900000) (hp1 : -10 ≤ pw) (hp2 : pw ≤ 1000000000000) : Con Tryz.prog 53 [.agg (dv room (.slice A n c) (.slice Al nl cl) (.slice A3 n3 c3) pw).toArray, .agg (cv k p t bb).toArray] [] [RRd 2 A n (fc l), RRd 4 A3 n3 (wcs wl)] (fun v_ X_ S_ => ∃ A1 n1 c1 A2 n2 c2, v_ = (.agg (dv room (.slice A1 n1 c1) (.slice Al nl cl) (.slice A2 n2 c2) (lessP pw)).toArray) ∧ X_ = [] ∧ S_ = [RRd 2 A1 n1 (fc (makeF l k p t bb)), RRd 4 A2 n2 (wcs (wl ++ [(k, p, t, bb)]))] ∧ (n1 = (makeF l k p t bb).length ∧ n1 ≤ n + 1 ∧ n2 = n3 + 1)) := by
  refine henter (N := 28) Tryz.func53 rfl rfl (by simp) fun b => ?_
  refine hfactC (fun m => rdX (m.rd 0 rfl)) ?_
  rintro ⟨hl_r, hA_r⟩
  refine hfactC (fun m => rdX (m.rd 1 rfl)) ?_
  rintro ⟨hl_w, hA_w⟩
  refine hseq <| hreg <| ?_
  refine hx (xh_box rfl (fun g2 => ?_))
  refine hmemL (fun w m => m.eqX 0 rfl (show _ = RBlk g2 34 (dv room (.slice A n c) (.slice Al nl cl) (.slice A3 n3 c3) pw) from congrArg (RBlk _ _) (cells_agg _))) ?_
  refine hx (xh_box rfl (fun g3 => ?_))
  refine hmemL (fun w m => m.eqX 0 rfl (show _ = RBlk g3 87 (cv k p t bb) from congrArg (RBlk _ _) (cells_agg _))) ?_
  refine hx (xh_alloc ti34 (fun g4 => ?_))
  refine hend <| hmemQ (X' := [_, _, _]) (S' := [_, _]) (fun _ m => m) <| hthen <| hseq <| hreg <| hy (fun _ => y_fld rfl fa34_1 (by decide)) <| hy (fun m => y_ld1 rfl ag31 (ld_blk (m.blk 2 rfl) (i := 1) rfl)) <| hy (fun m => yV (y_ldN rfl ag87 sz87 rfl ((m.blk 1 rfl).cells0)) ((rfl : _ = Value.agg (cv k p t bb).toArray))) <| ?_
  refine hx (xh_call rfl Tryz.call41 (rmakeC (by omega) (by omega)) [] rfl [0] rfl ?_)
  rintro _ _ _ ⟨A1, n1, c1, rfl, rfl, rfl, hp⟩
  refine hfactL (fun m => rdX (m.rd 0 rfl)) ?_
  rintro ⟨hl_q, hA_q⟩
  refine hy (fun _ => y_fld rfl fa34_1 (by decide)) <| ?_
  refine hx0 (xh_st1a 2 rfl rfl rfl sz31 rfl (by first | exact Nat.le_of_ble_eq_true rfl | simp) ?_)
  refine hend <| hsub (ρ' := [(4, _), (3, _), (2, _), (0, _), (1, _)]) ⟨rfl, rfl, rfl, rfl, rfl, trivial⟩ <| hmemQ (X' := [_, _, _]) (S' := [_, _, _]) (fun _ m => m) <| hthen <| hseq <| hreg <| hy (fun _ => y_assign rfl) <| hend <| hthen <| hseq <| hreg <| hy (fun _ => y_move rfl) <| hy (fun _ => y_fld rfl fa34_3 (by decide)) <| hy (fun m => y_ld1 rfl ag32 (ld_blk (m.blk 0 rfl) rfl)) <| ?_
  refine hmemL (fun w m => m.addX (r' := ROwn 87 4 (.slice none 0 0) 0 []) (.refl _ _) (Own.nil _ _ _ _) (fun k hk => hk.elim)) ?_
  refine hx (xh_app 0 rfl rfl rfl Tryz.underlying32 Tryz.underlying32 (by exact .inl rfl) ti87 rfl (fun m => Src.of_rd (m.rd 2 rfl)) wcs_one (by unfold maxLen; omega) (by omega) (fun u => ?_))
  refine hfactL (fun m => (m.own 0 rfl).slice) ?_
  rintro ⟨A_o, c_o, rfl, hc_o⟩
  refine hfactL (fun m => (m.ord 0 rfl).2.1) fun hA_o => ?_
  rw [Nat.zero_add]
  refine hmemL (fun w m => m.eqX 0 rfl (show _ = ROwn 87 4 (.slice A_o n3 c_o) n3 (wcs wl) from rfl)) ?_
  refine hy (fun _ => y_assign rfl) <| hend <| hsub (ρ' := [(5, _), (4, _), (3, _), (2, _), (0, _), (1, _)]) ⟨rfl, rfl, rfl, rfl, rfl, rfl, trivial⟩ <| hmemQ (X' := [_, _, _, _]) (S' := [_, _, _]) (fun _ m => m) <| hthen <| hseq <| hreg <| hy (fun _ => y_move rfl) <| hy (fun m => yV (y_ldN rfl ag87 sz87 rfl ((m.blk 3 rfl).cells0)) ((rfl : _ = Value.agg (cv k p t bb).toArray))) <| ?_
  refine hx (xh_bsl Tryz.underlying32 ti87 rfl rfl rfl (by simp [Value.cells, cv]) (by decide) (by decide) (fun g17 => ?_))
  have hA_b17 : 0 < 1 → (some (⟨g17, 0, none⟩ : Addr)) ≠ none := fun _ h => by cases h
  refine hmemL (fun w m => m.eqX 0 rfl (show _ = ROwn 87 4 (.slice (some ⟨g17, 0, none⟩) 1 1) 1 (wcs [(k, p, t, bb)]) from rfl)) ?_
  refine hx (xh_app 1 rfl rfl rfl Tryz.underlying32 Tryz.underlying32 (by exact .inl rfl) ti87 rfl (fun m => Src.of_rd (m.ord 0 rfl)) wcs_one (by unfold maxLen; omega) (by omega) (fun u2 => ?_))
  refine hfactL (fun m => (m.own 0 rfl).slice) ?_
  rintro ⟨A_o2, c_o2, rfl, hc_o⟩
  refine hfactL (fun m => (m.ord 0 rfl).2.1) fun hA_o => ?_
  refine hmemL (fun w m => m.eqX 0 rfl (show _ = ROwn 87 4 (.slice A_o2 (n3 + 1) c_o2) (n3 + 1) (wcs (wl ++ [(k, p, t, bb)])) from congrArg (ROwn _ _ _ _) (wcs_append ..).symm)) ?_
  refine hy (fun _ => y_fld rfl fa34_3 (by decide)) <| ?_
  refine hx0 (xh_st1a 2 rfl rfl rfl sz32 rfl (by first | exact Nat.le_of_ble_eq_true rfl | simp) ?_)
  refine hmemL (fun w m => m.eqX 0 rfl (show _ = RBlk g2 34 (dv room (.slice A1 n1 c1) (.slice Al nl cl) (.slice A_o2 (n3 + 1) c_o2) pw) from rfl)) ?_
  refine hend <| hsub (ρ' := [(5, _), (4, _), (3, _), (2, _), (0, _), (1, _)]) ⟨rfl, rfl, rfl, rfl, rfl, rfl, trivial⟩ <| hmemQ (X' := [_, _, _, _, _]) (S' := [_, _, _]) (fun _ m => m) <| hthen <| hseq <| hseq <| hreg <| hy (fun _ => y_fld rfl fa34_4 (by decide)) <| hy (fun m => y_ld1 rfl ag3 (ld_blk (m.blk 0 rfl) (i := 4) rfl)) <| hy (fun _ => y_gtr rfl rfl) <| hend <| hsub (ρ' := [(22, _), (5, _), (4, _), (3, _), (2, _), (0, _), (1, _)]) ⟨rfl, rfl, rfl, rfl, rfl, rfl, rfl, trivial⟩ <| hthen <| ?_
  refine hmemC (fun w m => (m.perm (takeR_perm [1] _ [_] _ rfl)).freeze) ?_
  refine hmemC (fun w m => m.asV 0 rfl .own) ?_
  refine hif rfl (fun h => ?_) (fun h => ?_)
  · refine hreg <| hy (fun _ => y_fld rfl fa34_4 (by decide)) <| hy (fun m => y_ld1 rfl ag3 (ld_blk (m.blk 0 rfl) (i := 4) rfl)) <| hy (fun _ => y_sub rfl rfl (w64 (by omega) (by omega))) <| hy (fun _ => y_fld rfl fa34_4 (by decide)) <| ?_
    refine hx0 (xh_st1a 0 rfl rfl rfl sz3 rfl (by first | exact Nat.le_of_ble_eq_true rfl | simp) ?_)
    refine hmemL (fun w m => m.eqX 0 rfl (show _ = RBlk g2 34 (dv room (.slice A1 n1 c1) (.slice Al nl cl) (.slice A_o2 (n3 + 1) c_o2) (lessP pw)) from by rw [lessP, if_pos h]; rfl)) ?_
    refine hend <| hsub (ρ' := [(22, _), (5, _), (4, _), (3, _), (2, _), (0, _), (1, _)]) ⟨rfl, rfl, rfl, rfl, rfl, rfl, rfl, trivial⟩ <| hmemQ (X' := [_, _, _, _]) (S' := [_, _, _, _, _]) (fun _ m => m) <| hthen <| hseq <| hreg <| hy (fun m => y_ldN rfl ag34 sz34 rfl ((m.blk 0 rfl).cells0)) <| ?_
    refine hx0 (xh_stA 2 rfl rfl rfl sz34 rfl dv_one rfl ?_)
    refine hend <| hsub (ρ' := [(22, _), (5, _), (4, _), (3, _), (2, _), (0, _), (1, _)]) ⟨rfl, rfl, rfl, rfl, rfl, rfl, rfl, trivial⟩ <| hmemQ (X' := [_, _, _, _]) (S' := [_, _, _, _, _]) (fun _ m => m) <| hthen <| hret <| ?_
    exact hretN trivial rfl rfl ag34 sz34 rfl (fun m => (m.blk 0 rfl).cells0) [] rfl [2, 0] rfl ⟨_, _, _, _, _, _, rfl, rfl, rfl, ⟨hp.1, hp.2, rfl⟩⟩
  · refine hmemC (fun w m => m.eqX 0 rfl (show _ = RBlk g2 34 (dv room (.slice A1 n1 c1) (.slice Al nl cl) (.slice A_o2 (n3 + 1) c_o2) (lessP pw)) from by rw [lessP, if_neg h])) ?_
    refine hcskip <| hthen <| hseq <| hreg <| hy (fun m => y_ldN rfl ag34 sz34 rfl ((m.blk 0 rfl).cells0)) <| ?_
    refine hx0 (xh_stA 2 rfl rfl rfl sz34 rfl dv_one rfl ?_)
    refine hend <| hsub (ρ' := [(22, _), (5, _), (4, _), (3, _), (2, _), (0, _), (1, _)]) ⟨rfl, rfl, rfl, rfl, rfl, rfl, rfl, trivial⟩ <| hmemQ (X' := [_, _, _, _]) (S' := [_, _, _, _, _]) (fun _ m => m) <| hthen <| hret <| ?_
    exact hretN trivial rfl rfl ag34 sz34 rfl (fun m => (m.blk 0 rfl).cells0) [] rfl [2, 0] rfl ⟨_, _, _, _, _, _, rfl, rfl, rfl, ⟨hp.1, hp.2, rfl⟩⟩
end Go.Proofs.YtlbecpekemlllaaGreat
end
section
/- Contracts: the document's disk (layer 12): Write, Read. -/
set_option linter.unusedVariables false
set_option linter.unusedSimpArgs false
set_option maxRecDepth 20000
namespace Go.Proofs.YtlbecpekemlllaaGreat
open Go.Eng Go.Hx
/-- a disk of the document -/
structure RD where
  room : Int
  seen : List FP
  lasts : List FP
  waits : List RC
  pw : Int
def RD.sz (d : RD) (p : List UInt8) : Nat := ((d.seen[findN d.seen p]?).map (·.2.length)).getD 0
def RD.writeE (d : RD) (p bb : List UInt8) : Int := if ¬ Named p then 1 else if d.pw = 0 then 6 else if d.room < (totF d.seen : Int) + (bb.length : Nat) - (d.sz p : Nat) then 5 else 0
def RD.did (d : RD) (k : Int) (p t bb : List UInt8) : RD := { d with seen := makeF d.seen k p t bb, waits := d.waits ++ [(k, p, t, bb)], pw := lessP d.pw }
def RD.write (d : RD) (p bb : List UInt8) : RD := if d.writeE p bb = 0 then d.did 0 p [] bb else d
structure ROk (d : RD) (k : Nat) : Prop where
  seen : d.seen.length ≤ k
  waits : d.waits.length ≤ k
  tot : totF d.seen ≤ k * 1048576
  p1 : -10 ≤ d.pw
  p2 : d.pw ≤ 1000000000000
theorem sz_le (d : RD) (p : List UInt8) : d.sz p ≤ totF d.seen := by
  unfold RD.sz
  cases h : d.seen[findN d.seen p]? with
  | none => simp
  | some x =>
    have h1 := totF_take h
    have h2 := totF_le d.seen (findN d.seen p + 1)
    simp only [Option.map_some, Option.getD_some]
    omega
def rv (d : RD) (A : Option Addr) (n c : Nat) (Al : Option Addr) (nl cl : Nat) (A3 : Option Addr) (n3 c3 : Nat) : List Value := dv d.room (.slice A n c) (.slice Al nl cl) (.slice A3 n3 c3) d.pw
theorem rnewC {room : Int} : Con Tryz.prog 7 [.int .i64 room] [] [] (fun v_ X_ S_ => v_ = (.agg (dv room (.slice none 0 0) (.slice none 0 0) (.slice none 0 0) (-1)).toArray) ∧ X_ = [] ∧ S_ = []) := by
  refine henter (N := 5) Tryz.func7 rfl rfl (by simp) fun b => ?_
  refine hseq <| hreg <| ?_
  refine hx (xh_alloc ti34 (fun g2 => ?_))
  refine hend <| hmemQ (X' := [_]) (S' := []) (fun _ m => m) <| hthen <| hseq <| hreg <| hy (fun _ => y_move rfl) <| hy (fun _ => yV (y_build ti34 rfl rfl (by kernel_rfl) (.cons (o := 0) (sz := 1) (by kernel_rfl) rfl rfl (Nat.le_of_ble_eq_true rfl) (.cons (o := 4) (sz := 1) (by kernel_rfl) rfl rfl (Nat.le_of_ble_eq_true rfl) .nil))) ((rfl : _ = Value.agg (dv room (.slice none 0 0) (.slice none 0 0) (.slice none 0 0) (-1)).toArray))) <| ?_
  refine hx0 (xh_stA 0 rfl rfl rfl sz34 rfl dv_one rfl ?_)
  refine hend <| hsub (ρ' := [(2, _), (0, _)]) ⟨rfl, rfl, trivial⟩ <| hmemQ (X' := [_]) (S' := []) (fun _ m => m) <| hthen <| hret <| ?_
  exact hretN trivial rfl rfl ag34 sz34 rfl (fun m => (m.blk 0 rfl).cells0) [] rfl [] rfl ⟨rfl, rfl, rfl⟩
theorem rwriteC {d : RD} {kk : Nat} {A Al A3 : Option Addr} {n c nl cl n3 c3 : Nat} {p bb : List UInt8} (hl : d.seen.length = n) (hw : d.waits.length = n3) (ok : ROk d kk) (hkk : kk ≤ 100000) (hpl : p.length ≤ 1000000) (hbb : bb.length ≤ 1000000) : Con Tryz.prog 25 [.agg (rv d A n c Al nl cl A3 n3 c3).toArray, .string (strOf p), .string (strOf bb)] [] [RRd 2 A n (fc d.seen), RRd 4 A3 n3 (wcs d.waits)] (fun v_ X_ S_ => ∃ A1 n1 c1 A2 n2 c2, v_ = (.tuple #[.agg (rv (d.write p bb) A1 n1 c1 Al nl cl A2 n2 c2).toArray, .int .i64 (d.writeE p bb)]) ∧ X_ = [] ∧ S_ = [RRd 2 A1 n1 (fc (d.write p bb).seen), RRd 4 A2 n2 (wcs (d.write p bb).waits)] ∧ ((d.write p bb).seen.length = n1 ∧ (d.write p bb).waits.length = n2)) := by
  have hk1 := ok.seen
  have hk2 := ok.waits
  have hk3 := ok.tot
  have hk4 := ok.p1
  have hk5 := ok.p2
  have hsz := sz_le d p
  refine henter (N := 50) Tryz.func25 rfl rfl (by simp) fun b => ?_
  refine hfactC (fun m => rdX (m.rd 0 rfl)) ?_
  rintro ⟨hl_r, hA_r⟩
  refine hfactC (fun m => rdX (m.rd 1 rfl)) ?_
  rintro ⟨hl_w, hA_w⟩
  refine hseq <| hreg <| ?_
  refine hx (xh_box rfl (fun g3 => ?_))
  refine hmemL (fun w m => m.eqX 0 rfl (show _ = RBlk g3 34 (rv d A n c Al nl cl A3 n3 c3) from congrArg (RBlk _ _) (cells_agg _))) ?_
  refine hx (xh_alloc ti34 (fun g6 => ?_))
  refine hy (fun _ => y_assign rfl) <| hend <| hmemQ (X' := [_, _]) (S' := [_, _]) (fun _ m => m) <| hthen <| hseq <| hreg <| hy (fun _ => y_move rfl) <| ?_
  refine hx (xh_call rfl Tryz.call50 (rnamedC (by omega)) [] rfl [] rfl ?_)
  rintro _ _ _ ⟨rfl, rfl, rfl⟩
  refine hy (fun _ => y_assign rfl) <| hend <| hsub (ρ' := [(8, _), (7, _), (6, _), (3, _), (0, _), (1, _), (2, _)]) ⟨rfl, rfl, rfl, rfl, rfl, rfl, rfl, trivial⟩ <| hmemQ (X' := [_, _]) (S' := [_, _]) (fun _ m => m) <| hthen <| hseq <| hseq <| hreg <| hy (fun _ => y_move rfl) <| hy (fun _ => y_notp rfl) <| hend <| hsub (ρ' := [(14, _), (8, _), (7, _), (6, _), (3, _), (0, _), (1, _), (2, _)]) ⟨rfl, rfl, rfl, rfl, rfl, rfl, rfl, rfl, trivial⟩ <| hthen <| ?_
  refine hif rfl (fun hN => ?_) (fun hN => ?_)
  · have hE : d.writeE p bb = 1 := by rw [RD.writeE, if_pos hN]
    have hW : d.write p bb = d := by rw [RD.write, if_neg (by rw [hE]; decide)]
    rw [hE, hW]
    refine hseq <| hreg <| hy (fun m => yV (y_ldN rfl ag34 sz34 rfl ((m.blk 1 rfl).cells0)) ((rfl : _ = Value.agg (rv d A n c Al nl cl A3 n3 c3).toArray))) <| ?_
    refine hx0 (xh_stA 0 rfl rfl rfl sz34 rfl dv_one rfl ?_)
    refine hy (fun _ => y_assign rfl) <| hend <| hsub (ρ' := [(7, _), (14, _), (8, _), (6, _), (3, _), (0, _), (1, _), (2, _)]) ⟨rfl, rfl, rfl, rfl, rfl, rfl, rfl, rfl, trivial⟩ <| hmemQ (X' := [_, _]) (S' := [_, _]) (fun _ m => m) <| hthen <| hret <| hthen_ret <| ?_
    exact hretN1 trivial rfl rfl rfl ag34 sz34 rfl (fun m => (m.blk 0 rfl).cells0) [] rfl [0, 1] rfl ⟨_, _, _, _, _, _, rfl, rfl, rfl, ⟨hl, hw⟩⟩
  · refine hcskip <| hthen <| hseq <| hseq <| hreg <| hy (fun _ => y_fld rfl fa34_4 (by decide)) <| hy (fun m => y_ld1 rfl ag3 (ld_blk (m.blk 1 rfl) (i := 4) rfl)) <| hy (fun _ => y_eql rfl rfl) <| hend <| hsub (ρ' := [(18, _), (14, _), (8, _), (7, _), (6, _), (3, _), (0, _), (1, _), (2, _)]) ⟨rfl, rfl, rfl, rfl, rfl, rfl, rfl, rfl, rfl, trivial⟩ <| hthen <| ?_
    refine hif rfl (fun h0 => ?_) (fun h0 => ?_)
    · have hE : d.writeE p bb = 6 := by rw [RD.writeE, if_neg hN, if_pos h0]
      have hW : d.write p bb = d := by rw [RD.write, if_neg (by rw [hE]; decide)]
      rw [hE, hW]
      refine hseq <| hreg <| hy (fun m => yV (y_ldN rfl ag34 sz34 rfl ((m.blk 1 rfl).cells0)) ((rfl : _ = Value.agg (rv d A n c Al nl cl A3 n3 c3).toArray))) <| ?_
      refine hx0 (xh_stA 0 rfl rfl rfl sz34 rfl dv_one rfl ?_)
      refine hy (fun _ => y_assign rfl) <| hend <| hsub (ρ' := [(7, _), (18, _), (14, _), (8, _), (6, _), (3, _), (0, _), (1, _), (2, _)]) ⟨rfl, rfl, rfl, rfl, rfl, rfl, rfl, rfl, rfl, trivial⟩ <| hmemQ (X' := [_, _]) (S' := [_, _]) (fun _ m => m) <| hthen <| hret <| hthen_ret <| ?_
      exact hretN1 trivial rfl rfl rfl ag34 sz34 rfl (fun m => (m.blk 0 rfl).cells0) [] rfl [0, 1] rfl ⟨_, _, _, _, _, _, rfl, rfl, rfl, ⟨hl, hw⟩⟩
    · have hsb := strOf_size bb
      refine hcskip <| hthen <| hseq <| hreg <| hy (fun m => yV (y_ldN rfl ag34 sz34 rfl ((m.blk 1 rfl).cells0)) ((rfl : _ = Value.agg (rv d A n c Al nl cl A3 n3 c3).toArray))) <| ?_
      refine hx (xh_call rfl Tryz.call51 (rusedC (by omega) (by omega) (by omega)) [] rfl [0] rfl ?_)
      rintro _ _ _ ⟨rfl, rfl, rfl⟩
      refine hy (fun _ => y_move rfl) <| hy (fun _ => y_lenStr rfl Tryz.underlying9) <| hy (fun _ => y_add rfl rfl (w64 (by omega) (by omega))) <| hy (fun _ => y_assign rfl) <| hend <| hsub (ρ' := [(9, _), (18, _), (14, _), (8, _), (7, _), (6, _), (3, _), (0, _), (1, _), (2, _)]) ⟨rfl, rfl, rfl, rfl, rfl, rfl, rfl, rfl, rfl, rfl, trivial⟩ <| hmemQ (X' := [_, _]) (S' := [_, _]) (fun _ m => m) <| hthen <| hseq <| hreg <| hy (fun _ => y_fld rfl fa34_1 (by decide)) <| hy (fun m => y_ld1 rfl ag31 (ld_blk (m.blk 1 rfl) (i := 1) rfl)) <| hy (fun _ => y_move rfl) <| ?_
      refine hx (xh_call rfl Tryz.call52 (rfindC (by omega) (by omega)) [] rfl [0] rfl ?_)
      rintro _ _ _ ⟨rfl, rfl, rfl⟩
      refine hy (fun _ => y_assign rfl) <| hend <| hsub (ρ' := [(10, _), (9, _), (18, _), (14, _), (8, _), (7, _), (6, _), (3, _), (0, _), (1, _), (2, _)]) ⟨rfl, rfl, rfl, rfl, rfl, rfl, rfl, rfl, rfl, rfl, rfl, trivial⟩ <| hmemQ (X' := [_, _]) (S' := [_, _]) (fun _ m => m) <| hthen <| hseq <| hseq <| hreg <| hy (fun _ => y_move rfl) <| hy (fun _ => y_geq rfl rfl) <| hend <| hsub (ρ' := [(30, _), (10, _), (9, _), (18, _), (14, _), (8, _), (7, _), (6, _), (3, _), (0, _), (1, _), (2, _)]) ⟨rfl, rfl, rfl, rfl, rfl, rfl, rfl, rfl, rfl, rfl, rfl, rfl, trivial⟩ <| hthen <| ?_
      refine hif rfl (fun hf => ?_) (fun hf => ?_)
      · obtain ⟨x0, hfx⟩ : ∃ x0, d.seen[findN d.seen p]? = some x0 := by
          cases hq : d.seen[findN d.seen p]? with
          | none => exact absurd (findI_neg.2 hq) (by omega)
          | some x0 => exact ⟨x0, rfl⟩
        have hfl : findN d.seen p < d.seen.length := (List.getElem?_eq_some_iff.1 hfx).1
        obtain ⟨f0, f1⟩ := fc_get d.seen _ x0 hfx
        have hfi : findI d.seen p = (findN d.seen p : Nat) := by rw [findI, if_pos hfl]
        have hsx := strOf_size x0.2
        have hs0 : d.sz p = x0.2.length := by unfold RD.sz; rw [hfx]; rfl
        refine hreg <| hy (fun _ => y_move rfl) <| hy (fun _ => y_fld rfl fa34_1 (by decide)) <| hy (fun m => y_ld1 rfl ag31 (ld_blk (m.blk 1 rfl) (i := 1) rfl)) <| hy (fun _ => y_move rfl) <| hy (fun _ => y_idxS rfl rfl Tryz.underlying31 sz102 hA_r hfi.symm (by omega)) <| hy (fun _ => y_fld rfl fa102_1 (by decide)) <| hy (fun m => yV (y_ld1 rfl ag9 (rd_fld (m.rd 0 rfl) f1)) ((rfl : _ = Value.string (strOf x0.2)))) <| hy (fun _ => y_lenStr rfl Tryz.underlying9) <| hy (fun _ => y_sub rfl rfl (w64 (by omega) (by omega))) <| hy (fun _ => y_assign rfl) <| hend <| hsub (ρ' := [(9, _), (30, _), (10, _), (18, _), (14, _), (8, _), (7, _), (6, _), (3, _), (0, _), (1, _), (2, _)]) ⟨rfl, rfl, rfl, rfl, rfl, rfl, rfl, rfl, rfl, rfl, rfl, rfl, trivial⟩ <| hthen <| hseq <| hseq <| hreg <| hy (fun _ => y_move rfl) <| hy (fun _ => y_fld rfl fa34_0 (by decide)) <| hy (fun m => y_ld1 rfl ag3 (ld_blk (m.blk 1 rfl) (i := 0) rfl)) <| hy (fun _ => y_gtr rfl rfl) <| hend <| hsub (ρ' := [(43, _), (9, _), (30, _), (10, _), (18, _), (14, _), (8, _), (7, _), (6, _), (3, _), (0, _), (1, _), (2, _)]) ⟨rfl, rfl, rfl, rfl, rfl, rfl, rfl, rfl, rfl, rfl, rfl, rfl, rfl, trivial⟩ <| hthen <| ?_
        refine hif rfl (fun hR => ?_) (fun hR => ?_)
        · have hE : d.writeE p bb = 5 := by rw [RD.writeE, if_neg hN, if_neg h0, if_pos (by omega)]
          have hW : d.write p bb = d := by rw [RD.write, if_neg (by rw [hE]; decide)]
          rw [hE, hW]
          refine hseq <| hreg <| hy (fun m => yV (y_ldN rfl ag34 sz34 rfl ((m.blk 1 rfl).cells0)) ((rfl : _ = Value.agg (rv d A n c Al nl cl A3 n3 c3).toArray))) <| ?_
          refine hx0 (xh_stA 0 rfl rfl rfl sz34 rfl dv_one rfl ?_)
          refine hy (fun _ => y_assign rfl) <| hend <| hsub (ρ' := [(7, _), (43, _), (9, _), (30, _), (10, _), (18, _), (14, _), (8, _), (6, _), (3, _), (0, _), (1, _), (2, _)]) ⟨rfl, rfl, rfl, rfl, rfl, rfl, rfl, rfl, rfl, rfl, rfl, rfl, rfl, trivial⟩ <| hmemQ (X' := [_, _]) (S' := [_, _]) (fun _ m => m) <| hthen <| hret <| hthen_ret <| ?_
          exact hretN1 trivial rfl rfl rfl ag34 sz34 rfl (fun m => (m.blk 0 rfl).cells0) [] rfl [0, 1] rfl ⟨_, _, _, _, _, _, rfl, rfl, rfl, ⟨hl, hw⟩⟩
        · have hE : d.writeE p bb = 0 := by rw [RD.writeE, if_neg hN, if_neg h0, if_neg (by omega)]
          have hW : d.write p bb = d.did 0 p [] bb := by rw [RD.write, if_pos hE]
          rw [hE, hW]
          refine hcskip <| hthen <| hseq <| hreg <| hy (fun m => yV (y_ldN rfl ag34 sz34 rfl ((m.blk 1 rfl).cells0)) ((rfl : _ = Value.agg (dv d.room (.slice A n c) (.slice Al nl cl) (.slice A3 n3 c3) d.pw).toArray))) <| hy (fun _ => y_move rfl) <| hy (fun _ => y_move rfl) <| hy (fun _ => yV (y_build ti87 rfl rfl (by kernel_rfl) (.cons (o := 1) (sz := 1) (by kernel_rfl) rfl rfl (Nat.le_of_ble_eq_true rfl) (.cons (o := 3) (sz := 1) (by kernel_rfl) rfl rfl (Nat.le_of_ble_eq_true rfl) .nil))) ((rfl : _ = Value.agg (cv 0 p [] bb).toArray))) <| ?_
          refine hx (xh_call rfl Tryz.call53 (rdoC (by omega) (by omega) (by omega) (by omega) (by omega) (by omega)) [] rfl [0, 1] rfl ?_)
          rintro _ _ _ ⟨A1, n1, c1, A2, n2, c2, rfl, rfl, rfl, hp⟩
          refine hfactL (fun m => rdX (m.rd 0 rfl)) ?_
          rintro ⟨hl_q, hA_q⟩
          refine hfactL (fun m => rdX (m.rd 1 rfl)) ?_
          rintro ⟨hl_u, hA_u⟩
          refine hx0 (xh_stA 0 rfl rfl rfl sz34 rfl dv_one rfl ?_)
          refine hy (fun _ => y_assign rfl) <| hend <| hsub (ρ' := [(7, _), (43, _), (9, _), (30, _), (10, _), (18, _), (14, _), (8, _), (6, _), (3, _), (0, _), (1, _), (2, _)]) ⟨rfl, rfl, rfl, rfl, rfl, rfl, rfl, rfl, rfl, rfl, rfl, rfl, rfl, trivial⟩ <| hmemQ (X' := [_, _]) (S' := [_, _, _, _]) (fun _ m => m) <| hthen <| hret <| ?_
          exact hretN1 trivial rfl rfl rfl ag34 sz34 rfl (fun m => (m.blk 0 rfl).cells0) [] rfl [0, 1] rfl ⟨_, _, _, _, _, _, rfl, rfl, rfl, ⟨hp.1.symm, by rw [hp.2.2, ← hw]; exact List.length_append⟩⟩
      · have hs0 : d.sz p = 0 := by
          unfold RD.sz
          rw [findI_neg.1 (by omega)]; rfl
        refine hcskip <| hthen <| hseq <| hseq <| hreg <| hy (fun _ => y_move rfl) <| hy (fun _ => y_fld rfl fa34_0 (by decide)) <| hy (fun m => y_ld1 rfl ag3 (ld_blk (m.blk 1 rfl) (i := 0) rfl)) <| hy (fun _ => y_gtr rfl rfl) <| hend <| hsub (ρ' := [(43, _), (30, _), (10, _), (9, _), (18, _), (14, _), (8, _), (7, _), (6, _), (3, _), (0, _), (1, _), (2, _)]) ⟨rfl, rfl, rfl, rfl, rfl, rfl, rfl, rfl, rfl, rfl, rfl, rfl, rfl, trivial⟩ <| hthen <| ?_
        refine hif rfl (fun hR => ?_) (fun hR => ?_)
        · have hE : d.writeE p bb = 5 := by rw [RD.writeE, if_neg hN, if_neg h0, if_pos (by omega)]
          have hW : d.write p bb = d := by rw [RD.write, if_neg (by rw [hE]; decide)]
          rw [hE, hW]
          refine hseq <| hreg <| hy (fun m => yV (y_ldN rfl ag34 sz34 rfl ((m.blk 1 rfl).cells0)) ((rfl : _ = Value.agg (rv d A n c Al nl cl A3 n3 c3).toArray))) <| ?_
          refine hx0 (xh_stA 0 rfl rfl rfl sz34 rfl dv_one rfl ?_)
          refine hy (fun _ => y_assign rfl) <| hend <| hsub (ρ' := [(7, _), (43, _), (30, _), (10, _), (9, _), (18, _), (14, _), (8, _), (6, _), (3, _), (0, _), (1, _), (2, _)]) ⟨rfl, rfl, rfl, rfl, rfl, rfl, rfl, rfl, rfl, rfl, rfl, rfl, rfl, trivial⟩ <| hmemQ (X' := [_, _]) (S' := [_, _]) (fun _ m => m) <| hthen <| hret <| hthen_ret <| ?_
          exact hretN1 trivial rfl rfl rfl ag34 sz34 rfl (fun m => (m.blk 0 rfl).cells0) [] rfl [0, 1] rfl ⟨_, _, _, _, _, _, rfl, rfl, rfl, ⟨hl, hw⟩⟩
        · have hE : d.writeE p bb = 0 := by rw [RD.writeE, if_neg hN, if_neg h0, if_neg (by omega)]
          have hW : d.write p bb = d.did 0 p [] bb := by rw [RD.write, if_pos hE]
          rw [hE, hW]
          refine hcskip <| hthen <| hseq <| hreg <| hy (fun m => yV (y_ldN rfl ag34 sz34 rfl ((m.blk 1 rfl).cells0)) ((rfl : _ = Value.agg (dv d.room (.slice A n c) (.slice Al nl cl) (.slice A3 n3 c3) d.pw).toArray))) <| hy (fun _ => y_move rfl) <| hy (fun _ => y_move rfl) <| hy (fun _ => yV (y_build ti87 rfl rfl (by kernel_rfl) (.cons (o := 1) (sz := 1) (by kernel_rfl) rfl rfl (Nat.le_of_ble_eq_true rfl) (.cons (o := 3) (sz := 1) (by kernel_rfl) rfl rfl (Nat.le_of_ble_eq_true rfl) .nil))) ((rfl : _ = Value.agg (cv 0 p [] bb).toArray))) <| ?_
          refine hx (xh_call rfl Tryz.call53 (rdoC (by omega) (by omega) (by omega) (by omega) (by omega) (by omega)) [] rfl [0, 1] rfl ?_)
          rintro _ _ _ ⟨A1, n1, c1, A2, n2, c2, rfl, rfl, rfl, hp⟩
          refine hfactL (fun m => rdX (m.rd 0 rfl)) ?_
          rintro ⟨hl_q, hA_q⟩
          refine hfactL (fun m => rdX (m.rd 1 rfl)) ?_
          rintro ⟨hl_u, hA_u⟩
          refine hx0 (xh_stA 0 rfl rfl rfl sz34 rfl dv_one rfl ?_)
          refine hy (fun _ => y_assign rfl) <| hend <| hsub (ρ' := [(7, _), (43, _), (30, _), (10, _), (9, _), (18, _), (14, _), (8, _), (6, _), (3, _), (0, _), (1, _), (2, _)]) ⟨rfl, rfl, rfl, rfl, rfl, rfl, rfl, rfl, rfl, rfl, rfl, rfl, rfl, trivial⟩ <| hmemQ (X' := [_, _]) (S' := [_, _, _, _]) (fun _ m => m) <| hthen <| hret <| ?_
          exact hretN1 trivial rfl rfl rfl ag34 sz34 rfl (fun m => (m.blk 0 rfl).cells0) [] rfl [0, 1] rfl ⟨_, _, _, _, _, _, rfl, rfl, rfl, ⟨hp.1.symm, by rw [hp.2.2, ← hw]; exact List.length_append⟩⟩
def RD.readE (d : RD) (p : List UInt8) : Int := if d.pw = 0 then 6 else if d.seen[findN d.seen p]? = none then 4 else 0
def RD.readB (d : RD) (p : List UInt8) : List UInt8 := if d.pw = 0 then [] else ((d.seen[findN d.seen p]?).map (·.2)).getD []
theorem rreadC {d : RD} {kk : Nat} {A Al A3 : Option Addr} {n c nl cl n3 c3 : Nat} {p : List UInt8} (hl : d.seen.length = n) (ok : ROk d kk) (hkk : kk ≤ 100000) : Con Tryz.prog 44 [.agg (rv d A n c Al nl cl A3 n3 c3).toArray, .string (strOf p)] [] [RRd 2 A n (fc d.seen)] (fun v_ X_ S_ => v_ = (.tuple #[.string (strOf (d.readB p)), .int .i64 (d.readE p)]) ∧ X_ = [] ∧ S_ = []) := by
  have hk1 := ok.seen
  refine henter (N := 22) Tryz.func44 rfl rfl (by simp) fun b => ?_
  refine hfactC (fun m => rdX (m.rd 0 rfl)) ?_
  rintro ⟨hl_r, hA_r⟩
  refine hseq <| hreg <| ?_
  refine hx (xh_box rfl (fun g2 => ?_))
  refine hmemL (fun w m => m.eqX 0 rfl (show _ = RBlk g2 34 (rv d A n c Al nl cl A3 n3 c3) from congrArg (RBlk _ _) (cells_agg _))) ?_
  refine hy (fun _ => y_assign rfl) <| hy (fun _ => y_assign rfl) <| hend <| hmemQ (X' := [_]) (S' := [_]) (fun _ m => m) <| hthen <| hseq <| hreg <| hy (fun _ => y_fld rfl fa34_1 (by decide)) <| hy (fun m => y_ld1 rfl ag31 (ld_blk (m.blk 0 rfl) (i := 1) rfl)) <| hy (fun _ => y_move rfl) <| ?_
  refine hx (xh_call rfl Tryz.call52 (rfindC (by omega) (by omega)) [] rfl [0] rfl ?_)
  rintro _ _ _ ⟨rfl, rfl, rfl⟩
  refine hy (fun _ => y_assign rfl) <| hend <| hsub (ρ' := [(6, _), (5, _), (4, _), (2, _), (0, _), (1, _)]) ⟨rfl, rfl, rfl, rfl, rfl, rfl, trivial⟩ <| hmemQ (X' := [_]) (S' := [_]) (fun _ m => m) <| hthen <| hseq <| hseq <| hreg <| hy (fun _ => y_fld rfl fa34_4 (by decide)) <| hy (fun m => y_ld1 rfl ag3 (ld_blk (m.blk 0 rfl) (i := 4) rfl)) <| hy (fun _ => y_eql rfl rfl) <| hend <| hsub (ρ' := [(13, _), (6, _), (5, _), (4, _), (2, _), (0, _), (1, _)]) ⟨rfl, rfl, rfl, rfl, rfl, rfl, rfl, trivial⟩ <| hthen <| ?_
  refine hif rfl (fun h0 => ?_) (fun h0 => ?_)
  · have hE : d.readE p = 6 := by rw [RD.readE, if_pos h0]
    have hB : d.readB p = [] := by rw [RD.readB, if_pos h0]
    rw [hE, hB]
    refine hseq <| hreg <| hy (fun _ => y_assign rfl) <| hy (fun _ => y_assign rfl) <| hend <| hthen <| hret <| hthen_ret <| ?_
    exact hret2 trivial rfl rfl rfl [] rfl [] rfl ⟨rfl, rfl, rfl⟩
  · refine hcskip <| hthen <| hseq <| hseq <| hreg <| hy (fun _ => y_move rfl) <| hy (fun _ => y_lss rfl rfl) <| hend <| hsub (ρ' := [(15, _), (13, _), (6, _), (5, _), (4, _), (2, _), (0, _), (1, _)]) ⟨rfl, rfl, rfl, rfl, rfl, rfl, rfl, rfl, trivial⟩ <| hthen <| ?_
    refine hif rfl (fun h1 => ?_) (fun h1 => ?_)
    · have hq := findI_neg.1 h1
      have hE : d.readE p = 4 := by rw [RD.readE, if_neg h0, if_pos hq]
      have hB : d.readB p = [] := by rw [RD.readB, if_neg h0, hq]; rfl
      rw [hE, hB]
      refine hseq <| hreg <| hy (fun _ => y_assign rfl) <| hy (fun _ => y_assign rfl) <| hend <| hthen <| hret <| hthen_ret <| ?_
      exact hret2 trivial rfl rfl rfl [] rfl [] rfl ⟨rfl, rfl, rfl⟩
    · obtain ⟨x0, hfx⟩ : ∃ x0, d.seen[findN d.seen p]? = some x0 := by
        cases hq : d.seen[findN d.seen p]? with
        | none => exact absurd (findI_neg.2 hq) h1
        | some x0 => exact ⟨x0, rfl⟩
      have hfl : findN d.seen p < d.seen.length := (List.getElem?_eq_some_iff.1 hfx).1
      obtain ⟨f0, f1⟩ := fc_get d.seen _ x0 hfx
      have hfi : findI d.seen p = (findN d.seen p : Nat) := by rw [findI, if_pos hfl]
      have hE : d.readE p = 0 := by rw [RD.readE, if_neg h0, if_neg (by rw [hfx]; exact fun e => by cases e)]
      have hB : d.readB p = x0.2 := by rw [RD.readB, if_neg h0, hfx]; rfl
      rw [hE, hB]
      refine hcskip <| hthen <| hseq <| hreg <| hy (fun _ => y_fld rfl fa34_1 (by decide)) <| hy (fun m => y_ld1 rfl ag31 (ld_blk (m.blk 0 rfl) (i := 1) rfl)) <| hy (fun _ => y_move rfl) <| hy (fun _ => y_idxS rfl rfl Tryz.underlying31 sz102 hA_r hfi.symm (by omega)) <| hy (fun _ => y_fld rfl fa102_1 (by decide)) <| hy (fun m => yV (y_ld1 rfl ag9 (rd_fld (m.rd 0 rfl) f1)) ((rfl : _ = Value.string (strOf x0.2)))) <| hy (fun _ => y_assign rfl) <| hy (fun _ => y_assign rfl) <| hend <| hsub (ρ' := [(5, _), (4, _), (15, _), (13, _), (6, _), (2, _), (0, _), (1, _)]) ⟨rfl, rfl, rfl, rfl, rfl, rfl, rfl, rfl, trivial⟩ <| hthen <| hret <| ?_
      exact hret2 trivial rfl rfl rfl [] rfl [] rfl ⟨rfl, rfl, rfl⟩
end Go.Proofs.YtlbecpekemlllaaGreat
end
section
/- The law DiskPower, computed. -/
set_option linter.unusedVariables false
set_option linter.unusedSimpArgs false
set_option maxRecDepth 20000
namespace Go.Proofs.YtlbecpekemlllaaGreat
open Go.Eng Go.Hx
def DSt.powered (st : DSt) (n : Int) : DSt := { st with power := max n (-1) }
theorem powerC {g : Nat} {st : DSt} {n : Int} : Con Tryz.prog 11 [.pointer (some ⟨g, 0, none⟩), .int .i64 n] [RDisk g st] [] (fun v_ X_ S_ => v_ = (.tuple #[]) ∧ X_ = [RDisk g (st.powered n)] ∧ S_ = []) := by
  refine henter (N := 9) Tryz.func11 rfl rfl (by simp) fun b => ?_
  refine hmemC (fun w m => (m.perm (takeR_perm [0] _ [_] _ rfl)).unpack) ?_
  refine hreg <| hy (fun _ => y_move rfl) <| hy (fun _ => y_move rfl) <| hy (fun _ => y_max rfl rfl) <| hy (fun _ => y_nilp rfl) <| hy (fun _ => y_fld rfl fa77_4 (by decide)) <| ?_
  refine hx0 (xh_st1a 0 rfl rfl rfl sz3 rfl (by first | exact Nat.le_of_ble_eq_true rfl | simp) ?_)
  refine hend <| hsub (ρ' := [(0, _), (1, _)]) ⟨rfl, rfl, trivial⟩ <| hmemQ (X' := [_, _, _, _, _]) (S' := []) (fun _ m => m) <| ?_
  refine hmemQ (fun w m => m.eqX 0 rfl (show _ = RBlk g 77 (dcells (st.powered n)) from by simp [dcells, DSt.powered])) ?_
  refine hmemQ (X' := RDisk g (st.powered n) :: _) (fun w m => (m.perm (takeR_perm [0, 0, 0, 0, 0] _ [_, _, _, _, _] _ rfl)).pack) ?_
  exact hret0 trivial rfl [0] rfl [] rfl ⟨rfl, rfl, rfl⟩
theorem waitsC {g : Nat} {st : DSt} : Con Tryz.prog 13 [.pointer (some ⟨g, 0, none⟩)] [RDisk g st] [] (fun v_ X_ S_ => v_ = (.int .i64 (st.waits.length : Nat)) ∧ X_ = [RDisk g st] ∧ S_ = []) := by
  refine henter (N := 8) Tryz.func13 rfl rfl (by simp) fun b => ?_
  refine hmemC (fun w m => (m.perm (takeR_perm [0] _ [_] _ rfl)).unpack) ?_
  refine hseq <| hreg <| hy (fun _ => y_assign rfl) <| hend <| hthen <| hseq <| hreg <| hy (fun _ => y_move rfl) <| hy (fun _ => y_nilp rfl) <| hy (fun _ => y_fld rfl fa77_3 (by decide)) <| hy (fun m => y_ld1 rfl ag75 (ld_blk (m.blk 0 rfl) rfl)) <| hy (fun _ => y_lenS rfl Tryz.underlying75) <| hy (fun _ => y_assign rfl) <| hend <| hsub (ρ' := [(2, _), (0, _)]) ⟨rfl, rfl, trivial⟩ <| hthen <| hret <| ?_
  refine hmemQ (X' := RDisk g st :: _) (fun w m => (m.perm (takeR_perm [0, 0, 0, 0, 0] _ [_, _, _, _, _] _ rfl)).pack) ?_
  exact hret1 trivial rfl rfl [0] rfl [] rfl ⟨rfl, rfl, rfl⟩
theorem tot_aput' : ∀ (l : Files) (p : List UInt8) (r : BRow), tot (aput l p r) + ((aget l p).map (·.n)).getD 0 = tot l + r.n
  | [], p, r => by simp [aput, aget, tot]
  | (k, u) :: q, p, r => by
    have := tot_aput' q p r
    simp only [aput, aget]
    split
    · simp [tot]; omega
    · simp only [tot, List.map_cons, List.sum_cons] at this ⊢
      omega
def nn : List UInt8 := [110, 111, 110, 101]
def szA (st : DSt) : Nat := ((aget st.seen [97]).map (·.n)).getD 0
/-- what the loop keeps -/
structure PInv (st : DSt) (i k : Nat) : Prop where
  room : st.room = 100
  power : st.power = ((k - i : Nat) : Int)
  waits : st.waits.length = min i k
  wr : Wr st
  lasts : st.lasts = []
  nno : aget st.seen nn = none
  ttt : tot st.seen = szA st ∧ szA st ≤ 1
theorem PInv.init {k gs gl : Nat} : PInv ((dinit 100 gs gl).powered k) 0 k := ⟨rfl, by simp [DSt.powered]; omega, by simp [DSt.powered, dinit], fun c hc => (by cases hc), rfl, rfl, rfl, Nat.zero_le _⟩
theorem PInv.more {st : DSt} {i k : Nat} (h : PInv st i k) (hi : i < k) {r : BRow} (hr : r.n = 1) {A : Option Addr} {c : Nat} : PInv (st.wrote [97] r A c) (i + 1) k := by
  have h4 := tot_aput' st.seen [97] r
  have ht := h.ttt
  have hs : szA (st.wrote [97] r A c) = 1 := by
    show ((aget (aput st.seen [97] r) [97]).map (·.n)).getD 0 = 1
    rw [aget_aput, if_pos rfl]; exact hr
  refine ⟨h.room, ?_, ?_, ?_, h.lasts, ?_, ?_, by omega⟩
  · have := h.power
    show (if 0 < st.power then st.power - 1 else st.power) = _
    rw [if_pos (by omega)]; omega
  · have := h.waits
    show (st.waits ++ [Chg.written [97] r]).length = _
    rw [List.length_append]; simp; omega
  · intro c hc
    rcases List.mem_append.1 (show c ∈ st.waits ++ [Chg.written [97] r] from hc) with h' | h'
    · exact h.wr c h'
    · exact ⟨_, _, List.mem_singleton.1 h'⟩
  · show aget (aput st.seen [97] r) nn = _
    rw [aget_aput, if_neg (by decide)]; exact h.nno
  · rw [hs]
    show tot (aput st.seen [97] r) = 1
    have : ((aget st.seen [97]).map (·.n)).getD 0 = szA st := rfl
    omega
theorem PInv.write {st : DSt} {i k : Nat} (h : PInv st i k) : writeE st [97] 1 = if i < k then 0 else 6 := by
  have h1 := h.ttt
  have h2 := h.power
  have h3 := h.room
  have h4 : ((aget st.seen [97]).map (·.n)).getD 0 = szA st := rfl
  rw [writeE, if_neg (not_not_intro (named1 (by decide))), h4]
  by_cases hi : i < k
  · rw [if_neg (by omega), if_neg (by omega), if_pos hi]
  · rw [if_pos (by omega), if_neg hi]
theorem PInv.found {st : DSt} {i k : Nat} (h : PInv st i k) : foundE st nn = if i < k then 4 else 6 := by
  have h2 := h.power
  rw [foundE]
  by_cases hi : i < k
  · rw [if_neg (by omega), if_pos h.nno, if_pos hi]
  · rw [if_pos (by omega), if_neg hi]
theorem insNoC  : Con Tryz.prog 85 [.slice none 0 0, .int .i64 0, .int .i64 0] [] [] (fun v_ X_ S_ => v_ = (.tuple #[]) ∧ X_ = [] ∧ S_ = []) := by
  refine henter (N := 49) Tryz.func85 rfl rfl (by simp) fun b => ?_
  refine hseq <| hreg <| hy (fun _ => y_move rfl) <| hy (fun _ => y_add rfl rfl (w64 (by omega) (by omega))) <| hy (fun _ => y_assign rfl) <| hend <| hsub (ρ' := [(6, _), (0, _), (1, _), (2, _)]) ⟨rfl, rfl, rfl, rfl, trivial⟩ <| hthen <| hblock <| ?_
  refine hloop1 (fun u => 0) (fun u => [(6, .int .i64 1)]) (fun u => []) (fun u => []) (fun u => u = 0) 0 [(0, _), (1, _), (2, _)] ⟨rfl, rfl, rfl, trivial⟩ [] rfl [] rfl (rfl) ⟨rfl, trivial⟩ (fun u hI => ?_)
  refine hseq <| hseq <| hreg <| hy (fun _ => y_move rfl) <| hy (fun _ => y_move rfl) <| hy (fun _ => y_lss rfl rfl) <| hend <| hsub (ρ' := [(12, _), (6, _), (0, _), (1, _), (2, _)]) ⟨rfl, rfl, rfl, rfl, rfl, trivial⟩ <| hthen <| ?_
  refine hiff rfl (rfl) ?_
  refine hexit <| hthen_exit <| hthen_exit <| hqblock_exit <| ?_
  exact hret0 trivial rfl [] rfl [] rfl ⟨rfl, rfl, rfl⟩
theorem len64NoC  : Con Tryz.prog 95 [.int .u64 0] [] [] (fun v_ X_ S_ => v_ = (.int .i64 0) ∧ X_ = [] ∧ S_ = []) := by
  refine henter (N := 25) Tryz.func95 rfl rfl (by simp) fun b => ?_
  refine hseq <| hreg <| hy (fun _ => y_assign rfl) <| hend <| hthen <| hseq <| hseq <| hreg <| hy (fun _ => y_move rfl) <| hy (fun _ => y_geq rfl rfl) <| hend <| hsub (ρ' := [(4, _), (2, _), (0, _)]) ⟨rfl, rfl, rfl, trivial⟩ <| hthen <| ?_
  refine hiff rfl (rfl) ?_
  refine hcskip <| hthen <| hseq <| hseq <| hreg <| hy (fun _ => y_move rfl) <| hy (fun _ => y_geq rfl rfl) <| hend <| hsub (ρ' := [(8, _), (4, _), (2, _), (0, _)]) ⟨rfl, rfl, rfl, rfl, trivial⟩ <| hthen <| ?_
  refine hiff rfl (rfl) ?_
  refine hcskip <| hthen <| hseq <| hseq <| hreg <| hy (fun _ => y_move rfl) <| hy (fun _ => y_geq rfl rfl) <| hend <| hsub (ρ' := [(14, _), (8, _), (4, _), (2, _), (0, _)]) ⟨rfl, rfl, rfl, rfl, rfl, trivial⟩ <| hthen <| ?_
  refine hiff rfl (rfl) ?_
  refine hcskip <| hthen <| hseq <| hreg <| hy (fun _ => y_move rfl) <| hy (fun _ => y_move rfl) <| hy (fun _ => y_conv rfl Tryz.underlying146 Tryz.underlying5 (show IntKind.u8.wrap 0 = 0 from rfl)) <| hy (fun _ => y_idxStr rfl rfl Tryz.underlying9 (show ((0 : Nat) : Int) = 0 from rfl) (show _ = some (0 : UInt8) from rfl)) <| hy (fun _ => y_conv rfl Tryz.underlying5 Tryz.underlying3 (show IntKind.i64.wrap ((0 : UInt8).toNat : Int) = 0 from rfl)) <| hy (fun _ => y_add rfl rfl (w64 (by omega) (by omega))) <| hy (fun _ => y_assign rfl) <| hend <| hsub (ρ' := [(2, _), (14, _), (8, _), (4, _), (0, _)]) ⟨rfl, rfl, rfl, rfl, rfl, trivial⟩ <| hthen <| hret <| ?_
  exact hret1 trivial rfl rfl [] rfl [] rfl ⟨rfl, rfl, rfl⟩
theorem lenNoC  : Con Tryz.prog 69 [.int .u64 0] [] [] (fun v_ X_ S_ => v_ = (.int .i64 0) ∧ X_ = [] ∧ S_ = []) := by
  refine henter (N := 8) Tryz.func69 rfl rfl (by simp) fun b => ?_
  refine hseq <| hreg <| hy (fun _ => y_assign rfl) <| hend <| hthen <| hseq <| ?_
  refine hiff rfl (rfl) ?_
  refine hcskip <| hthen <| hseq <| hreg <| hy (fun _ => y_move rfl) <| ?_
  refine hx (xh_call rfl Tryz.call95 (len64NoC) [] rfl [] rfl ?_)
  rintro _ _ _ ⟨rfl, rfl, rfl⟩
  refine hy (fun _ => y_assign rfl) <| hend <| hsub (ρ' := [(2, _), (0, _)]) ⟨rfl, rfl, trivial⟩ <| hmemQ (X' := []) (S' := []) (fun _ m => m) <| hthen <| hret <| ?_
  exact hret1 trivial rfl rfl [] rfl [] rfl ⟨rfl, rfl, rfl⟩
theorem pdqNoC  : Con Tryz.prog 68 [.slice none 0 0, .int .i64 0, .int .i64 0, .int .i64 0] [] [] (fun v_ X_ S_ => v_ = (.tuple #[]) ∧ X_ = [] ∧ S_ = []) := by
  refine henter (N := 134) Tryz.func68 rfl rfl (by simp) fun b => ?_
  refine hseq <| hreg <| hy (fun _ => y_assign rfl) <| hend <| hthen <| hseq <| hreg <| hy (fun _ => y_assign rfl) <| hend <| hthen <| hblock <| ?_
  refine hloop1 (fun u => 0) (fun u => [(1, .int .i64 0), (2, .int .i64 0)]) (fun u => []) (fun u => []) (fun u => u = 0) 0 [(0, _)] ⟨rfl, trivial⟩ [] rfl [] rfl (rfl) ⟨rfl, rfl, trivial⟩ (fun u hI => ?_)
  refine hblock <| hseq <| hreg <| hy (fun _ => y_move rfl) <| hy (fun _ => y_move rfl) <| hy (fun _ => y_sub rfl rfl (w64 (by omega) (by omega))) <| hy (fun _ => y_assign rfl) <| hend <| hsub (ρ' := [(10, _), (1, _), (2, _), (0, _)]) ⟨rfl, rfl, rfl, rfl, trivial⟩ <| hthen <| hseq <| hseq <| hreg <| hy (fun _ => y_move rfl) <| hy (fun _ => y_leq rfl rfl) <| hend <| hsub (ρ' := [(23, _), (10, _), (1, _), (2, _), (0, _)]) ⟨rfl, rfl, rfl, rfl, rfl, trivial⟩ <| hthen <| ?_
  refine hift rfl (rfl) ?_
  refine hseq <| hreg <| hy (fun _ => y_move rfl) <| hy (fun _ => y_move rfl) <| hy (fun _ => y_move rfl) <| ?_
  refine hx (xh_call rfl Tryz.call85 (insNoC) [] rfl [] rfl ?_)
  rintro _ _ _ ⟨rfl, rfl, rfl⟩
  refine hend <| hsub (ρ' := [(23, _), (10, _), (1, _), (2, _), (0, _)]) ⟨rfl, rfl, rfl, rfl, rfl, trivial⟩ <| hmemQ (X' := []) (S' := []) (fun _ m => m) <| hthen <| hret <| hthen_ret <| hqblock_ret <| hthen_ret <| hqblock_ret <| ?_
  exact hret0 trivial rfl [] rfl [] rfl ⟨rfl, rfl, rfl⟩
theorem sortNoC  : Con Tryz.prog 37 [.slice none 0 0] [] [] (fun v_ X_ S_ => v_ = (.tuple #[]) ∧ X_ = [] ∧ S_ = []) := by
  refine henter (N := 11) Tryz.func37 rfl rfl (by simp) fun b => ?_
  refine hseq <| hreg <| hy (fun _ => y_move rfl) <| hy (fun _ => y_lenS rfl Tryz.underlying46) <| hy (fun _ => y_assign rfl) <| hend <| hsub (ρ' := [(2, _), (0, _)]) ⟨rfl, rfl, trivial⟩ <| hthen <| hreg <| hy (fun _ => y_move rfl) <| hy (fun _ => y_move rfl) <| hy (fun _ => y_move rfl) <| hy (fun _ => y_conv rfl Tryz.underlying3 Tryz.underlying108 rfl) <| ?_
  refine hx (xh_call rfl Tryz.call69 (lenNoC) [] rfl [] rfl ?_)
  rintro _ _ _ ⟨rfl, rfl, rfl⟩
  refine hx (xh_call rfl Tryz.call68 (pdqNoC) [] rfl [] rfl ?_)
  rintro _ _ _ ⟨rfl, rfl, rfl⟩
  refine hend <| hsub (ρ' := [(2, _), (0, _)]) ⟨rfl, rfl, trivial⟩ <| hmemQ (X' := []) (S' := []) (fun _ m => m) <| ?_
  exact hret0 trivial rfl [] rfl [] rfl ⟨rfl, rfl, rfl⟩
theorem DOk.powered {st : DSt} {n k : Nat} (h : DOk st n) (hk : k ≤ 1000000) : DOk (st.powered k) n := ⟨by show max (k : Int) (-1) ≤ _; omega, h.room, h.seen, h.rest, h.small⟩
end Go.Proofs.YtlbecpekemlllaaGreat
end
section
/- Contracts: a disk's changes of every kind: Rename, Remove, Restart. -/
set_option linter.unusedVariables false
set_option linter.unusedSimpArgs false
set_option maxRecDepth 20000
namespace Go.Proofs.YtlbecpekemlllaaGreat
open Go.Eng Go.Hx
/-- files behind a change -/
def apl (l : Files) : Chg → Files
  | .written p r => aput l p r
  | .renamed a c => match aget l a with
    | none => l
    | some r => aput (adel l a) c r
  | .removed p => adel l p
theorem nmakeC {g : Nat} {l : Files} {a c : List UInt8} : Con Tryz.prog 138 [.agg [SV a, SV c].toArray, .map (some g)] [RMap SV g (vals l)] [] (fun v_ X_ S_ => v_ = (.tuple #[]) ∧ X_ = [RMap SV g (vals (apl l (.renamed a c)))] ∧ S_ = []) := by
  refine henter (N := 21) Tryz.func138 rfl rfl (by simp) fun b => ?_
  refine hseq <| hreg <| ?_
  refine hx (xh_box rfl (fun g2 => ?_))
  refine hmemL (fun w m => m.eqX 0 rfl (show _ = RBlk g2 118 [SV a, SV c] from congrArg (RBlk _ _) (cells_agg _))) ?_
  rcases aget_split (l := l) a with ⟨h1, h2⟩ | ⟨r, h1, h2⟩
  · refine hend <| hmemQ (X' := [_, _]) (S' := []) (fun _ m => m) <| hthen <| hseq <| hreg <| hy (fun _ => y_move rfl) <| hy (fun _ => y_fld rfl fa118_0 (by decide)) <| hy (fun m => y_ld1 rfl ag9 (ld_blk (m.blk 0 rfl) (i := 0) rfl)) <| hy (fun m => yV (y_lookM (enc := SV) rfl rfl Tryz.underlying74 ti63 (strKey Tryz.underlying9) (m.mapX 1 rfl)) ((show lookVal true (.slice none 0 0) (aget (vals l) a) = .tuple #[.slice none 0 0, .bool false] by rw [h2]; rfl))) <| hy (fun _ => y_move rfl) <| hy (fun _ => y_extract rfl rfl) <| hy (fun _ => y_extract rfl rfl) <| hy (fun _ => y_assign rfl) <| hy (fun _ => y_assign rfl) <| hend <| hsub (ρ' := [(5, _), (4, _), (2, _), (0, _), (1, _)]) ⟨rfl, rfl, rfl, rfl, rfl, trivial⟩ <| hthen <| hseq <| hreg <| hy (fun _ => y_move rfl) <| hend <| hthen <| ?_
    refine hiff rfl (rfl) ?_
    refine hcskip <| ?_
    have e : apl l (.renamed a c) = l := by rw [apl, h1]
    rw [e]
    exact hret0 trivial rfl [1] rfl [] rfl ⟨rfl, rfl, rfl⟩
  · refine hend <| hthen <| hseq <| hreg <| hy (fun _ => y_move rfl) <| hy (fun _ => y_fld rfl fa118_0 (by decide)) <| hy (fun m => y_ld1 rfl ag9 (ld_blk (m.blk 0 rfl) rfl)) <| hy (fun m => yV (y_lookM (enc := SV) rfl rfl Tryz.underlying74 ti63 (strKey Tryz.underlying9) (m.mapX 1 rfl)) ((show lookVal true (.slice none 0 0) (aget (vals l) a) = .tuple #[r.val, .bool true] by rw [h2]; rfl))) <| hy (fun _ => y_move rfl) <| hy (fun _ => y_extract rfl rfl) <| hy (fun _ => y_extract rfl rfl) <| hy (fun _ => y_assign rfl) <| hy (fun _ => y_assign rfl) <| hend <| hsub (ρ' := [(5, _), (4, _), (2, _), (0, _), (1, _)]) ⟨rfl, rfl, rfl, rfl, rfl, trivial⟩ <| hthen <| hseq <| hreg <| hy (fun _ => y_move rfl) <| hend <| hthen <| ?_
    refine hift rfl (rfl) ?_
    refine hseq <| hreg <| hy (fun _ => y_move rfl) <| hy (fun _ => y_fld rfl fa118_0 (by decide)) <| hy (fun m => y_ld1 rfl ag9 (ld_blk (m.blk 0 rfl) (i := 0) rfl)) <| ?_
    refine hx0 (xh_mapdel (enc := SV) 1 rfl rfl rfl Tryz.underlying74 (strKey Tryz.underlying9) ?_)
    refine hend <| hsub (ρ' := [(13, _), (5, _), (4, _), (2, _), (0, _), (1, _)]) ⟨rfl, rfl, rfl, rfl, rfl, rfl, trivial⟩ <| hmemQ (X' := [_, _]) (S' := []) (fun _ m => m) <| hthen <| hreg <| hy (fun _ => y_move rfl) <| hy (fun _ => y_fld rfl fa118_1 (by decide)) <| hy (fun m => y_ld1 rfl ag9 (ld_blk (m.blk 1 rfl) (i := 1) rfl)) <| hy (fun _ => y_move rfl) <| ?_
    refine hx0 (xh_mapup (enc := SV) 0 rfl rfl rfl rfl Tryz.underlying74 (strKey Tryz.underlying9) ?_)
    refine hend <| hsub (ρ' := [(13, _), (5, _), (4, _), (2, _), (0, _), (1, _)]) ⟨rfl, rfl, rfl, rfl, rfl, rfl, trivial⟩ <| hmemQ (X' := [_, _]) (S' := []) (fun _ m => m) <| ?_
    have e : aput (adel (vals l) a) c r.val = vals (apl l (.renamed a c)) := by rw [apl, h1, vals_del, vals_put]
    refine hmemQ (fun w m => m.eqX 0 rfl (show _ = RMap SV g (vals (apl l (.renamed a c))) from congrArg (RMap SV g) e)) ?_
    exact hret0 trivial rfl [0] rfl [] rfl ⟨rfl, rfl, rfl⟩
/-- behind a change -/
def DSt.did (st : DSt) (c : Chg) (A : Option Addr) (k : Nat) : DSt := { st.spent with seen := apl st.seen c, waits := st.waits ++ [c], wA := A, wc := k }
theorem adel_vals {l : Files} {p : List UInt8} {x : BRow} (h : x ∈ (adel l p).map (·.2)) : x ∈ l.map (·.2) := by
  induction l with
  | nil => exact h
  | cons a q ih =>
    obtain ⟨k, u⟩ := a
    simp only [adel] at h
    split at h
    · exact List.mem_cons_of_mem _ h
    · simp only [List.map_cons, List.mem_cons] at h ⊢
      rcases h with rfl | h
      · exact .inl rfl
      · exact .inr (ih h)
theorem apl_rows {l : Files} {c : Chg} (hc : c.row = none) {x : BRow} (h : x ∈ (apl l c).map (·.2)) : x ∈ l.map (·.2) := by
  cases c with
  | written p r => cases hc
  | renamed a b =>
    simp only [apl] at h
    split at h
    · exact h
    · rename_i r hr
      rcases aput_vals h with h | h
      · exact adel_vals h
      · exact h ▸ List.mem_map.2 ⟨_, aget_mem hr, rfl⟩
  | removed p => exact adel_vals h
theorem apl_len (l : Files) (c : Chg) : (apl l c).length ≤ l.length + 1 := by
  cases c with
  | written p r => exact aput_len l p r
  | renamed a b =>
    simp only [apl]
    split
    · omega
    · rename_i r hr
      have h1 := aput_len (adel l a) b r
      have h2 := adel_len l a
      omega
  | removed p => have h2 := adel_len l p; show (adel l p).length ≤ _; omega
theorem rows_did {st : DSt} {c : Chg} {A : Option Addr} {k : Nat} (hc : c.row = none) : ∀ x ∈ rowsOf (st.did c A k), x ∈ rowsOf st := by
  intro x hx
  unfold rowsOf DSt.did at hx
  simp only [DSt.spent, List.mem_append, List.filterMap_append] at hx
  unfold rowsOf
  simp only [List.mem_append]
  rcases hx with (h | h) | h | h
  · exact .inl (.inl (apl_rows hc h))
  · exact .inl (.inr h)
  · exact .inr h
  · simp [hc] at h
theorem DOk.did {st : DSt} {k : Nat} (h : DOk st k) {c : Chg} (hc : c.row = none) (A : Option Addr) (j : Nat) : DOk (st.did c A j) (k + 1) := by
  refine ⟨spent_power h.power, h.room, ?_, ?_, fun x hx => h.small x (rows_did hc x hx)⟩
  · have := apl_len st.seen c
    have := h.seen
    show (apl st.seen c).length ≤ k + 1
    omega
  · have := h.rest
    show st.lasts.length + (st.waits ++ [c]).length ≤ k + 1
    simp only [List.length_append, List.length_cons, List.length_nil]
    omega
theorem doNC {g : Nat} {st : DSt} {a c : List UInt8} (hp : st.power ≤ 1000000000000) (hw : st.waits.length ≤ 1000000) : Con Tryz.prog 63 [.pointer (some ⟨g, 0, none⟩), (Chg.renamed a c).val] [RDisk g st] [] (fun v_ X_ S_ => ∃ A k, v_ = (.tuple #[]) ∧ X_ = [RDisk g (st.did (.renamed a c) A k)] ∧ S_ = []) := by
  have hsw : st.spent.waits.length = st.waits.length := rfl
  refine henter (N := 25) Tryz.func63 rfl rfl (by simp) fun b => ?_
  refine hseq <| hreg <| hy (fun _ => y_move rfl) <| ?_
  refine hx (xh_call rfl Tryz.call65 (spendC (by omega)) [0] rfl [] rfl ?_)
  rintro _ _ _ ⟨rfl, rfl, rfl⟩
  refine hmemL (fun w m => (m.perm (takeR_perm [0] _ [_] _ rfl)).unpack) ?_
  refine hend <| hsub (ρ' := [(0, _), (1, _)]) ⟨rfl, rfl, trivial⟩ <| hmemQ (X' := [_, _, _, _, _]) (S' := []) (fun _ m => m) <| hthen <| hseq <| hdrw [8] [(0, some 0), (1, some 0), (2, some 0), (3, some 0), (4, some 0), (5, some 0), (6, some 0), (7, some 0), (8, none)] (by kernel_rfl) (by kernel_rfl) rfl 0 <| htyU (y_move rfl) <| htyU (y_move rfl) <| htyU (y_nilp rfl) <| htyU (y_fld rfl fa77_1 (by decide)) <| hty (fun m => y_ld1 rfl ag74 (ld_blk (m.blk 0 rfl) rfl)) <| htyU (y_mkf rfl rfl) <| htyU (y_nilm rfl (by kernel_rfl)) <| htyU (y_move rfl) <| ?_
  refine htx (xh_inv rfl rfl (fun w => by kernel_rfl) Tryz.call138 (nmakeC) [1] rfl [] rfl ?_)
  rintro _ _ _ ⟨rfl, rfl, rfl⟩
  refine ⟨(fun h => absurd h (by decide)), ?_⟩
  refine htend <| hsub (ρ' := [(0, _), (1, _)]) ⟨rfl, rfl, trivial⟩ <| hmemQ (X' := [_, _, _, _, _]) (S' := []) (fun _ m => m) <| hthen <| hreg <| hy (fun _ => y_move rfl) <| hy (fun _ => y_move rfl) <| hy (fun _ => y_nilp rfl) <| hy (fun _ => y_fld rfl fa77_3 (by decide)) <| hy (fun m => y_ld1 rfl ag75 (ld_blk (m.blk 1 rfl) rfl)) <| hy (fun _ => y_move rfl) <| ?_
  refine hx (xh_bsl Tryz.underlying75 ti81 rfl rfl rfl (by simp [Value.cells, Chg.val]) (by decide) (by decide) (fun g21 => ?_))
  have hA_b21 : 0 < 1 → (some (⟨g21, 0, none⟩ : Addr)) ≠ none := fun _ h => by cases h
  refine hmemL (fun w m => m.eqX 0 rfl (show _ = ROwn 81 1 (.slice (some ⟨g21, 0, none⟩) 1 1) 1 [((Chg.renamed a c)).val] from rfl)) ?_
  refine hx (xh_app 4 rfl rfl rfl Tryz.underlying75 Tryz.underlying75 (by exact .inl rfl) ti81 rfl (fun m => Src.of_rd (m.ord 0 rfl)) (by simp [Chg.val, Value.oneCell']) (by unfold maxLen; omega) (by omega) (fun u => ?_))
  refine hfactL (fun m => (m.own 0 rfl).slice) ?_
  rintro ⟨A_d3, c_d3, rfl, hc_d3⟩
  refine hfactL (fun m => (m.ord 0 rfl).2.1) fun hA_d3 => ?_
  refine hy (fun _ => y_nilp rfl) <| hy (fun _ => y_fld rfl fa77_3 (by decide)) <| ?_
  refine hx0 (xh_st1a 3 rfl rfl rfl sz75 rfl (by first | exact Nat.le_of_ble_eq_true rfl | simp) ?_)
  refine hend <| hsub (ρ' := [(0, _), (1, _)]) ⟨rfl, rfl, trivial⟩ <| hmemQ (X' := [_, _, _, _, _, _]) (S' := []) (fun _ m => m) <| ?_
  refine hmemQ (fun w m => m.eqX 0 rfl (show _ = RBlk g 77 (dcells (st.did ((Chg.renamed a c)) A_d3 c_d3)) from by simp [dcells, DSt.did, DSt.spent])) ?_
  refine hmemQ (fun w m => m.eqX 3 rfl (show _ = RMap SV st.gs (vals (st.did ((Chg.renamed a c)) A_d3 c_d3).seen) from rfl)) ?_
  refine hmemQ (fun w m => m.eqX 2 rfl (show _ = ROwn 81 1 (.slice A_d3 (st.did ((Chg.renamed a c)) A_d3 c_d3).waits.length c_d3) (st.did ((Chg.renamed a c)) A_d3 c_d3).waits.length ((st.did ((Chg.renamed a c)) A_d3 c_d3).waits.map Chg.val) from by simp [DSt.did, DSt.spent])) ?_
  refine hmemQ (X' := RRows (rowsOf (st.did ((Chg.renamed a c)) A_d3 c_d3)) :: _) (fun w m => (m.perm (takeR_perm [5] _ [_] _ rfl)).rowSub ((rows_did rfl))) ?_
  refine hmemQ (X' := RDisk g (st.did ((Chg.renamed a c)) A_d3 c_d3) :: _) (fun w m => (m.perm (takeR_perm [3, 2, 3, 1, 0] _ [_, _, _, _, _] _ rfl)).pack) ?_
  exact hret0 trivial rfl [0] rfl [] rfl ⟨_, _, rfl, rfl, rfl⟩
/-- what is told of a Rename -/
def renameE (st : DSt) (a c : List UInt8) : Int := if ¬ Named c then 1 else foundE st a
theorem renameC {g : Nat} {st : DSt} {a c : List UInt8} {k : Nat} (ok : DOk st k) (hk : k ≤ 100000) : Con Tryz.prog 35 [.pointer (some ⟨g, 0, none⟩), .string (strOf a), .string (strOf c)] [RDisk g st] [] (fun v_ X_ S_ => ∃ st1 A j, v_ = (.int .i64 (renameE st a c)) ∧ X_ = [RDisk g st1] ∧ S_ = [] ∧ ((renameE st a c ≠ 0 ∧ st1 = st) ∨ (renameE st a c = 0 ∧ st1 = st.did (.renamed a c) A j))) := by
  have hp := ok.power
  have hw : st.waits.length ≤ 1000000 := by have := ok.rest; omega
  refine henter (N := 23) Tryz.func35 rfl rfl (by simp) fun b => ?_
  refine hseq <| hreg <| hy (fun _ => y_assign rfl) <| hend <| hthen <| hseq <| hseq <| hreg <| hy (fun _ => y_move rfl) <| ?_
  refine hx (xh_call rfl Tryz.call60 (namedC) [] rfl [] rfl ?_)
  rintro _ _ _ ⟨rfl, rfl, rfl⟩
  refine hy (fun _ => y_notp rfl) <| hend <| hsub (ρ' := [(10, _), (6, _), (0, _), (1, _), (2, _)]) ⟨rfl, rfl, rfl, rfl, rfl, trivial⟩ <| hmemQ (X' := [_]) (S' := []) (fun _ m => m) <| hthen <| ?_
  refine hif rfl (fun h1 => ?_) (fun h1 => ?_)
  · have e : renameE st a c = 1 := by rw [renameE, if_pos h1]
    rw [e]
    refine hseq <| hreg <| hy (fun _ => y_assign rfl) <| hend <| hthen <| hret <| hthen_ret <| ?_
    exact hret1 trivial rfl rfl [0] rfl [] rfl ⟨_, none, 0, rfl, rfl, rfl, .inl ⟨by decide, rfl⟩⟩
  · have e : renameE st a c = foundE st a := by rw [renameE, if_neg h1]
    rw [e]
    refine hcskip <| hthen <| hseq <| hseq <| hreg <| hy (fun _ => y_move rfl) <| hy (fun _ => y_move rfl) <| ?_
    refine hx (xh_call rfl Tryz.call66 (foundC) [0] rfl [] rfl ?_)
    rintro _ _ _ ⟨rfl, rfl, rfl⟩
    refine hy (fun _ => y_assign rfl) <| hend <| hsub (ρ' := [(7, _), (10, _), (6, _), (0, _), (1, _), (2, _)]) ⟨rfl, rfl, rfl, rfl, rfl, rfl, trivial⟩ <| hmemQ (X' := [_]) (S' := []) (fun _ m => m) <| hthen <| hseq <| hreg <| hy (fun _ => y_move rfl) <| hy (fun _ => y_neq rfl rfl) <| hend <| hsub (ρ' := [(15, _), (7, _), (10, _), (6, _), (0, _), (1, _), (2, _)]) ⟨rfl, rfl, rfl, rfl, rfl, rfl, rfl, trivial⟩ <| hthen <| ?_
    refine hif rfl (fun h2 => ?_) (fun h2 => ?_)
    · refine hseq <| hreg <| hy (fun _ => y_move rfl) <| hy (fun _ => y_assign rfl) <| hend <| hsub (ρ' := [(6, _), (15, _), (7, _), (10, _), (0, _), (1, _), (2, _)]) ⟨rfl, rfl, rfl, rfl, rfl, rfl, rfl, trivial⟩ <| hthen <| hret <| hthen_ret <| ?_
      exact hret1 trivial rfl rfl [0] rfl [] rfl ⟨_, none, 0, rfl, rfl, rfl, .inl ⟨h2, rfl⟩⟩
    · have h0 := Decidable.not_not.1 h2
      rw [h0]
      refine hcskip <| hthen <| hseq <| hreg <| hy (fun _ => y_move rfl) <| hy (fun _ => y_move rfl) <| hy (fun _ => y_move rfl) <| hy (fun _ => yV (y_build ti118 rfl rfl (by kernel_rfl) (.cons (o := 0) (sz := 1) (by kernel_rfl) rfl rfl (Nat.le_of_ble_eq_true rfl) (.cons (o := 1) (sz := 1) (by kernel_rfl) rfl rfl (Nat.le_of_ble_eq_true rfl) .nil))) ((rfl : _ = Value.agg [SV a, SV c].toArray))) <| hy (fun _ => yV (y_mki rfl Tryz.underlying118 (fun _ h => by cases h)) ((rfl : _ = (Chg.renamed a c).val))) <| ?_
      refine hx (xh_call rfl Tryz.call63 (doNC (by omega) (by omega)) [0] rfl [] rfl ?_)
      rintro _ _ _ ⟨A, k2, rfl, rfl, rfl⟩
      refine hend <| hsub (ρ' := [(15, _), (7, _), (10, _), (6, _), (0, _), (1, _), (2, _)]) ⟨rfl, rfl, rfl, rfl, rfl, rfl, rfl, trivial⟩ <| hmemQ (X' := [_]) (S' := []) (fun _ m => m) <| hthen <| hseq <| hreg <| hy (fun _ => y_assign rfl) <| hend <| hthen <| hret <| ?_
      exact hret1 trivial rfl rfl [0] rfl [] rfl ⟨_, _, _, rfl, rfl, rfl, .inr ⟨rfl, rfl⟩⟩
end Go.Proofs.YtlbecpekemlllaaGreat
end
section
/- The document's files and a map's files, over plain lists. No program walked. -/
set_option linter.unusedVariables false
set_option linter.unusedSimpArgs false
namespace Go.Proofs.YtlbecpekemlllaaGreat
open Go.Eng Go.Hx
theorem bl_eq : ∀ (x y : List UInt8), Op.bytesLess x y = decide (x < y)
  | [], [] => by simp [Op.bytesLess]
  | _ :: _, [] => by simp [Op.bytesLess]
  | [], _ :: _ => by simp [Op.bytesLess]
  | a :: x, b :: y => by
    rw [Op.bytesLess, bl_eq x y]
    simp only [List.cons_lt_cons_iff]
    by_cases h1 : a < b <;> by_cases h2 : a = b <;> by_cases h3 : x < y <;> simp [h1, h2, h3]
theorem sless_iff {a b : List UInt8} : sless a b = decide (a < b) := by
  unfold sless
  rw [bl_eq, Lib.toList_data, Lib.toList_data]
  rfl
def insF : List FP → FP → List FP
  | [], f => [f]
  | x :: r, f => if x.1 < f.1 then x :: insF r f else f :: (x :: r).filter fun y => decide (y.1 ≠ f.1)
theorem fold_true (f : FP) : ∀ (l acc : List FP), l.foldl (wstep f) (acc, true) = (acc ++ l.filter (fun y => decide (y.1 ≠ f.1)), true)
  | [], acc => by simp
  | x :: r, acc => by
    rw [List.foldl_cons]
    by_cases h : x.1 = f.1
    · have : wstep f (acc, true) x = (acc, true) := by simp [wstep, h]
      rw [this, fold_true f r acc]; simp [h]
    · have : wstep f (acc, true) x = (acc ++ [x], true) := by simp [wstep, h]
      rw [this, fold_true f r (acc ++ [x])]; simp [h]
def wfin (f : FP) (st : List FP × Bool) : List FP := if st.2 then st.1 else st.1 ++ [f]
theorem fold_false (f : FP) : ∀ (l acc : List FP), wfin f (l.foldl (wstep f) (acc, false)) = acc ++ insF l f
  | [], acc => by simp [insF, wfin]
  | x :: r, acc => by
    rw [List.foldl_cons]
    by_cases h : x.1 < f.1
    · have hne : x.1 ≠ f.1 := fun e => by rw [e] at h; exact List.lt_irrefl _ h
      have : wstep f (acc, false) x = (acc ++ [x], false) := by simp [wstep, sless_iff, h, hne]
      rw [this, fold_false f r (acc ++ [x]), insF, if_pos h]; simp
    · have hs : sless x.1 f.1 = false := by rw [sless_iff]; simpa using h
      rw [insF, if_neg h]
      by_cases he : x.1 = f.1
      · have hs' : sless f.1 f.1 = false := he ▸ hs
        have : wstep f (acc, false) x = (acc ++ [f], true) := by simp [wstep, hs', he]
        rw [this, fold_true]; simp [he, wfin]
      · have : wstep f (acc, false) x = (acc ++ [f] ++ [x], true) := by simp [wstep, hs, he]
        rw [this, fold_true]; simp [he, wfin]
theorem withF_ins (l : List FP) (f : FP) : withF l f = insF l f := by
  have := fold_false f l []
  rw [List.nil_append] at this
  rw [← this]
  unfold withF wst wfin
  rw [List.take_of_length_le (Nat.le_refl _)]
/-- what stands under a name -/
def lk : List FP → List UInt8 → Option (List UInt8)
  | [], _ => none
  | x :: r, p => if x.1 = p then some x.2 else lk r p
theorem lk_find : ∀ (l : List FP) (p : List UInt8), (l[findN l p]?).map (·.2) = lk l p
  | [], p => rfl
  | x :: r, p => by
    have := lk_find r p
    unfold findN at this ⊢
    rw [List.findIdx_cons]
    by_cases h : x.1 = p
    · simp [h, lk]
    · simp [h, lk, this]
theorem lk_filter (q : List UInt8) : ∀ (l : List FP) (p : List UInt8), lk (l.filter fun y => decide (y.1 ≠ q)) p = if p = q then none else lk l p
  | [], p => by simp [lk]
  | x :: r, p => by
    have ih := lk_filter q r p
    by_cases h : x.1 = q
    · rw [List.filter_cons, if_neg (by simp [h]), ih]
      by_cases hp : p = q
      · simp [hp]
      · rw [if_neg hp, if_neg hp, lk, if_neg (fun e => hp (e.symm.trans h))]
    · rw [List.filter_cons, if_pos (by simp [h]), lk, ih]
      by_cases hp : p = q
      · rw [if_pos hp, if_pos hp, if_neg (fun e => h (e.trans hp))]
      · rw [if_neg hp, if_neg hp, lk]
theorem lk_ins : ∀ (l : List FP) (f : FP) (p : List UInt8), lk (insF l f) p = if p = f.1 then some f.2 else lk l p
  | [], f, p => by simp only [insF, lk, eq_comm]
  | x :: r, f, p => by
    unfold insF
    by_cases h : x.1 < f.1
    · rw [if_pos h, lk, lk_ins r f p, lk]
      have hne : x.1 ≠ f.1 := fun e => by rw [e] at h; exact List.lt_irrefl _ h
      by_cases hp : p = f.1
      · rw [if_pos hp, if_pos hp, if_neg (fun e => hne (e.trans hp))]
      · rw [if_neg hp, if_neg hp]
    · rw [if_neg h, lk, lk_filter]
      by_cases hp : p = f.1
      · rw [if_pos hp.symm, if_pos hp]
      · rw [if_neg (fun e => hp e.symm), if_neg hp, if_neg hp]
/-- in order, each name once -/
def Srtd (l : List FP) : Prop := (l.map (·.1)).Pairwise (· < ·)
theorem srtd_filter {l : List FP} (q : FP → Bool) (h : Srtd l) : Srtd (l.filter q) := List.Pairwise.sublist (List.Sublist.map _ List.filter_sublist) h
theorem mem_ins {l : List FP} {f y : FP} (h : y ∈ insF l f) : y = f ∨ y ∈ l := by
  induction l with
  | nil => exact .inl (by simpa [insF] using h)
  | cons x r ih =>
    unfold insF at h
    split at h
    · rcases List.mem_cons.1 h with h | h
      · exact .inr (by rw [h]; exact List.mem_cons_self ..)
      · rcases ih h with h | h
        · exact .inl h
        · exact .inr (List.mem_cons_of_mem _ h)
    · rcases List.mem_cons.1 h with h | h
      · exact .inl h
      · exact .inr ((List.mem_filter.1 h).1)
theorem srtd_ins {l : List FP} {f : FP} (h : Srtd l) : Srtd (insF l f) := by
  induction l with
  | nil => simp [Srtd, insF]
  | cons x r ih =>
    have hx : ∀ y ∈ r, x.1 < y.1 := by
      intro y hy
      exact (List.pairwise_cons.1 h).1 _ (List.mem_map.2 ⟨y, hy, rfl⟩)
    have hr : Srtd r := (List.pairwise_cons.1 h).2
    unfold insF
    by_cases hlt : x.1 < f.1
    · rw [if_pos hlt]
      refine List.pairwise_cons.2 ⟨?_, ih hr⟩
      intro a ha
      obtain ⟨y, hy, rfl⟩ := List.mem_map.1 ha
      rcases mem_ins hy with rfl | hy
      · exact hlt
      · exact hx y hy
    · rw [if_neg hlt]
      refine List.pairwise_cons.2 ⟨?_, srtd_filter _ h⟩
      intro a ha
      obtain ⟨y, hy, rfl⟩ := List.mem_map.1 ha
      have hy1 := (List.mem_filter.1 hy).1
      have hy2 : y.1 ≠ f.1 := by simpa using (List.mem_filter.1 hy).2
      have hge : ¬ y.1 < f.1 := by
        rcases List.mem_cons.1 hy1 with rfl | h1
        · exact hlt
        · exact fun e => hlt (List.lt_trans (hx y h1) e)
      exact Decidable.byContradiction fun hn => hy2 (List.le_antisymm (List.not_lt.1 hn) (List.not_lt.1 hge))
/-- a map's files are the document's -/
structure FSim (fs : Files) (l : List FP) : Prop where
  ord : Srtd l
  nd : (akeys fs).Nodup
  look : ∀ p, (aget fs p).map (·.l) = lk l p
  len : ∀ x ∈ fs, x.2.n = x.2.l.length
theorem FSim.nil : FSim [] [] := ⟨by simp [Srtd], by simp [akeys], fun p => rfl, fun x h => by cases h⟩
theorem lk_mem {l : List FP} {p : List UInt8} : lk l p ≠ none ↔ p ∈ l.map (·.1) := by
  induction l with
  | nil => simp [lk]
  | cons x r ih =>
    unfold lk
    by_cases h : x.1 = p
    · simp [h]
    · rw [if_neg h, ih]; simp [Ne.symm h]
theorem FSim.keys {fs : Files} {l : List FP} (h : FSim fs l) : (akeys fs).Perm (l.map (·.1)) := by
  have hn : (l.map (·.1)).Nodup := List.Pairwise.imp (fun hlt e => by rw [e] at hlt; exact List.lt_irrefl _ hlt) h.ord
  refine (List.perm_ext_iff_of_nodup h.nd hn).2 fun p => ?_
  rw [← lk_mem, ← h.look p]
  have := @aget_none (List UInt8) BRow _ fs p
  cases hq : aget fs p with
  | none => simp [this.1 hq]
  | some r => simp; exact Decidable.byContradiction fun hm => by rw [this.2 hm] at hq; cases hq
theorem FSim.put {fs : Files} {l : List FP} (h : FSim fs l) {p : List UInt8} {r : BRow} (hr : r.n = r.l.length) : FSim (aput fs p r) (withF l (p, r.l)) := by
  rw [withF_ins]
  refine ⟨srtd_ins h.ord, aput_nodup h.nd, fun q => ?_, fun x hx => ?_⟩
  · rw [aget_aput, lk_ins]
    by_cases hq : p = q
    · rw [if_pos hq, if_pos hq.symm]; rfl
    · rw [if_neg hq, if_neg (fun e => hq e.symm)]; exact h.look q
  · rcases aput_vals (List.mem_map.2 ⟨x, hx, rfl⟩) with h1 | h1
    · obtain ⟨y, hy, e⟩ := List.mem_map.1 h1
      rw [← e]; exact h.len y hy
    · rw [h1]; exact hr
theorem sum_perm {a b : List Nat} (h : a.Perm b) : a.sum = b.sum := by
  induction h with
  | nil => rfl
  | cons x _ ih => simp [ih]
  | swap x y l => simp; omega
  | trans _ _ h1 h2 => rw [h1, h2]
theorem lk_self {l : List FP} (h : Srtd l) {x : FP} (hx : x ∈ l) : lk l x.1 = some x.2 := by
  induction l with
  | nil => cases hx
  | cons y r ih =>
    unfold lk
    rcases List.mem_cons.1 hx with rfl | h1
    · rw [if_pos rfl]
    · have hlt : y.1 < x.1 := (List.pairwise_cons.1 h).1 _ (List.mem_map.2 ⟨x, h1, rfl⟩)
      rw [if_neg (fun e => by rw [e] at hlt; exact List.lt_irrefl _ hlt)]
      exact ih (List.pairwise_cons.1 h).2 h1
theorem FSim.tot {fs : Files} {l : List FP} (h : FSim fs l) : tot fs = totF l := by
  let g : List UInt8 → Nat := fun p => ((lk l p).getD []).length
  have h1 : fs.map (fun x => x.2.n) = (akeys fs).map g := by
    rw [akeys, List.map_map]
    refine List.map_congr_left fun x hx => ?_
    have := h.look x.1
    rw [aget_of_mem h.nd (show (x.1, x.2) ∈ fs from hx)] at this
    show x.2.n = ((lk l x.1).getD []).length
    rw [← this, h.len x hx]; rfl
  have h2 : l.map (fun x => x.2.length) = (l.map (·.1)).map g := by
    rw [List.map_map]
    refine List.map_congr_left fun x hx => ?_
    show x.2.length = ((lk l x.1).getD []).length
    rw [lk_self h.ord hx]; rfl
  show (fs.map fun x => x.2.n).sum = (l.map fun x => x.2.length).sum
  rw [h1, h2]
  exact sum_perm (h.keys.map g)
theorem FSim.len1 {fs : Files} {l : List FP} (h : FSim fs l) : fs.length = l.length := by
  have := h.keys.length_eq
  simpa [akeys] using this
theorem FSim.sz {fs : Files} {l : List FP} (h : FSim fs l) (p : List UInt8) : ((aget fs p).map (·.n)).getD 0 = ((l[findN l p]?).map (·.2.length)).getD 0 := by
  have h1 := h.look p
  rw [← lk_find] at h1
  cases hq : aget fs p with
  | none =>
    rw [hq] at h1
    cases hl : l[findN l p]? with
    | none => rfl
    | some x => rw [hl] at h1; cases h1
  | some r =>
    rw [hq] at h1
    cases hl : l[findN l p]? with
    | none => rw [hl] at h1; cases h1
    | some x =>
      rw [hl] at h1
      have e : r.l = x.2 := Option.some.inj h1
      have := h.len _ (aget_mem hq)
      simp only [Option.map_some, Option.getD_some]
      rw [← e]; exact this
/-- a disk is the document's -/
structure DSim (st : DSt) (d : RD) : Prop where
  room : st.room = d.room
  power : st.power = d.pw
  files : FSim st.seen d.seen
  waits : st.waits.length = d.waits.length
theorem DSim.writeE {st : DSt} {d : RD} (h : DSim st d) (p bb : List UInt8) : writeE st p bb.length = d.writeE p bb := by
  have h1 := h.files.sz p
  have h2 := h.files.tot
  unfold Go.Proofs.YtlbecpekemlllaaGreat.writeE RD.writeE RD.sz
  rw [h.power, h.room, h1, h2]
  by_cases hn : ¬ Named p
  · rw [if_pos hn, if_pos hn]
  · rw [if_neg hn, if_neg hn]
    by_cases h0 : d.pw = 0
    · rw [if_pos h0, if_pos h0]
    · rw [if_neg h0, if_neg h0]
      by_cases hr : d.room < (totF d.seen : Int) + (bb.length : Nat) - (((d.seen[findN d.seen p]?).map (·.2.length)).getD 0 : Nat)
      · rw [if_pos hr, if_pos (by omega)]
      · rw [if_neg hr, if_neg (by omega)]
theorem DSim.wrote {st : DSt} {d : RD} (h : DSim st d) {p : List UInt8} {r : BRow} (hr : r.n = r.l.length) {A : Option Addr} {c : Nat} : DSim (st.wrote p r A c) (d.did 0 p [] r.l) := by
  refine ⟨h.room, ?_, ?_, ?_⟩
  · show (if 0 < st.power then st.power - 1 else st.power) = lessP d.pw
    rw [h.power]; rfl
  · show FSim (aput st.seen p r) (makeF d.seen 0 p [] r.l)
    rw [makeF, if_pos rfl]; exact h.files.put hr
  · show (st.waits ++ [Chg.written p r]).length = (d.waits ++ [(0, p, [], r.l)]).length
    rw [List.length_append, List.length_append, h.waits]; rfl
theorem DSim.readE {st : DSt} {d : RD} (h : DSim st d) (p : List UInt8) : foundE st p = d.readE p := by
  have h1 := h.files.look p
  rw [← lk_find] at h1
  unfold foundE RD.readE
  rw [h.power]
  by_cases h0 : d.pw = 0
  · rw [if_pos h0, if_pos h0]
  · rw [if_neg h0, if_neg h0]
    cases ha : aget st.seen p with
    | none =>
      rw [ha] at h1
      cases hb : d.seen[findN d.seen p]? with
      | none => simp
      | some y => rw [hb] at h1; cases h1
    | some r =>
      rw [ha] at h1
      cases hb : d.seen[findN d.seen p]? with
      | none => rw [hb] at h1; cases h1
      | some y => simp
theorem DSim.readB {st : DSt} {d : RD} (h : DSim st d) (p : List UInt8) : readB st p = d.readB p := by
  have h1 := h.files.look p
  rw [← lk_find] at h1
  have h2 := h.readE p
  unfold Go.Proofs.YtlbecpekemlllaaGreat.readB RD.readB
  rw [h2, ← h1]
  unfold RD.readE
  by_cases h0 : d.pw = 0
  · rw [if_pos h0, if_pos h0, if_neg (by decide)]
  · rw [if_neg h0, if_neg h0]
    cases hb : d.seen[findN d.seen p]? with
    | none =>
      rw [hb] at h1
      cases ha : aget st.seen p with
      | none => simp
      | some r => rw [ha] at h1; cases h1
    | some y => simp
end Go.Proofs.YtlbecpekemlllaaGreat
end
section
/- Contracts: the document's disk (layer 12), as one thing: Read, Write, Rename, Remove, Sync, Power, Restart. -/
set_option linter.unusedVariables false
set_option linter.unusedSimpArgs false
set_option maxRecDepth 20000
namespace Go.Proofs.YtlbecpekemlllaaGreat
open Go.Eng Go.Hx
/-- a disk of the document, and where its lists lie -/
structure RX where
  d : RD
  A : Option Addr
  c : Nat
  Al : Option Addr
  cl : Nat
  A3 : Option Addr
  c3 : Nat
def RX.cs (x : RX) : List Value := rv x.d x.A x.d.seen.length x.c x.Al x.d.lasts.length x.cl x.A3 x.d.waits.length x.c3
abbrev RX.parts (x : RX) : List Res := [RRd 2 x.A x.d.seen.length (fc x.d.seen), RRd 2 x.Al x.d.lasts.length (fc x.d.lasts), RRd 4 x.A3 x.d.waits.length (wcs x.d.waits)]
def RRef (x : RX) : Res := RAll x.parts
theorem cs_one {x : RX} : ∀ u ∈ x.cs, u.oneCell' = true := dv_one
theorem View.ref0 {x : RX} : View (RRef x) (RRd 2 x.A x.d.seen.length (fc x.d.seen)) := View.alls 0 rfl
theorem View.ref1 {x : RX} : View (RRef x) (RRd 2 x.Al x.d.lasts.length (fc x.d.lasts)) := View.alls 1 rfl
theorem View.ref2 {x : RX} : View (RRef x) (RRd 4 x.A3 x.d.waits.length (wcs x.d.waits)) := View.alls 2 rfl
def RD.new (room : Int) : RD := ⟨room, [], [], [], -1⟩
def RX.new (room : Int) : RX := ⟨RD.new room, none, 0, none, 0, none, 0⟩
theorem der_ref {y : RX} {S : List Res} (h0 : ∃ t ∈ S, View t (RRd 2 y.A y.d.seen.length (fc y.d.seen))) (h1 : ∃ t ∈ S, View t (RRd 2 y.Al y.d.lasts.length (fc y.d.lasts))) (h2 : ∃ t ∈ S, View t (RRd 4 y.A3 y.d.waits.length (wcs y.d.waits))) : Der S [RRef y] := by
  refine Der.cons (fun s hs => ?_) Der.nil
  simp only [List.mem_cons, List.not_mem_nil, or_false] at hs
  rcases hs with rfl | rfl | rfl
  · exact h0
  · exact h1
  · exact h2
theorem ref_new {room : Int} : Der [] [RRef (RX.new room)] := by
  intro s hs
  obtain rfl := List.mem_singleton.1 hs
  refine ⟨fun w _ x hx => ?_, fun k hk => ?_⟩
  · simp only [List.mem_cons, List.not_mem_nil, or_false] at hx
    rcases hx with rfl | rfl | rfl <;> exact Rd.nil _ _ _
  · obtain ⟨x, hx, hk⟩ := hk
    simp only [List.mem_cons, List.not_mem_nil, or_false] at hx
    rcases hx with rfl | rfl | rfl <;> exact absurd rfl hk.1
theorem in1 {r : Res} {S : List Res} : ∃ t ∈ r :: S, View t r := ⟨r, List.mem_cons_self .., .same⟩
theorem inr {r a : Res} {S : List Res} (h : ∃ t ∈ S, View t r) : ∃ t ∈ a :: S, View t r := by
  obtain ⟨t, ht, hv⟩ := h
  exact ⟨t, List.mem_cons_of_mem _ ht, hv⟩
theorem inv1 {r a : Res} {S : List Res} (h : View a r) : ∃ t ∈ a :: S, View t r := ⟨a, List.mem_cons_self .., h⟩
theorem rnewX {room : Int} : Con Tryz.prog 7 [.int .i64 room] [] [] (fun v_ X_ S_ => ∃ y, v_ = (.agg y.cs.toArray) ∧ X_ = [] ∧ S_ = [RRef y] ∧ (y.d = RD.new room)) := by
  exact Con.viaS rnewC (fun s hs => by cases hs) (fun v X S h => by
    obtain ⟨rfl, rfl, rfl⟩ := h
    exact ⟨_, ⟨RX.new room, rfl, rfl, rfl, rfl⟩, ref_new⟩)
theorem rreadX {x : RX} {kk : Nat} {p : List UInt8} (ok : ROk x.d kk) (hkk : kk ≤ 100000) : Con Tryz.prog 44 [.agg x.cs.toArray, .string (strOf p)] [] [RRef x] (fun v_ X_ S_ => v_ = (.tuple #[.string (strOf (x.d.readB p)), .int .i64 (x.d.readE p)]) ∧ X_ = [] ∧ S_ = []) := by
  exact Con.viaS (rreadC rfl ok hkk) (fun s hs => ⟨_, List.mem_singleton_self _, by rw [List.mem_singleton.1 hs]; exact View.ref0⟩) (fun v X S h => ⟨[], ⟨h.1, h.2.1, rfl⟩, Der.nil⟩)
theorem write_lasts (d : RD) (p bb : List UInt8) : (d.write p bb).lasts = d.lasts := by
  unfold RD.write
  split <;> rfl
theorem views02 {x : RX} : ∀ s ∈ [RRd 2 x.A x.d.seen.length (fc x.d.seen), RRd 4 x.A3 x.d.waits.length (wcs x.d.waits)], ∃ t ∈ [RRef x], View t s := by
  intro s hs
  refine ⟨_, List.mem_singleton_self _, ?_⟩
  simp only [List.mem_cons, List.not_mem_nil, or_false] at hs
  rcases hs with rfl | rfl
  · exact View.ref0
  · exact View.ref2
theorem rwriteX {x : RX} {kk : Nat} {p bb : List UInt8} (ok : ROk x.d kk) (hkk : kk ≤ 100000) (hpl : p.length ≤ 1000000) (hbb : bb.length ≤ 1000000) : Con Tryz.prog 25 [.agg x.cs.toArray, .string (strOf p), .string (strOf bb)] [] [RRef x] (fun v_ X_ S_ => ∃ y, v_ = (.tuple #[.agg y.cs.toArray, .int .i64 (x.d.writeE p bb)]) ∧ X_ = [] ∧ S_ = [RRef y] ∧ (y.d = x.d.write p bb)) := by
  refine Con.viaS (rwriteC rfl rfl ok hkk hpl hbb) views02 (fun v X S h => ?_)
  obtain ⟨A1, n1, c1, A2, n2, c2, rfl, rfl, rfl, rfl, rfl⟩ := h
  refine ⟨_, ⟨⟨x.d.write p bb, A1, c1, x.Al, x.cl, A2, c2⟩, by unfold RX.cs; simp only [write_lasts], rfl, rfl, rfl⟩, der_ref in1 (inr (inr (inv1 ?_))) (inr in1)⟩
  simp only [write_lasts]
  exact View.ref1
theorem rdoX {x : RX} {kk : Nat} {k : Int} {p t bb : List UInt8} (ok : ROk x.d kk) (hkk : kk ≤ 100000) : Con Tryz.prog 53 [.agg x.cs.toArray, .agg (cv k p t bb).toArray] [] [RRef x] (fun v_ X_ S_ => ∃ y, v_ = (.agg y.cs.toArray) ∧ X_ = [] ∧ S_ = [RRef y] ∧ (y.d = x.d.did k p t bb)) := by
  have h1 := ok.seen
  have h2 := ok.waits
  refine Con.viaS (rdoC rfl (by omega) rfl (by omega) ok.p1 ok.p2) views02 (fun v X S h => ?_)
  obtain ⟨A1, n1, c1, A2, n2, c2, rfl, rfl, rfl, rfl, _, rfl⟩ := h
  have e : (x.d.waits ++ [(k, p, t, bb)]).length = x.d.waits.length + 1 := by simp
  refine ⟨_, ⟨⟨x.d.did k p t bb, A1, c1, x.Al, x.cl, A2, c2⟩, by unfold RX.cs; simp only [RD.did, e]; rfl, rfl, rfl, rfl⟩, der_ref in1 (inr (inr (inv1 View.ref1))) (inr (inv1 ?_))⟩
  simp only [RD.did, e]
  exact .same
/-- what is told of a Rename -/
def RD.renameE (d : RD) (a c : List UInt8) : Int := if ¬ Named c then 1 else d.readE a
def RD.rename (d : RD) (a c : List UInt8) : RD := if d.renameE a c = 0 then d.did 1 a c [] else d
def RD.remove (d : RD) (p : List UInt8) : RD := if d.readE p = 0 then d.did 2 p [] [] else d
theorem rrenameX {x : RX} {kk : Nat} {a c : List UInt8} (ok : ROk x.d kk) (hkk : kk ≤ 100000) (hcl : c.length ≤ 1000000) : Con Tryz.prog 28 [.agg x.cs.toArray, .string (strOf a), .string (strOf c)] [] [RRef x] (fun v_ X_ S_ => ∃ y, v_ = (.tuple #[.agg y.cs.toArray, .int .i64 (x.d.renameE a c)]) ∧ X_ = [] ∧ S_ = [RRef y] ∧ (y.d = x.d.rename a c)) := by
  refine henter (N := 31) Tryz.func28 rfl rfl (by simp) fun b => ?_
  refine hseq <| hreg <| ?_
  refine hx (xh_box rfl (fun g3 => ?_))
  refine hmemL (fun w m => m.eqX 0 rfl (show _ = RBlk g3 34 x.cs from congrArg (RBlk _ _) (cells_agg _))) ?_
  refine hx (xh_alloc ti34 (fun g6 => ?_))
  refine hy (fun _ => y_assign rfl) <| hend <| hmemQ (X' := [_, _]) (S' := [_]) (fun _ m => m) <| hthen <| hseq <| hreg <| hy (fun _ => y_move rfl) <| ?_
  refine hx (xh_call rfl Tryz.call50 (rnamedC (by omega)) [] rfl [] rfl ?_)
  rintro _ _ _ ⟨rfl, rfl, rfl⟩
  refine hy (fun _ => y_assign rfl) <| hend <| hsub (ρ' := [(8, _), (7, _), (6, _), (3, _), (0, _), (1, _), (2, _)]) ⟨rfl, rfl, rfl, rfl, rfl, rfl, rfl, trivial⟩ <| hmemQ (X' := [_, _]) (S' := [_]) (fun _ m => m) <| hthen <| hseq <| hseq <| hreg <| hy (fun _ => y_move rfl) <| hy (fun _ => y_notp rfl) <| hend <| hsub (ρ' := [(14, _), (8, _), (7, _), (6, _), (3, _), (0, _), (1, _), (2, _)]) ⟨rfl, rfl, rfl, rfl, rfl, rfl, rfl, rfl, trivial⟩ <| hthen <| ?_
  refine hif rfl (fun hN => ?_) (fun hN => ?_)
  · have hE : x.d.renameE a c = 1 := by rw [RD.renameE, if_pos hN]
    have hE0 : ¬ (1 : Int) = 0 := by decide
    have hW : x.d.rename a c = x.d := by rw [RD.rename, if_neg (by rw [hE]; exact hE0)]
    rw [hE, hW]
    refine hseq <| hreg <| hy (fun m => yV (y_ldN rfl ag34 sz34 rfl ((m.blk 1 rfl).cells0)) ((rfl : _ = Value.agg x.cs.toArray))) <| ?_
    refine hx0 (xh_stA 0 rfl rfl rfl sz34 rfl cs_one rfl ?_)
    refine hy (fun _ => y_assign rfl) <| hend <| hsub (ρ' := [(7, _), (14, _), (8, _), (6, _), (3, _), (0, _), (1, _), (2, _)]) ⟨rfl, rfl, rfl, rfl, rfl, rfl, rfl, rfl, trivial⟩ <| hmemQ (X' := [_, _]) (S' := [_]) (fun _ m => m) <| hthen <| hret <| hthen_ret <| ?_
    exact hretN1 trivial rfl rfl rfl ag34 sz34 rfl (fun m => (m.blk 0 rfl).cells0) [] rfl [0] rfl ⟨x, rfl, rfl, rfl, rfl⟩
  · have hE : x.d.renameE a c = x.d.readE a := by rw [RD.renameE, if_neg hN]
    refine hcskip <| hthen <| hseq <| hreg <| hy (fun m => yV (y_ldN rfl ag34 sz34 rfl ((m.blk 1 rfl).cells0)) ((rfl : _ = Value.agg x.cs.toArray))) <| hy (fun _ => y_move rfl) <| ?_
    refine hx (xh_call rfl Tryz.call44 (rreadX (by omega) (by omega)) [] rfl [0] rfl ?_)
    rintro _ _ _ ⟨rfl, rfl, rfl⟩
    refine hy (fun _ => y_move rfl) <| hy (fun _ => y_extract rfl rfl) <| hy (fun _ => y_extract rfl rfl) <| hy (fun _ => y_assign rfl) <| hy (fun _ => y_assign rfl) <| hend <| hsub (ρ' := [(10, _), (14, _), (8, _), (7, _), (6, _), (3, _), (0, _), (1, _), (2, _)]) ⟨rfl, rfl, rfl, rfl, rfl, rfl, rfl, rfl, rfl, trivial⟩ <| hmemQ (X' := [_, _]) (S' := [_]) (fun _ m => m) <| hthen <| hseq <| hseq <| hreg <| hy (fun _ => y_move rfl) <| hy (fun _ => y_neq rfl rfl) <| hend <| hsub (ρ' := [(23, _), (10, _), (14, _), (8, _), (7, _), (6, _), (3, _), (0, _), (1, _), (2, _)]) ⟨rfl, rfl, rfl, rfl, rfl, rfl, rfl, rfl, rfl, rfl, trivial⟩ <| hthen <| ?_
    refine hif rfl (fun hE0 => ?_) (fun hE0 => ?_)
    · have hW : x.d.rename a c = x.d := by rw [RD.rename, if_neg (by rw [hE]; exact hE0)]
      rw [hE, hW]
      refine hseq <| hreg <| hy (fun m => yV (y_ldN rfl ag34 sz34 rfl ((m.blk 1 rfl).cells0)) ((rfl : _ = Value.agg x.cs.toArray))) <| hy (fun _ => y_move rfl) <| ?_
      refine hx0 (xh_stA 0 rfl rfl rfl sz34 rfl cs_one rfl ?_)
      refine hy (fun _ => y_assign rfl) <| hend <| hsub (ρ' := [(7, _), (23, _), (10, _), (14, _), (8, _), (6, _), (3, _), (0, _), (1, _), (2, _)]) ⟨rfl, rfl, rfl, rfl, rfl, rfl, rfl, rfl, rfl, rfl, trivial⟩ <| hmemQ (X' := [_, _]) (S' := [_]) (fun _ m => m) <| hthen <| hret <| hthen_ret <| ?_
      exact hretN1 trivial rfl rfl rfl ag34 sz34 rfl (fun m => (m.blk 0 rfl).cells0) [] rfl [0] rfl ⟨x, rfl, rfl, rfl, rfl⟩
    · have hr0 := Decidable.not_not.1 hE0
      have hW : x.d.rename a c = x.d.did 1 a c [] := by rw [RD.rename, if_pos (by rw [hE]; exact hr0)]
      rw [hE, hW, hr0]
      refine hcskip <| hthen <| hseq <| hreg <| hy (fun m => yV (y_ldN rfl ag34 sz34 rfl ((m.blk 1 rfl).cells0)) ((rfl : _ = Value.agg x.cs.toArray))) <| hy (fun _ => y_move rfl) <| hy (fun _ => y_move rfl) <| hy (fun _ => yV (y_build ti87 rfl rfl (by kernel_rfl) (.cons (o := 0) (sz := 1) (by kernel_rfl) rfl rfl (Nat.le_of_ble_eq_true rfl) (.cons (o := 1) (sz := 1) (by kernel_rfl) rfl rfl (Nat.le_of_ble_eq_true rfl) (.cons (o := 2) (sz := 1) (by kernel_rfl) rfl rfl (Nat.le_of_ble_eq_true rfl) .nil)))) ((rfl : _ = Value.agg (cv 1 a c []).toArray))) <| ?_
      refine hx (xh_call rfl Tryz.call53 (rdoX (by omega) (by omega)) [] rfl [0] rfl ?_)
      rintro _ _ _ ⟨y, rfl, rfl, rfl, hp⟩
      refine hx0 (xh_stA 0 rfl rfl rfl sz34 rfl cs_one rfl ?_)
      refine hy (fun _ => y_assign rfl) <| hend <| hsub (ρ' := [(7, _), (23, _), (10, _), (14, _), (8, _), (6, _), (3, _), (0, _), (1, _), (2, _)]) ⟨rfl, rfl, rfl, rfl, rfl, rfl, rfl, rfl, rfl, rfl, trivial⟩ <| hmemQ (X' := [_, _]) (S' := [_, _]) (fun _ m => m) <| hthen <| hret <| ?_
      exact hretN1 trivial rfl rfl rfl ag34 sz34 rfl (fun m => (m.blk 0 rfl).cells0) [] rfl [0] rfl ⟨y, rfl, rfl, rfl, hp⟩
def RD.syncE (d : RD) : Int := if d.pw = 0 then 6 else 0
def RD.sync (d : RD) : RD := if d.pw = 0 then d else { d with lasts := d.seen, waits := [], pw := lessP d.pw }
theorem rsyncX {x : RX} {kk : Nat} (ok : ROk x.d kk) : Con Tryz.prog 27 [.agg x.cs.toArray] [] [RRef x] (fun v_ X_ S_ => ∃ y, v_ = (.tuple #[.agg y.cs.toArray, .int .i64 x.d.syncE]) ∧ X_ = [] ∧ S_ = [RRef y] ∧ (y.d = x.d.sync)) := by
  have hp1 := ok.p1
  have hp2 := ok.p2
  refine henter (N := 20) Tryz.func27 rfl rfl (by simp) fun b => ?_
  refine hseq <| hreg <| ?_
  refine hx (xh_box rfl (fun g1 => ?_))
  refine hmemL (fun w m => m.eqX 0 rfl (show _ = RBlk g1 34 x.cs from congrArg (RBlk _ _) (cells_agg _))) ?_
  refine hx (xh_alloc ti34 (fun g2 => ?_))
  refine hy (fun _ => y_assign rfl) <| hend <| hmemQ (X' := [_, _]) (S' := [_]) (fun _ m => m) <| hthen <| hseq <| hseq <| hreg <| hy (fun _ => y_fld rfl fa34_4 (by decide)) <| hy (fun m => y_ld1 rfl ag3 (ld_blk (m.blk 1 rfl) (i := 4) rfl)) <| hy (fun _ => y_eql rfl rfl) <| hend <| hsub (ρ' := [(6, _), (3, _), (2, _), (1, _), (0, _)]) ⟨rfl, rfl, rfl, rfl, rfl, trivial⟩ <| hthen <| ?_
  refine hif rfl (fun h0 => ?_) (fun h0 => ?_)
  · have hE : x.d.syncE = 6 := by rw [RD.syncE, if_pos h0]
    have hW : x.d.sync = x.d := by rw [RD.sync, if_pos h0]
    rw [hE, hW]
    refine hseq <| hreg <| hy (fun m => yV (y_ldN rfl ag34 sz34 rfl ((m.blk 1 rfl).cells0)) ((rfl : _ = Value.agg x.cs.toArray))) <| ?_
    refine hx0 (xh_stA 0 rfl rfl rfl sz34 rfl cs_one rfl ?_)
    refine hy (fun _ => y_assign rfl) <| hend <| hsub (ρ' := [(3, _), (6, _), (2, _), (1, _), (0, _)]) ⟨rfl, rfl, rfl, rfl, rfl, trivial⟩ <| hmemQ (X' := [_, _]) (S' := [_]) (fun _ m => m) <| hthen <| hret <| hthen_ret <| ?_
    exact hretN1 trivial rfl rfl rfl ag34 sz34 rfl (fun m => (m.blk 0 rfl).cells0) [] rfl [0] rfl ⟨x, rfl, rfl, rfl, rfl⟩
  · have hE : x.d.syncE = 0 := by rw [RD.syncE, if_neg h0]
    have hW : x.d.sync = { x.d with lasts := x.d.seen, waits := [], pw := lessP x.d.pw } := by rw [RD.sync, if_neg h0]
    rw [hE]
    refine hmemC (fun w m => m.asV 0 rfl View.ref0) ?_
    refine hfactC (fun m => rdX (m.rd 0 rfl)) ?_
    rintro ⟨hl_r0, hA_r0⟩
    refine hmemC (fun w m => m.addS (r' := RRd 4 none 0 []) (.refl _ _) (Rd.nil _ _ _) (fun k hk => absurd rfl hk.1)) ?_
    have hA_z : 0 < 0 → (none : Option Addr) ≠ none := fun h => absurd h (by decide)
    refine hcskip <| hthen <| hseq <| hreg <| hy (fun _ => y_fld rfl fa34_1 (by decide)) <| hy (fun m => y_ld1 rfl ag31 (ld_blk (m.blk 1 rfl) (i := 1) rfl)) <| hy (fun _ => y_fld rfl fa34_2 (by decide)) <| ?_
    refine hx0 (xh_st1a 1 rfl rfl rfl sz31 rfl (by first | exact Nat.le_of_ble_eq_true rfl | simp) ?_)
    refine hend <| hsub (ρ' := [(6, _), (3, _), (2, _), (1, _), (0, _)]) ⟨rfl, rfl, rfl, rfl, rfl, trivial⟩ <| hmemQ (X' := [_, _]) (S' := [_, _, _]) (fun _ m => m) <| hthen <| hseq <| hreg <| hy (fun _ => y_fld rfl fa34_3 (by decide)) <| ?_
    refine hx0 (xh_st1a 0 rfl rfl rfl sz32 rfl (by first | exact Nat.le_of_ble_eq_true rfl | simp) ?_)
    refine hend <| hsub (ρ' := [(6, _), (3, _), (2, _), (1, _), (0, _)]) ⟨rfl, rfl, rfl, rfl, rfl, trivial⟩ <| hmemQ (X' := [_, _]) (S' := [_, _, _]) (fun _ m => m) <| hthen <| hseq <| hseq <| hreg <| hy (fun _ => y_fld rfl fa34_4 (by decide)) <| hy (fun m => y_ld1 rfl ag3 (ld_blk (m.blk 0 rfl) (i := 4) rfl)) <| hy (fun _ => y_gtr rfl rfl) <| hend <| hsub (ρ' := [(14, _), (6, _), (3, _), (2, _), (1, _), (0, _)]) ⟨rfl, rfl, rfl, rfl, rfl, rfl, trivial⟩ <| hthen <| ?_
    refine hmemC (S' := RRef ⟨{ x.d with lasts := x.d.seen, waits := [], pw := lessP x.d.pw }, x.A, x.c, x.A, x.c, none, 0⟩ :: _) (fun w m => m.allS [1, 1, 0] rfl) ?_
    refine hif rfl (fun h1 => ?_) (fun h1 => ?_)
    · refine hreg <| hy (fun _ => y_fld rfl fa34_4 (by decide)) <| hy (fun m => y_ld1 rfl ag3 (ld_blk (m.blk 0 rfl) (i := 4) rfl)) <| hy (fun _ => y_sub rfl rfl (w64 (by omega) (by omega))) <| hy (fun _ => y_fld rfl fa34_4 (by decide)) <| ?_
      refine hx0 (xh_st1a 0 rfl rfl rfl sz3 rfl (by first | exact Nat.le_of_ble_eq_true rfl | simp) ?_)
      refine hend <| hsub (ρ' := [(14, _), (6, _), (3, _), (2, _), (1, _), (0, _)]) ⟨rfl, rfl, rfl, rfl, rfl, rfl, trivial⟩ <| hmemQ (X' := [_, _]) (S' := [_, _, _, _]) (fun _ m => m) <| hthen <| hseq <| hreg <| ?_
      refine hmemL (fun w m => m.eqX 0 rfl (show _ = RBlk g1 34 (RX.cs ⟨{ x.d with lasts := x.d.seen, waits := [], pw := lessP x.d.pw }, x.A, x.c, x.A, x.c, none, 0⟩) from by rw [lessP, if_pos h1]; rfl)) ?_
      refine hy (fun m => yV (y_ldN rfl ag34 sz34 rfl ((m.blk 0 rfl).cells0)) ((rfl : _ = Value.agg (RX.cs ⟨{ x.d with lasts := x.d.seen, waits := [], pw := lessP x.d.pw }, x.A, x.c, x.A, x.c, none, 0⟩).toArray))) <| ?_
      refine hx0 (xh_stA 1 rfl rfl rfl sz34 rfl cs_one rfl ?_)
      refine hy (fun _ => y_assign rfl) <| hend <| hsub (ρ' := [(3, _), (14, _), (6, _), (2, _), (1, _), (0, _)]) ⟨rfl, rfl, rfl, rfl, rfl, rfl, trivial⟩ <| hmemQ (X' := [_, _]) (S' := [_, _, _, _]) (fun _ m => m) <| hthen <| hret <| ?_
      exact hretN1 trivial rfl rfl rfl ag34 sz34 rfl (fun m => (m.blk 0 rfl).cells0) [] rfl [0] rfl ⟨_, rfl, rfl, rfl, hW.symm⟩
    · refine hcskip <| hthen <| hseq <| hreg <| ?_
      refine hmemL (fun w m => m.eqX 0 rfl (show _ = RBlk g1 34 (RX.cs ⟨{ x.d with lasts := x.d.seen, waits := [], pw := lessP x.d.pw }, x.A, x.c, x.A, x.c, none, 0⟩) from by rw [lessP, if_neg h1]; rfl)) ?_
      refine hy (fun m => yV (y_ldN rfl ag34 sz34 rfl ((m.blk 0 rfl).cells0)) ((rfl : _ = Value.agg (RX.cs ⟨{ x.d with lasts := x.d.seen, waits := [], pw := lessP x.d.pw }, x.A, x.c, x.A, x.c, none, 0⟩).toArray))) <| ?_
      refine hx0 (xh_stA 1 rfl rfl rfl sz34 rfl cs_one rfl ?_)
      refine hy (fun _ => y_assign rfl) <| hend <| hsub (ρ' := [(3, _), (14, _), (6, _), (2, _), (1, _), (0, _)]) ⟨rfl, rfl, rfl, rfl, rfl, rfl, trivial⟩ <| hmemQ (X' := [_, _]) (S' := [_, _, _, _]) (fun _ m => m) <| hthen <| hret <| ?_
      exact hretN1 trivial rfl rfl rfl ag34 sz34 rfl (fun m => (m.blk 0 rfl).cells0) [] rfl [0] rfl ⟨_, rfl, rfl, rfl, hW.symm⟩
def RD.power (d : RD) (n : Int) : RD := { d with pw := max n (-1) }
theorem rpowerX {x : RX} {n : Int} : Con Tryz.prog 12 [.agg x.cs.toArray, .int .i64 n] [] [RRef x] (fun v_ X_ S_ => ∃ y, v_ = (.agg y.cs.toArray) ∧ X_ = [] ∧ S_ = [RRef y] ∧ (y.d = x.d.power n)) := by
  refine henter (N := 9) Tryz.func12 rfl rfl (by simp) fun b => ?_
  refine hseq <| hreg <| ?_
  refine hx (xh_box rfl (fun g2 => ?_))
  refine hmemL (fun w m => m.eqX 0 rfl (show _ = RBlk g2 34 x.cs from congrArg (RBlk _ _) (cells_agg _))) ?_
  refine hmemL (fun w m => m.asV 0 rfl View.ref0) ?_
  refine hfactL (fun m => rdX (m.rd 0 rfl)) ?_
  rintro ⟨hl_r0, hA_r0⟩
  refine hmemL (fun w m => m.asV 1 rfl View.ref1) ?_
  refine hfactL (fun m => rdX (m.rd 0 rfl)) ?_
  rintro ⟨hl_r1, hA_r1⟩
  refine hmemL (fun w m => m.asV 2 rfl View.ref2) ?_
  refine hfactL (fun m => rdX (m.rd 0 rfl)) ?_
  rintro ⟨hl_r2, hA_r2⟩
  refine hx (xh_alloc ti34 (fun g4 => ?_))
  refine hend <| hmemQ (X' := [_, _]) (S' := [_, _, _, _]) (fun _ m => m) <| hthen <| hseq <| hreg <| hy (fun _ => y_move rfl) <| hy (fun _ => y_max rfl rfl) <| hy (fun _ => y_fld rfl fa34_4 (by decide)) <| ?_
  refine hx0 (xh_st1a 1 rfl rfl rfl sz3 rfl (by first | exact Nat.le_of_ble_eq_true rfl | simp) ?_)
  refine hend <| hsub (ρ' := [(4, _), (2, _), (0, _), (1, _)]) ⟨rfl, rfl, rfl, rfl, trivial⟩ <| hmemQ (X' := [_, _]) (S' := [_, _, _, _]) (fun _ m => m) <| hthen <| hseq <| hreg <| ?_
  refine hmemL (S' := RRef ⟨x.d.power n, x.A, x.c, x.Al, x.cl, x.A3, x.c3⟩ :: _) (fun w m => m.allS [2, 1, 0] rfl) ?_
  refine hmemL (fun w m => m.eqX 0 rfl (show _ = RBlk g2 34 (RX.cs ⟨x.d.power n, x.A, x.c, x.Al, x.cl, x.A3, x.c3⟩) from rfl)) ?_
  refine hy (fun m => yV (y_ldN rfl ag34 sz34 rfl ((m.blk 0 rfl).cells0)) ((rfl : _ = Value.agg (RX.cs ⟨x.d.power n, x.A, x.c, x.Al, x.cl, x.A3, x.c3⟩).toArray))) <| ?_
  refine hx0 (xh_stA 1 rfl rfl rfl sz34 rfl cs_one rfl ?_)
  refine hend <| hsub (ρ' := [(4, _), (2, _), (0, _), (1, _)]) ⟨rfl, rfl, rfl, rfl, trivial⟩ <| hmemQ (X' := [_, _]) (S' := [_, _, _, _, _]) (fun _ m => m) <| hthen <| hret <| ?_
  exact hretN trivial rfl rfl ag34 sz34 rfl (fun m => (m.blk 0 rfl).cells0) [] rfl [0] rfl ⟨_, rfl, rfl, rfl, rfl⟩
end Go.Proofs.YtlbecpekemlllaaGreat
end
section
/- Contracts: the document's disk (layer 12): Restart, names of a small world. -/
set_option linter.unusedVariables false
set_option linter.unusedSimpArgs false
set_option maxRecDepth 20000
namespace Go.Proofs.YtlbecpekemlllaaGreat
open Go.Eng Go.Hx
theorem flat_get {α : Type} {f : α → List Value} {k : Nat} (hf : ∀ x, (f x).length = k) : ∀ (l : List α) (i j : Nat) (x : α), l[i]? = some x → j < k → (l.flatMap f)[i * k + j]? = (f x)[j]?
  | [], i, j, x, h, hj => by simp at h
  | a :: r, 0, j, x, h, hj => by
    simp only [List.getElem?_cons_zero, Option.some.injEq] at h
    subst h
    rw [List.flatMap_cons, Nat.zero_mul, Nat.zero_add, List.getElem?_append_left (by rw [hf]; exact hj)]
  | a :: r, i + 1, j, x, h, hj => by
    rw [List.flatMap_cons, List.getElem?_append_right (by rw [hf, Nat.succ_mul]; omega), hf, show (i + 1) * k + j - k = i * k + j by rw [Nat.succ_mul]; omega]
    exact flat_get hf r i j x (by simpa using h) hj
theorem flat_cells {α : Type} {f : α → List Value} {k : Nat} {w : World} {A : Option Addr} {n i : Nat} {l : List α} {x : α} (hf : ∀ x, (f x).length = k) (h : Rd w k A n (l.flatMap f)) (hx : l[i]? = some x) : ∀ (j : Nat) (u : Value), (f x)[j]? = some u → w.cell? (((A.getD d0).add (i * k)).add j) = some u := by
  intro j u hu
  have hj : j < k := by have := (List.getElem?_eq_some_iff.1 hu).1; rwa [hf] at this
  exact rd_fld h (by rw [flat_get hf l i j x hx hj]; exact hu)
theorem wcs_cells {w : World} {A : Option Addr} {n i : Nat} {l : List RC} {x : RC} (h : Rd w 4 A n (wcs l)) (hx : l[i]? = some x) : ∀ (j : Nat) (u : Value), (cv x.1 x.2.1 x.2.2.1 x.2.2.2)[j]? = some u → w.cell? (((A.getD d0).add (i * 4)).add j) = some u :=
  flat_cells (f := fun x : RC => cv x.1 x.2.1 x.2.2.1 x.2.2.2) (fun _ => rfl) h hx
/-- one change that waits, at a restart -/
def dstep (s : List Bool × List FP) (c : RC) : List Bool × List FP :=
  if s.1.headD false then
    if c.1 = 0 then (s.1.tail.tail, makeF s.2 c.1 c.2.1 c.2.2.1 (if s.1.tail.headD false then c.2.2.2 else c.2.2.2.take (c.2.2.2.length / 2)))
    else (s.1.tail, makeF s.2 c.1 c.2.1 c.2.2.1 c.2.2.2)
  else (s.1.tail, s.2)
def dfold (keep : List Bool) (d : RD) (i : Nat) : List Bool × List FP := (d.waits.take i).foldl dstep (keep, d.lasts)
theorem dfold_succ {keep : List Bool} {d : RD} {i : Nat} {c : RC} (h : d.waits[i]? = some c) : dfold keep d (i + 1) = dstep (dfold keep d i) c := by
  unfold dfold
  obtain ⟨hi, rfl⟩ := List.getElem?_eq_some_iff.1 h
  rw [List.take_succ_eq_append_getElem hi, List.foldl_append]
  rfl
def RD.restart (d : RD) (keep : List Bool) : RD := { d with seen := (dfold keep d d.waits.length).2, lasts := (dfold keep d d.waits.length).2, waits := [], pw := -1 }
theorem head_drop {bs : List Bool} {at_ : Nat} (h : at_ < bs.length) : (bools bs)[at_]? = some (.bool ((bs.drop at_).headD false)) := by
  have : bs.drop at_ = bs[at_] :: bs.drop (at_ + 1) := List.drop_eq_getElem_cons h
  rw [this]
  simp [bools, List.getElem?_map, List.getElem?_eq_getElem h]
theorem head_lt {bs : List Bool} {at_ : Nat} (h : (bs.drop at_).headD false = true) : at_ < bs.length := by
  refine Decidable.byContradiction fun hn => ?_
  rw [List.drop_eq_nil_of_le (by omega)] at h
  cases h
theorem tail_drop {bs : List Bool} {at_ : Nat} : (bs.drop at_).tail = bs.drop (at_ + 1) := List.tail_drop
theorem rrestartX {x : RX} {kk : Nat} {A : Option Addr} {n c : Nat} {bs : List Bool} (hc : n ≤ c) (ok : ROk x.d kk) (hkk : kk ≤ 100000) (hla : x.d.lasts.length ≤ 100000) (hn : n ≤ 1000000) (hbw : ∀ c ∈ x.d.waits, c.2.2.2.length ≤ 1048576) : Con Tryz.prog 16 [.agg x.cs.toArray, .slice A n c] [] [RRef x, RRd 1 A n (bools bs)] (fun v_ X_ S_ => ∃ y, v_ = (.agg y.cs.toArray) ∧ X_ = [] ∧ S_ = [RRef y] ∧ (y.d = x.d.restart bs)) := by
  have hw2 := ok.waits
  have hbl : (bools bs).length = bs.length := by simp [bools]
  refine henter (N := 82) Tryz.func16 rfl rfl (by simp) fun b => ?_
  refine hfactC (fun m => rdX (m.rd 1 rfl)) ?_
  rintro ⟨hl_k, hA_k⟩
  have hbn : bs.length = n := by omega
  refine hseq <| hreg <| ?_
  refine hx (xh_box rfl (fun g2 => ?_))
  refine hmemL (fun w m => m.eqX 0 rfl (show _ = RBlk g2 34 (dv x.d.room (.slice x.A x.d.seen.length x.c) (.slice x.Al x.d.lasts.length x.cl) (.slice x.A3 x.d.waits.length x.c3) x.d.pw) from congrArg (RBlk _ _) (cells_agg _))) ?_
  refine hmemL (fun w m => m.asV 0 rfl View.ref1) ?_
  refine hfactL (fun m => rdX (m.rd 0 rfl)) ?_
  rintro ⟨hl_r1, hA_r1⟩
  refine hmemL (fun w m => m.asV 1 rfl View.ref2) ?_
  refine hfactL (fun m => rdX (m.rd 0 rfl)) ?_
  rintro ⟨hl_r2, hA_r2⟩
  refine hx (xh_alloc ti34 (fun g4 => ?_))
  refine hend <| hmemQ (X' := [_, _]) (S' := [_, _, _, _]) (fun _ m => m) <| hthen <| hseq <| hreg <| hy (fun _ => y_assign rfl) <| hend <| hthen <| hseq <| hseq <| hreg <| hy (fun _ => y_assign rfl) <| hend <| hthen <| hblock <| ?_
  refine hloop5 (fun i at_ L A1 c1 => x.d.waits.length - i) (fun i at_ L A1 c1 => [(5, .int .i64 (at_ : Nat)), (6, .int .i64 (i : Nat))]) (fun i at_ L A1 c1 => [RBlk g2 34 (dv x.d.room (.slice x.A x.d.seen.length x.c) (.slice A1 L.length c1) (.slice x.A3 x.d.waits.length x.c3) x.d.pw)]) (fun i at_ L A1 c1 => [RRd 2 A1 L.length (fc L)]) (fun i at_ L A1 c1 => i ≤ x.d.waits.length ∧ (bs.drop at_, L) = dfold bs x.d i ∧ at_ ≤ 2 * i ∧ L.length ≤ x.d.lasts.length + i) 0 0 x.d.lasts x.Al x.cl [(4, _), (2, _), (0, _), (1, _)] ⟨rfl, rfl, rfl, rfl, trivial⟩ [1] rfl [1] rfl (⟨Nat.zero_le _, by simp [dfold], by omega, by omega⟩) ⟨rfl, rfl, trivial⟩ (fun i at_ L A1 c1 ⟨hi, hf, hat, hL⟩ => ?_)
  refine hseq <| hseq <| hreg <| hy (fun _ => y_move rfl) <| hy (fun _ => y_fld rfl fa34_3 (by decide)) <| hy (fun m => y_ld1 rfl ag32 (ld_blk (m.blk 0 rfl) (i := 3) rfl)) <| hy (fun _ => y_lenS rfl Tryz.underlying32) <| hy (fun _ => y_lss rfl rfl) <| hend <| hsub (ρ' := [(14, _), (5, _), (6, _), (4, _), (2, _), (0, _), (1, _)]) ⟨rfl, rfl, rfl, rfl, rfl, rfl, rfl, trivial⟩ <| hthen <| ?_
  refine hif rfl (fun hlt => ?_) (fun hlt => ?_)
  · obtain ⟨ch, hch⟩ : ∃ ch, x.d.waits[i]? = some ch := ⟨_, List.getElem?_eq_getElem (by omega)⟩
    have hfs := dfold_succ (keep := bs) hch
    rw [← hf] at hfs
    by_cases hb : (bs.drop at_).headD false = true
    · have hlt1 := head_lt hb
      have hbit := head_drop hlt1
      rw [hb] at hbit
      have hds : dstep (bs.drop at_, L) ch = if ch.1 = 0 then (bs.drop (at_ + 2), makeF L ch.1 ch.2.1 ch.2.2.1 (if (bs.drop (at_ + 1)).headD false then ch.2.2.2 else ch.2.2.2.take (ch.2.2.2.length / 2))) else (bs.drop (at_ + 1), makeF L ch.1 ch.2.1 ch.2.2.1 ch.2.2.2) := by
        unfold dstep
        rw [if_pos hb]
        simp only [tail_drop]
      rw [hds] at hfs
      refine hcskip <| hthen <| hseq <| hblock <| hseq <| hreg <| hy (fun _ => y_move rfl) <| hy (fun _ => y_move rfl) <| hy (fun _ => y_lenS rfl Tryz.underlying27) <| hy (fun _ => yT (y_lss rfl rfl) ((decide_eq_true (by omega)))) <| hy (fun _ => y_move rfl) <| hyg (o := _) rfl rfl rfl (fun _ => y_move rfl) <| hyg (o := _) rfl rfl rfl (fun _ => y_move rfl) <| hyg (o := _) rfl rfl rfl (fun _ => y_move rfl) <| hyg (o := _) rfl rfl rfl (fun _ => y_lenS rfl Tryz.underlying27) <| hyg (o := _) rfl rfl rfl (fun _ => y_sub rfl rfl (w64 (by omega) (by omega))) <| hyg (o := _) rfl rfl rfl (fun _ => y_max rfl rfl) <| hyg (o := _) rfl rfl rfl (fun _ => y_min rfl rfl) <| hyg (o := _) rfl rfl rfl (fun _ => y_idxS1 rfl rfl Tryz.underlying27 sz4 hA_k (show ((at_ : Nat) : Int) = _ by omega) (by omega)) <| hyg (o := _) rfl rfl rfl (fun m => yV (y_ld1 rfl ag4 ((m.rd 4 rfl).cell (j := at_) hbit)) ((rfl : _ = Value.bool true))) <| hy (fun _ => y_pickT rfl rfl) <| hy (fun _ => y_assign rfl) <| hend <| hsub (ρ' := [(7, _), (14, _), (5, _), (6, _), (4, _), (2, _), (0, _), (1, _)]) ⟨rfl, rfl, rfl, rfl, rfl, rfl, rfl, rfl, trivial⟩ <| hthen <| hseq <| hreg <| hy (fun _ => y_move rfl) <| hy (fun _ => y_add rfl rfl (w64 (by omega) (by omega))) <| hy (fun _ => y_assign rfl) <| hend <| hsub (ρ' := [(5, _), (7, _), (14, _), (6, _), (4, _), (2, _), (0, _), (1, _)]) ⟨rfl, rfl, rfl, rfl, rfl, rfl, rfl, rfl, trivial⟩ <| hthen <| hseq <| hseq <| hreg <| hy (fun _ => y_move rfl) <| hy (fun _ => (y_not rfl)) <| hend <| hsub (ρ' := [(35, _), (5, _), (7, _), (14, _), (6, _), (4, _), (2, _), (0, _), (1, _)]) ⟨rfl, rfl, rfl, rfl, rfl, rfl, rfl, rfl, rfl, trivial⟩ <| hthen <| ?_
      refine hiff rfl (rfl) ?_
      refine hcskip <| hthen <| hseq <| hreg <| hy (fun _ => y_fld rfl fa34_3 (by decide)) <| hy (fun m => y_ld1 rfl ag32 (ld_blk (m.blk 0 rfl) (i := 3) rfl)) <| hy (fun _ => y_move rfl) <| hy (fun _ => y_idxS rfl rfl Tryz.underlying32 sz87 hA_r2 rfl (by omega)) <| hy (fun m => yV (y_ldN rfl ag87 sz87 rfl (wcs_cells (m.rd 1 rfl) hch)) ((rfl : _ = Value.agg (cv ch.1 ch.2.1 ch.2.2.1 ch.2.2.2).toArray))) <| ?_
      refine hx (xh_alloc ti87 (fun g8 => ?_))
      refine hx0 (xh_stA 0 rfl rfl rfl sz87 rfl (wcs_one (l := [ch])) rfl ?_)
      refine hmemL (fun w m => m.eqX 0 rfl (show _ = RBlk g8 87 (cv ch.1 ch.2.1 ch.2.2.1 ch.2.2.2) from rfl)) ?_
      refine hend <| hsub (ρ' := [(8, _), (35, _), (5, _), (7, _), (14, _), (6, _), (4, _), (2, _), (0, _), (1, _)]) ⟨rfl, rfl, rfl, rfl, rfl, rfl, rfl, rfl, rfl, rfl, trivial⟩ <| hmemQ (X' := [_, _, _]) (S' := [_, _, _, _, _]) (fun _ m => m) <| hthen <| hseq <| hseq <| hreg <| hy (fun _ => y_fld rfl fa87_0 (by decide)) <| hy (fun m => y_ld1 rfl ag3 (ld_blk (m.blk 0 rfl) (i := 0) rfl)) <| hy (fun _ => y_eql rfl rfl) <| hend <| hsub (ρ' := [(43, _), (8, _), (35, _), (5, _), (7, _), (14, _), (6, _), (4, _), (2, _), (0, _), (1, _)]) ⟨rfl, rfl, rfl, rfl, rfl, rfl, rfl, rfl, rfl, rfl, rfl, trivial⟩ <| hthen <| ?_
      refine hif rfl (fun hk => ?_) (fun hk => ?_)
      · rw [if_pos hk] at hfs
        by_cases hb2 : (bs.drop (at_ + 1)).headD false = true
        · have hlt2 := head_lt hb2
          have hbit2 := head_drop hlt2
          rw [hb2] at hbit2
          rw [if_pos hb2] at hfs
          refine hseq <| hreg <| hy (fun _ => y_move rfl) <| hy (fun _ => y_move rfl) <| hy (fun _ => y_lenS rfl Tryz.underlying27) <| hy (fun _ => yT (y_lss rfl rfl) ((decide_eq_true (by omega)))) <| hy (fun _ => y_move rfl) <| hyg (o := _) rfl rfl rfl (fun _ => y_move rfl) <| hyg (o := _) rfl rfl rfl (fun _ => y_move rfl) <| hyg (o := _) rfl rfl rfl (fun _ => y_move rfl) <| hyg (o := _) rfl rfl rfl (fun _ => y_lenS rfl Tryz.underlying27) <| hyg (o := _) rfl rfl rfl (fun _ => y_sub rfl rfl (w64 (by omega) (by omega))) <| hyg (o := _) rfl rfl rfl (fun _ => y_max rfl rfl) <| hyg (o := _) rfl rfl rfl (fun _ => y_min rfl rfl) <| hyg (o := _) rfl rfl rfl (fun _ => y_idxS1 rfl rfl Tryz.underlying27 sz4 hA_k (show ((at_ + 1 : Nat) : Int) = _ by omega) (by omega)) <| hyg (o := _) rfl rfl rfl (fun m => yV (y_ld1 rfl ag4 ((m.rd 4 rfl).cell (j := at_ + 1) hbit2)) ((rfl : _ = Value.bool true))) <| hy (fun _ => y_pickT rfl rfl) <| hy (fun _ => y_assign rfl) <| hend <| hsub (ρ' := [(9, _), (43, _), (8, _), (35, _), (5, _), (7, _), (14, _), (6, _), (4, _), (2, _), (0, _), (1, _)]) ⟨rfl, rfl, rfl, rfl, rfl, rfl, rfl, rfl, rfl, rfl, rfl, rfl, trivial⟩ <| hthen <| hseq <| hreg <| hy (fun _ => y_move rfl) <| hy (fun _ => y_add rfl rfl (w64 (by omega) (by omega))) <| hy (fun _ => y_assign rfl) <| hend <| hsub (ρ' := [(5, _), (9, _), (43, _), (8, _), (35, _), (7, _), (14, _), (6, _), (4, _), (2, _), (0, _), (1, _)]) ⟨rfl, rfl, rfl, rfl, rfl, rfl, rfl, rfl, rfl, rfl, rfl, rfl, trivial⟩ <| hthen <| hseq <| hreg <| hy (fun _ => y_move rfl) <| hy (fun _ => (y_not rfl)) <| hend <| hsub (ρ' := [(62, _), (5, _), (9, _), (43, _), (8, _), (35, _), (7, _), (14, _), (6, _), (4, _), (2, _), (0, _), (1, _)]) ⟨rfl, rfl, rfl, rfl, rfl, rfl, rfl, rfl, rfl, rfl, rfl, rfl, rfl, trivial⟩ <| hthen <| ?_
          refine hiff rfl (rfl) ?_
          refine hmemC (fun w m => m.asV 1 rfl .same) ?_
          refine hfactC (fun m => rdX (m.rd 0 rfl)) ?_
          rintro ⟨hl_w0, hA_w0⟩
          refine hcskip <| hthen <| hreg <| hy (fun _ => y_fld rfl fa34_2 (by decide)) <| hy (fun m => y_ld1 rfl ag31 (ld_blk (m.blk 1 rfl) (i := 2) rfl)) <| hy (fun m => yV (y_ldN rfl ag87 sz87 rfl ((m.blk 0 rfl).cells0)) ((rfl : _ = Value.agg (cv ch.1 ch.2.1 ch.2.2.1 (ch.2.2.2)).toArray))) <| ?_
          refine hx (xh_call rfl Tryz.call41 (rmakeC rfl (by omega) (l := L)) [] rfl [1] rfl ?_)
          rintro _ _ _ ⟨A12, n1, c12, rfl, rfl, rfl, hp⟩
          refine hfactL (fun m => rdX (m.rd 0 rfl)) ?_
          rintro ⟨hl_q, hA_q⟩
          refine hy (fun _ => y_fld rfl fa34_2 (by decide)) <| ?_
          refine hx0 (xh_st1a 1 rfl rfl rfl sz31 rfl (by first | exact Nat.le_of_ble_eq_true rfl | simp) ?_)
          refine hend <| hsub (ρ' := [(62, _), (5, _), (9, _), (43, _), (8, _), (35, _), (7, _), (14, _), (6, _), (4, _), (2, _), (0, _), (1, _)]) ⟨rfl, rfl, rfl, rfl, rfl, rfl, rfl, rfl, rfl, rfl, rfl, rfl, rfl, trivial⟩ <| hmemQ (X' := [_, _, _]) (S' := [_, _, _, _, _, _, _]) (fun _ m => m) <| hqblock <| hthen <| hreg <| hy (fun _ => y_move rfl) <| hy (fun _ => y_add rfl rfl (w64 (by omega) (by omega))) <| hy (fun _ => y_assign rfl) <| hend <| hsub (ρ' := [(6, _), (62, _), (5, _), (9, _), (43, _), (8, _), (35, _), (7, _), (14, _), (4, _), (2, _), (0, _), (1, _)]) ⟨rfl, rfl, rfl, rfl, rfl, rfl, rfl, rfl, rfl, rfl, rfl, rfl, rfl, trivial⟩ <| ?_
          obtain ⟨rfl, hle⟩ := hp
          refine hmemQ (fun w m => m.eqX 0 rfl (show _ = RBlk g2 34 (dv x.d.room (.slice x.A x.d.seen.length x.c) (.slice A12 (makeF L ch.1 ch.2.1 ch.2.2.1 (ch.2.2.2)).length c12) (.slice x.A3 x.d.waits.length x.c3) x.d.pw) from rfl)) ?_
          refine hnext5 (i + 1) (at_ + 2) (makeF L ch.1 ch.2.1 ch.2.2.1 (ch.2.2.2)) A12 c12 ⟨rfl, rfl, rfl, rfl, rfl, rfl, trivial⟩ [0, 1] rfl [0, 3, 4, 5, 6] rfl (⟨by omega, hfs.symm, by omega, by omega⟩) (by omega)
        · have hb3 : (bs.drop (at_ + 1)).headD false = false := by simpa using hb2
          have hsz := strOf_size ch.2.2.2
          have hbs := hbw ch (List.mem_of_getElem? hch)
          rw [if_neg hb2] at hfs
          by_cases hlt2 : at_ + 1 < bs.length
          · have hbit2 := head_drop hlt2
            rw [hb3] at hbit2
            refine hseq <| hreg <| hy (fun _ => y_move rfl) <| hy (fun _ => y_move rfl) <| hy (fun _ => y_lenS rfl Tryz.underlying27) <| hy (fun _ => yT (y_lss rfl rfl) ((decide_eq_true (by omega)))) <| hy (fun _ => y_move rfl) <| hyg (o := _) rfl rfl rfl (fun _ => y_move rfl) <| hyg (o := _) rfl rfl rfl (fun _ => y_move rfl) <| hyg (o := _) rfl rfl rfl (fun _ => y_move rfl) <| hyg (o := _) rfl rfl rfl (fun _ => y_lenS rfl Tryz.underlying27) <| hyg (o := _) rfl rfl rfl (fun _ => y_sub rfl rfl (w64 (by omega) (by omega))) <| hyg (o := _) rfl rfl rfl (fun _ => y_max rfl rfl) <| hyg (o := _) rfl rfl rfl (fun _ => y_min rfl rfl) <| hyg (o := _) rfl rfl rfl (fun _ => y_idxS1 rfl rfl Tryz.underlying27 sz4 hA_k (show ((at_ + 1 : Nat) : Int) = _ by omega) (by omega)) <| hyg (o := _) rfl rfl rfl (fun m => yV (y_ld1 rfl ag4 ((m.rd 4 rfl).cell (j := at_ + 1) hbit2)) ((rfl : _ = Value.bool false))) <| hy (fun _ => y_pickT rfl rfl) <| hy (fun _ => y_assign rfl) <| hend <| hsub (ρ' := [(9, _), (43, _), (8, _), (35, _), (5, _), (7, _), (14, _), (6, _), (4, _), (2, _), (0, _), (1, _)]) ⟨rfl, rfl, rfl, rfl, rfl, rfl, rfl, rfl, rfl, rfl, rfl, rfl, trivial⟩ <| hthen <| hseq <| hreg <| hy (fun _ => y_move rfl) <| hy (fun _ => y_add rfl rfl (w64 (by omega) (by omega))) <| hy (fun _ => y_assign rfl) <| hend <| hsub (ρ' := [(5, _), (9, _), (43, _), (8, _), (35, _), (7, _), (14, _), (6, _), (4, _), (2, _), (0, _), (1, _)]) ⟨rfl, rfl, rfl, rfl, rfl, rfl, rfl, rfl, rfl, rfl, rfl, rfl, trivial⟩ <| hthen <| hseq <| hreg <| hy (fun _ => y_move rfl) <| hy (fun _ => (y_not rfl)) <| hend <| hsub (ρ' := [(62, _), (5, _), (9, _), (43, _), (8, _), (35, _), (7, _), (14, _), (6, _), (4, _), (2, _), (0, _), (1, _)]) ⟨rfl, rfl, rfl, rfl, rfl, rfl, rfl, rfl, rfl, rfl, rfl, rfl, rfl, trivial⟩ <| hthen <| ?_
            refine hift rfl (rfl) ?_
            refine hreg <| hy (fun _ => y_fld rfl fa87_3 (by decide)) <| hy (fun m => yV (y_ld1 rfl ag9 (ld_blk (m.blk 0 rfl) (i := 3) rfl)) ((rfl : _ = Value.string (strOf ch.2.2.2)))) <| hy (fun _ => y_fld rfl fa87_3 (by decide)) <| hy (fun m => yV (y_ld1 rfl ag9 (ld_blk (m.blk 0 rfl) (i := 3) rfl)) ((rfl : _ = Value.string (strOf ch.2.2.2)))) <| hy (fun _ => y_lenStr rfl Tryz.underlying9) <| hy (fun _ => y_quo rfl rfl (by omega) (by omega) (w64 (by omega) (by omega))) <| hy (fun _ => y_strTo rfl rfl Tryz.underlying9 (show ((ch.2.2.2.length / 2 : Nat) : Int) = _ by rw [hsz]; omega) (by rw [bytesOf_strOf]; omega)) <| hy (fun _ => y_fld rfl fa87_3 (by decide)) <| ?_
            refine hx0 (xh_st1a 0 rfl rfl rfl sz9 rfl (by first | exact Nat.le_of_ble_eq_true rfl | simp) ?_)
            refine hend <| hsub (ρ' := [(62, _), (5, _), (9, _), (43, _), (8, _), (35, _), (7, _), (14, _), (6, _), (4, _), (2, _), (0, _), (1, _)]) ⟨rfl, rfl, rfl, rfl, rfl, rfl, rfl, rfl, rfl, rfl, rfl, rfl, rfl, trivial⟩ <| hmemQ (X' := [_, _, _]) (S' := [_, _, _, _, _]) (fun _ m => m) <| hthen <| hreg <| ?_
            refine hmemL (fun w m => m.asV 1 rfl .same) ?_
            refine hfactL (fun m => rdX (m.rd 0 rfl)) ?_
            rintro ⟨hl_w0, hA_w0⟩
            refine hy (fun _ => y_fld rfl fa34_2 (by decide)) <| hy (fun m => y_ld1 rfl ag31 (ld_blk (m.blk 1 rfl) (i := 2) rfl)) <| hy (fun m => yV (y_ldN rfl ag87 sz87 rfl ((m.blk 0 rfl).cells0)) ((rfl : _ = Value.agg (cv ch.1 ch.2.1 ch.2.2.1 ((ch.2.2.2.take (ch.2.2.2.length / 2)))).toArray))) <| ?_
            refine hx (xh_call rfl Tryz.call41 (rmakeC rfl (by omega) (l := L)) [] rfl [1] rfl ?_)
            rintro _ _ _ ⟨A12, n1, c12, rfl, rfl, rfl, hp⟩
            refine hfactL (fun m => rdX (m.rd 0 rfl)) ?_
            rintro ⟨hl_q, hA_q⟩
            refine hy (fun _ => y_fld rfl fa34_2 (by decide)) <| ?_
            refine hx0 (xh_st1a 1 rfl rfl rfl sz31 rfl (by first | exact Nat.le_of_ble_eq_true rfl | simp) ?_)
            refine hend <| hsub (ρ' := [(62, _), (5, _), (9, _), (43, _), (8, _), (35, _), (7, _), (14, _), (6, _), (4, _), (2, _), (0, _), (1, _)]) ⟨rfl, rfl, rfl, rfl, rfl, rfl, rfl, rfl, rfl, rfl, rfl, rfl, rfl, trivial⟩ <| hmemQ (X' := [_, _, _]) (S' := [_, _, _, _, _, _, _]) (fun _ m => m) <| hqblock <| hthen <| hreg <| hy (fun _ => y_move rfl) <| hy (fun _ => y_add rfl rfl (w64 (by omega) (by omega))) <| hy (fun _ => y_assign rfl) <| hend <| hsub (ρ' := [(6, _), (62, _), (5, _), (9, _), (43, _), (8, _), (35, _), (7, _), (14, _), (4, _), (2, _), (0, _), (1, _)]) ⟨rfl, rfl, rfl, rfl, rfl, rfl, rfl, rfl, rfl, rfl, rfl, rfl, rfl, trivial⟩ <| ?_
            obtain ⟨rfl, hle⟩ := hp
            refine hmemQ (fun w m => m.eqX 0 rfl (show _ = RBlk g2 34 (dv x.d.room (.slice x.A x.d.seen.length x.c) (.slice A12 (makeF L ch.1 ch.2.1 ch.2.2.1 ((ch.2.2.2.take (ch.2.2.2.length / 2)))).length c12) (.slice x.A3 x.d.waits.length x.c3) x.d.pw) from rfl)) ?_
            refine hnext5 (i + 1) (at_ + 2) (makeF L ch.1 ch.2.1 ch.2.2.1 ((ch.2.2.2.take (ch.2.2.2.length / 2)))) A12 c12 ⟨rfl, rfl, rfl, rfl, rfl, rfl, trivial⟩ [0, 1] rfl [0, 3, 4, 5, 6] rfl (⟨by omega, hfs.symm, by omega, by omega⟩) (by omega)
          · refine hseq <| hreg <| hy (fun _ => y_move rfl) <| hy (fun _ => y_move rfl) <| hy (fun _ => y_lenS rfl Tryz.underlying27) <| hy (fun _ => yF (y_lss rfl rfl) ((decide_eq_false (by omega)))) <| hy (fun _ => y_move rfl) <| hskip rfl rfl rfl (by decide) <| hskip rfl rfl rfl (by decide) <| hskip rfl rfl rfl (by decide) <| hskip rfl rfl rfl (by decide) <| hskip rfl rfl rfl (by decide) <| hskip rfl rfl rfl (by decide) <| hskip rfl rfl rfl (by decide) <| hskip rfl rfl rfl (by decide) <| hskip rfl rfl rfl (by decide) <| hy (fun _ => y_pickF rfl rfl) <| hy (fun _ => y_assign rfl) <| hend <| hsub (ρ' := [(9, _), (43, _), (8, _), (35, _), (5, _), (7, _), (14, _), (6, _), (4, _), (2, _), (0, _), (1, _)]) ⟨rfl, rfl, rfl, rfl, rfl, rfl, rfl, rfl, rfl, rfl, rfl, rfl, trivial⟩ <| hthen <| hseq <| hreg <| hy (fun _ => y_move rfl) <| hy (fun _ => y_add rfl rfl (w64 (by omega) (by omega))) <| hy (fun _ => y_assign rfl) <| hend <| hsub (ρ' := [(5, _), (9, _), (43, _), (8, _), (35, _), (7, _), (14, _), (6, _), (4, _), (2, _), (0, _), (1, _)]) ⟨rfl, rfl, rfl, rfl, rfl, rfl, rfl, rfl, rfl, rfl, rfl, rfl, trivial⟩ <| hthen <| hseq <| hreg <| hy (fun _ => y_move rfl) <| hy (fun _ => (y_not rfl)) <| hend <| hsub (ρ' := [(62, _), (5, _), (9, _), (43, _), (8, _), (35, _), (7, _), (14, _), (6, _), (4, _), (2, _), (0, _), (1, _)]) ⟨rfl, rfl, rfl, rfl, rfl, rfl, rfl, rfl, rfl, rfl, rfl, rfl, rfl, trivial⟩ <| hthen <| ?_
            refine hift rfl (rfl) ?_
            refine hreg <| hy (fun _ => y_fld rfl fa87_3 (by decide)) <| hy (fun m => yV (y_ld1 rfl ag9 (ld_blk (m.blk 0 rfl) (i := 3) rfl)) ((rfl : _ = Value.string (strOf ch.2.2.2)))) <| hy (fun _ => y_fld rfl fa87_3 (by decide)) <| hy (fun m => yV (y_ld1 rfl ag9 (ld_blk (m.blk 0 rfl) (i := 3) rfl)) ((rfl : _ = Value.string (strOf ch.2.2.2)))) <| hy (fun _ => y_lenStr rfl Tryz.underlying9) <| hy (fun _ => y_quo rfl rfl (by omega) (by omega) (w64 (by omega) (by omega))) <| hy (fun _ => y_strTo rfl rfl Tryz.underlying9 (show ((ch.2.2.2.length / 2 : Nat) : Int) = _ by rw [hsz]; omega) (by rw [bytesOf_strOf]; omega)) <| hy (fun _ => y_fld rfl fa87_3 (by decide)) <| ?_
            refine hx0 (xh_st1a 0 rfl rfl rfl sz9 rfl (by first | exact Nat.le_of_ble_eq_true rfl | simp) ?_)
            refine hend <| hsub (ρ' := [(62, _), (5, _), (9, _), (43, _), (8, _), (35, _), (7, _), (14, _), (6, _), (4, _), (2, _), (0, _), (1, _)]) ⟨rfl, rfl, rfl, rfl, rfl, rfl, rfl, rfl, rfl, rfl, rfl, rfl, rfl, trivial⟩ <| hmemQ (X' := [_, _, _]) (S' := [_, _, _, _, _]) (fun _ m => m) <| hthen <| hreg <| ?_
            refine hmemL (fun w m => m.asV 1 rfl .same) ?_
            refine hfactL (fun m => rdX (m.rd 0 rfl)) ?_
            rintro ⟨hl_w0, hA_w0⟩
            refine hy (fun _ => y_fld rfl fa34_2 (by decide)) <| hy (fun m => y_ld1 rfl ag31 (ld_blk (m.blk 1 rfl) (i := 2) rfl)) <| hy (fun m => yV (y_ldN rfl ag87 sz87 rfl ((m.blk 0 rfl).cells0)) ((rfl : _ = Value.agg (cv ch.1 ch.2.1 ch.2.2.1 ((ch.2.2.2.take (ch.2.2.2.length / 2)))).toArray))) <| ?_
            refine hx (xh_call rfl Tryz.call41 (rmakeC rfl (by omega) (l := L)) [] rfl [1] rfl ?_)
            rintro _ _ _ ⟨A12, n1, c12, rfl, rfl, rfl, hp⟩
            refine hfactL (fun m => rdX (m.rd 0 rfl)) ?_
            rintro ⟨hl_q, hA_q⟩
            refine hy (fun _ => y_fld rfl fa34_2 (by decide)) <| ?_
            refine hx0 (xh_st1a 1 rfl rfl rfl sz31 rfl (by first | exact Nat.le_of_ble_eq_true rfl | simp) ?_)
            refine hend <| hsub (ρ' := [(62, _), (5, _), (9, _), (43, _), (8, _), (35, _), (7, _), (14, _), (6, _), (4, _), (2, _), (0, _), (1, _)]) ⟨rfl, rfl, rfl, rfl, rfl, rfl, rfl, rfl, rfl, rfl, rfl, rfl, rfl, trivial⟩ <| hmemQ (X' := [_, _, _]) (S' := [_, _, _, _, _, _, _]) (fun _ m => m) <| hqblock <| hthen <| hreg <| hy (fun _ => y_move rfl) <| hy (fun _ => y_add rfl rfl (w64 (by omega) (by omega))) <| hy (fun _ => y_assign rfl) <| hend <| hsub (ρ' := [(6, _), (62, _), (5, _), (9, _), (43, _), (8, _), (35, _), (7, _), (14, _), (4, _), (2, _), (0, _), (1, _)]) ⟨rfl, rfl, rfl, rfl, rfl, rfl, rfl, rfl, rfl, rfl, rfl, rfl, rfl, trivial⟩ <| ?_
            obtain ⟨rfl, hle⟩ := hp
            refine hmemQ (fun w m => m.eqX 0 rfl (show _ = RBlk g2 34 (dv x.d.room (.slice x.A x.d.seen.length x.c) (.slice A12 (makeF L ch.1 ch.2.1 ch.2.2.1 ((ch.2.2.2.take (ch.2.2.2.length / 2)))).length c12) (.slice x.A3 x.d.waits.length x.c3) x.d.pw) from rfl)) ?_
            refine hnext5 (i + 1) (at_ + 2) (makeF L ch.1 ch.2.1 ch.2.2.1 ((ch.2.2.2.take (ch.2.2.2.length / 2)))) A12 c12 ⟨rfl, rfl, rfl, rfl, rfl, rfl, trivial⟩ [0, 1] rfl [0, 3, 4, 5, 6] rfl (⟨by omega, hfs.symm, by omega, by omega⟩) (by omega)
      · rw [if_neg hk] at hfs
        refine hmemC (fun w m => m.asV 1 rfl .same) ?_
        refine hfactC (fun m => rdX (m.rd 0 rfl)) ?_
        rintro ⟨hl_w0, hA_w0⟩
        refine hcskip <| hthen <| hreg <| hy (fun _ => y_fld rfl fa34_2 (by decide)) <| hy (fun m => y_ld1 rfl ag31 (ld_blk (m.blk 1 rfl) (i := 2) rfl)) <| hy (fun m => yV (y_ldN rfl ag87 sz87 rfl ((m.blk 0 rfl).cells0)) ((rfl : _ = Value.agg (cv ch.1 ch.2.1 ch.2.2.1 (ch.2.2.2)).toArray))) <| ?_
        refine hx (xh_call rfl Tryz.call41 (rmakeC rfl (by omega) (l := L)) [] rfl [1] rfl ?_)
        rintro _ _ _ ⟨A12, n1, c12, rfl, rfl, rfl, hp⟩
        refine hfactL (fun m => rdX (m.rd 0 rfl)) ?_
        rintro ⟨hl_q, hA_q⟩
        refine hy (fun _ => y_fld rfl fa34_2 (by decide)) <| ?_
        refine hx0 (xh_st1a 1 rfl rfl rfl sz31 rfl (by first | exact Nat.le_of_ble_eq_true rfl | simp) ?_)
        refine hend <| hsub (ρ' := [(43, _), (8, _), (35, _), (5, _), (7, _), (14, _), (6, _), (4, _), (2, _), (0, _), (1, _)]) ⟨rfl, rfl, rfl, rfl, rfl, rfl, rfl, rfl, rfl, rfl, rfl, trivial⟩ <| hmemQ (X' := [_, _, _]) (S' := [_, _, _, _, _, _, _]) (fun _ m => m) <| hqblock <| hthen <| hreg <| hy (fun _ => y_move rfl) <| hy (fun _ => y_add rfl rfl (w64 (by omega) (by omega))) <| hy (fun _ => y_assign rfl) <| hend <| hsub (ρ' := [(6, _), (43, _), (8, _), (35, _), (5, _), (7, _), (14, _), (4, _), (2, _), (0, _), (1, _)]) ⟨rfl, rfl, rfl, rfl, rfl, rfl, rfl, rfl, rfl, rfl, rfl, trivial⟩ <| ?_
        obtain ⟨rfl, hle⟩ := hp
        refine hmemQ (fun w m => m.eqX 0 rfl (show _ = RBlk g2 34 (dv x.d.room (.slice x.A x.d.seen.length x.c) (.slice A12 (makeF L ch.1 ch.2.1 ch.2.2.1 (ch.2.2.2)).length c12) (.slice x.A3 x.d.waits.length x.c3) x.d.pw) from rfl)) ?_
        refine hnext5 (i + 1) (at_ + 1) (makeF L ch.1 ch.2.1 ch.2.2.1 (ch.2.2.2)) A12 c12 ⟨rfl, rfl, rfl, rfl, rfl, rfl, trivial⟩ [0, 1] rfl [0, 3, 4, 5, 6] rfl (⟨by omega, hfs.symm, by omega, by omega⟩) (by omega)
    · have hb3 : (bs.drop at_).headD false = false := by simpa using hb
      have hds : dstep (bs.drop at_, L) ch = (bs.drop (at_ + 1), L) := by
        unfold dstep
        rw [if_neg (by rw [hb3]; decide)]
        simp only [tail_drop]
      rw [hds] at hfs
      by_cases hlt1 : at_ < bs.length
      · have hbit := head_drop hlt1
        rw [hb3] at hbit
        refine hcskip <| hthen <| hseq <| hblock <| hseq <| hreg <| hy (fun _ => y_move rfl) <| hy (fun _ => y_move rfl) <| hy (fun _ => y_lenS rfl Tryz.underlying27) <| hy (fun _ => yT (y_lss rfl rfl) ((decide_eq_true (by omega)))) <| hy (fun _ => y_move rfl) <| hyg (o := _) rfl rfl rfl (fun _ => y_move rfl) <| hyg (o := _) rfl rfl rfl (fun _ => y_move rfl) <| hyg (o := _) rfl rfl rfl (fun _ => y_move rfl) <| hyg (o := _) rfl rfl rfl (fun _ => y_lenS rfl Tryz.underlying27) <| hyg (o := _) rfl rfl rfl (fun _ => y_sub rfl rfl (w64 (by omega) (by omega))) <| hyg (o := _) rfl rfl rfl (fun _ => y_max rfl rfl) <| hyg (o := _) rfl rfl rfl (fun _ => y_min rfl rfl) <| hyg (o := _) rfl rfl rfl (fun _ => y_idxS1 rfl rfl Tryz.underlying27 sz4 hA_k (show ((at_ : Nat) : Int) = _ by omega) (by omega)) <| hyg (o := _) rfl rfl rfl (fun m => yV (y_ld1 rfl ag4 ((m.rd 4 rfl).cell (j := at_) hbit)) ((rfl : _ = Value.bool false))) <| hy (fun _ => y_pickT rfl rfl) <| hy (fun _ => y_assign rfl) <| hend <| hsub (ρ' := [(7, _), (14, _), (5, _), (6, _), (4, _), (2, _), (0, _), (1, _)]) ⟨rfl, rfl, rfl, rfl, rfl, rfl, rfl, rfl, trivial⟩ <| hthen <| hseq <| hreg <| hy (fun _ => y_move rfl) <| hy (fun _ => y_add rfl rfl (w64 (by omega) (by omega))) <| hy (fun _ => y_assign rfl) <| hend <| hsub (ρ' := [(5, _), (7, _), (14, _), (6, _), (4, _), (2, _), (0, _), (1, _)]) ⟨rfl, rfl, rfl, rfl, rfl, rfl, rfl, rfl, trivial⟩ <| hthen <| hseq <| hseq <| hreg <| hy (fun _ => y_move rfl) <| hy (fun _ => (y_not rfl)) <| hend <| hsub (ρ' := [(35, _), (5, _), (7, _), (14, _), (6, _), (4, _), (2, _), (0, _), (1, _)]) ⟨rfl, rfl, rfl, rfl, rfl, rfl, rfl, rfl, rfl, trivial⟩ <| hthen <| ?_
        refine hift rfl (rfl) ?_
        refine hexit <| hthen_exit <| hqblock_exit <| hthen <| hreg <| hy (fun _ => y_move rfl) <| hy (fun _ => y_add rfl rfl (w64 (by omega) (by omega))) <| hy (fun _ => y_assign rfl) <| hend <| hsub (ρ' := [(6, _), (35, _), (5, _), (7, _), (14, _), (4, _), (2, _), (0, _), (1, _)]) ⟨rfl, rfl, rfl, rfl, rfl, rfl, rfl, rfl, rfl, trivial⟩ <| ?_
        refine hnext5 (i + 1) (at_ + 1) L A1 c1 ⟨rfl, rfl, rfl, rfl, rfl, rfl, trivial⟩ [0, 0] rfl [0, 1, 2, 3, 4] rfl (⟨by omega, hfs.symm, by omega, by omega⟩) (by omega)
      · refine hcskip <| hthen <| hseq <| hblock <| hseq <| hreg <| hy (fun _ => y_move rfl) <| hy (fun _ => y_move rfl) <| hy (fun _ => y_lenS rfl Tryz.underlying27) <| hy (fun _ => yF (y_lss rfl rfl) ((decide_eq_false (by omega)))) <| hy (fun _ => y_move rfl) <| hskip rfl rfl rfl (by decide) <| hskip rfl rfl rfl (by decide) <| hskip rfl rfl rfl (by decide) <| hskip rfl rfl rfl (by decide) <| hskip rfl rfl rfl (by decide) <| hskip rfl rfl rfl (by decide) <| hskip rfl rfl rfl (by decide) <| hskip rfl rfl rfl (by decide) <| hskip rfl rfl rfl (by decide) <| hy (fun _ => y_pickF rfl rfl) <| hy (fun _ => y_assign rfl) <| hend <| hsub (ρ' := [(7, _), (14, _), (5, _), (6, _), (4, _), (2, _), (0, _), (1, _)]) ⟨rfl, rfl, rfl, rfl, rfl, rfl, rfl, rfl, trivial⟩ <| hthen <| hseq <| hreg <| hy (fun _ => y_move rfl) <| hy (fun _ => y_add rfl rfl (w64 (by omega) (by omega))) <| hy (fun _ => y_assign rfl) <| hend <| hsub (ρ' := [(5, _), (7, _), (14, _), (6, _), (4, _), (2, _), (0, _), (1, _)]) ⟨rfl, rfl, rfl, rfl, rfl, rfl, rfl, rfl, trivial⟩ <| hthen <| hseq <| hseq <| hreg <| hy (fun _ => y_move rfl) <| hy (fun _ => (y_not rfl)) <| hend <| hsub (ρ' := [(35, _), (5, _), (7, _), (14, _), (6, _), (4, _), (2, _), (0, _), (1, _)]) ⟨rfl, rfl, rfl, rfl, rfl, rfl, rfl, rfl, rfl, trivial⟩ <| hthen <| ?_
        refine hift rfl (rfl) ?_
        refine hexit <| hthen_exit <| hqblock_exit <| hthen <| hreg <| hy (fun _ => y_move rfl) <| hy (fun _ => y_add rfl rfl (w64 (by omega) (by omega))) <| hy (fun _ => y_assign rfl) <| hend <| hsub (ρ' := [(6, _), (35, _), (5, _), (7, _), (14, _), (4, _), (2, _), (0, _), (1, _)]) ⟨rfl, rfl, rfl, rfl, rfl, rfl, rfl, rfl, rfl, trivial⟩ <| ?_
        refine hnext5 (i + 1) (at_ + 1) L A1 c1 ⟨rfl, rfl, rfl, rfl, rfl, rfl, trivial⟩ [0, 0] rfl [0, 1, 2, 3, 4] rfl (⟨by omega, hfs.symm, by omega, by omega⟩) (by omega)
  · obtain rfl : i = x.d.waits.length := by omega
    have hLL : L = (dfold bs x.d x.d.waits.length).2 := by rw [← hf]
    refine hmemC (fun w m => m.addS (r' := RRd 4 none 0 []) (.refl _ _) (Rd.nil _ _ _) (fun k hk => absurd rfl hk.1)) ?_
    have hA_z : 0 < 0 → (none : Option Addr) ≠ none := fun h => absurd h (by decide)
    refine hexit <| hthen_exit <| hthen_exit <| hqblock_exit <| hthen <| hseq <| hreg <| hy (fun _ => y_fld rfl fa34_2 (by decide)) <| hy (fun m => y_ld1 rfl ag31 (ld_blk (m.blk 0 rfl) (i := 2) rfl)) <| hy (fun _ => y_fld rfl fa34_1 (by decide)) <| ?_
    refine hx0 (xh_st1a 0 rfl rfl rfl sz31 rfl (by first | exact Nat.le_of_ble_eq_true rfl | simp) ?_)
    refine hend <| hsub (ρ' := [(14, _), (5, _), (6, _), (4, _), (2, _), (0, _), (1, _)]) ⟨rfl, rfl, rfl, rfl, rfl, rfl, rfl, trivial⟩ <| hmemQ (X' := [_, _]) (S' := [_, _, _, _, _, _]) (fun _ m => m) <| hthen <| hseq <| hreg <| hy (fun _ => y_fld rfl fa34_3 (by decide)) <| ?_
    refine hx0 (xh_st1a 0 rfl rfl rfl sz32 rfl (by first | exact Nat.le_of_ble_eq_true rfl | simp) ?_)
    refine hend <| hsub (ρ' := [(14, _), (5, _), (6, _), (4, _), (2, _), (0, _), (1, _)]) ⟨rfl, rfl, rfl, rfl, rfl, rfl, rfl, trivial⟩ <| hmemQ (X' := [_, _]) (S' := [_, _, _, _, _, _]) (fun _ m => m) <| hthen <| hseq <| hreg <| hy (fun _ => y_fld rfl fa34_4 (by decide)) <| ?_
    refine hx0 (xh_st1a 0 rfl rfl rfl sz3 rfl (by first | exact Nat.le_of_ble_eq_true rfl | simp) ?_)
    refine hend <| hsub (ρ' := [(14, _), (5, _), (6, _), (4, _), (2, _), (0, _), (1, _)]) ⟨rfl, rfl, rfl, rfl, rfl, rfl, rfl, trivial⟩ <| hmemQ (X' := [_, _]) (S' := [_, _, _, _, _, _]) (fun _ m => m) <| hthen <| hseq <| hreg <| ?_
    refine hmemL (S' := RRef ⟨{ x.d with seen := L, lasts := L, waits := [], pw := -1 }, A1, c1, A1, c1, none, 0⟩ :: _) (fun w m => m.allS [1, 1, 0] rfl) ?_
    refine hmemL (fun w m => m.eqX 0 rfl (show _ = RBlk g2 34 (RX.cs ⟨{ x.d with seen := L, lasts := L, waits := [], pw := -1 }, A1, c1, A1, c1, none, 0⟩) from rfl)) ?_
    refine hy (fun m => yV (y_ldN rfl ag34 sz34 rfl ((m.blk 0 rfl).cells0)) ((rfl : _ = Value.agg (RX.cs ⟨{ x.d with seen := L, lasts := L, waits := [], pw := -1 }, A1, c1, A1, c1, none, 0⟩).toArray))) <| ?_
    refine hx0 (xh_stA 1 rfl rfl rfl sz34 rfl cs_one rfl ?_)
    refine hend <| hsub (ρ' := [(14, _), (5, _), (6, _), (4, _), (2, _), (0, _), (1, _)]) ⟨rfl, rfl, rfl, rfl, rfl, rfl, rfl, trivial⟩ <| hmemQ (X' := [_, _]) (S' := [_, _, _, _, _, _, _]) (fun _ m => m) <| hthen <| hret <| ?_
    exact hretN trivial rfl rfl ag34 sz34 rfl (fun m => (m.blk 0 rfl).cells0) [] rfl [0] rfl ⟨_, rfl, rfl, rfl, by rw [hLL]; rfl⟩
end Go.Proofs.YtlbecpekemlllaaGreat
end
section
/- A disk that is the document's, in all: what is seen, what lasts, what waits; kept by all that is done. No program walked. -/
set_option linter.unusedVariables false
set_option linter.unusedSimpArgs false
namespace Go.Proofs.YtlbecpekemlllaaGreat
open Go.Eng Go.Hx
theorem FSim.del {fs : Files} {l : List FP} (h : FSim fs l) (p : List UInt8) : FSim (adel fs p) (withoutF l p) := by
  refine ⟨srtd_filter _ h.ord, adel_nodup h.nd, fun q => ?_, fun x hx => ?_⟩
  · rw [aget_adel h.nd]
    have := lk_filter p l q
    unfold withoutF
    rw [this]
    by_cases hq : p = q
    · rw [if_pos hq, if_pos hq.symm]; rfl
    · rw [if_neg hq, if_neg (fun e => hq e.symm)]; exact h.look q
  · have h1 := adel_vals (List.mem_map.2 ⟨x, hx, rfl⟩)
    obtain ⟨y, hy, e⟩ := List.mem_map.1 h1
    rw [← e]; exact h.len y hy
theorem FSim.at {fs : Files} {l : List FP} (h : FSim fs l) (p : List UInt8) : (aget fs p = none ∧ l[findN l p]? = none) ∨ ∃ r x, aget fs p = some r ∧ l[findN l p]? = some x ∧ r.l = x.2 ∧ r.n = r.l.length := by
  have h1 := h.look p
  rw [← lk_find] at h1
  cases ha : aget fs p with
  | none =>
    rw [ha] at h1
    cases hb : l[findN l p]? with
    | none => exact .inl ⟨rfl, rfl⟩
    | some y => rw [hb] at h1; cases h1
  | some r =>
    rw [ha] at h1
    cases hb : l[findN l p]? with
    | none => rw [hb] at h1; cases h1
    | some y =>
      rw [hb] at h1
      exact .inr ⟨r, y, rfl, rfl, Option.some.inj h1, h.len _ (aget_mem ha)⟩
/-- a change, as the document has it -/
def Chg.rc : Chg → RC
  | .written p r => (0, p, [], r.l)
  | .renamed a c => (1, a, c, [])
  | .removed p => (2, p, [], [])
def Chg.wl (c : Chg) : Prop := ∀ r, c.row = some r → r.n = r.l.length
theorem FSim.apl {fs : Files} {l : List FP} (h : FSim fs l) {c : Chg} (hc : c.wl) : FSim (apl fs c) (makeF l c.rc.1 c.rc.2.1 c.rc.2.2.1 c.rc.2.2.2) := by
  cases c with
  | written p r =>
    rw [makeF]
    exact h.put (hc r rfl)
  | renamed a b =>
    rw [makeF]
    simp only [Chg.rc, Go.Proofs.YtlbecpekemlllaaGreat.apl]
    rcases h.at a with ⟨h1, h2⟩ | ⟨r, x, h1, h2, h3, h4⟩
    · simp only [h1, h2]; exact h
    · simp only [h1, h2]
      rw [← h3]
      exact (h.del a).put h4
  | removed p =>
    rw [makeF]
    simp only [Chg.rc, Go.Proofs.YtlbecpekemlllaaGreat.apl]
    rcases h.at p with ⟨h1, h2⟩ | ⟨r, x, h1, h2, h3, h4⟩
    · simp only [h2]
      have e : adel fs p = fs := by
        have hk : ¬ p ∈ akeys fs := aget_none.1 h1
        clear h h2 h1
        induction fs with
        | nil => rfl
        | cons a q ih =>
          obtain ⟨k, u⟩ := a
          simp only [akeys, List.map_cons, List.mem_cons, not_or] at hk
          simp only [adel]
          rw [if_neg (fun e => hk.1 e.symm), ih hk.2]
      rw [if_neg (by decide), e]; exact h
    · simp only [h2]
      rw [if_neg (by decide)]
      exact h.del p
/-- a disk is the document's -/
structure DS (st : DSt) (d : RD) (k : Nat) : Prop where
  sim : DSim st d
  ok : DOk st k
  low : -1 ≤ d.pw
  lasts : FSim st.lasts d.lasts
  waits : st.waits.map Chg.rc = d.waits
  wlen : ∀ c ∈ st.waits, c.wl
theorem DS.le {st : DSt} {d : RD} {k k' : Nat} (h : DS st d k) (hk : k ≤ k') : DS st d k' := ⟨h.sim, h.ok.le hk, h.low, h.lasts, h.waits, h.wlen⟩
theorem DS.rok {st : DSt} {d : RD} {k : Nat} (h : DS st d k) : ROk d k := by
  refine ⟨?_, ?_, ?_, by have := h.low; omega, ?_⟩
  · rw [← h.sim.files.len1]; exact h.ok.seen
  · rw [← h.sim.waits]; have := h.ok.rest; omega
  · rw [← h.sim.files.tot]; exact h.ok.tot
  · rw [← h.sim.power]; exact h.ok.power
theorem DS.init {n : Int} {gs gl : Nat} (h : n ≤ 1048576) : DS (dinit n gs gl) (RD.new n) 0 :=
  ⟨⟨rfl, rfl, FSim.nil, rfl⟩, DOk.init h, Int.le_refl _, FSim.nil, rfl, fun c hc => by cases hc⟩
theorem lessP_low {p : Int} (h : -1 ≤ p) : -1 ≤ lessP p := by
  unfold lessP
  split <;> omega
theorem DS.did {st : DSt} {d : RD} {k : Nat} (h : DS st d k) {c : Chg} (hc : c.wl) {st1 : DSt} (hs : st1.room = st.room ∧ st1.lasts = st.lasts ∧ st1.power = st.spent.power ∧ st1.seen = apl st.seen c ∧ st1.waits = st.waits ++ [c]) (ok : DOk st1 (k + 1)) :
    DS st1 (d.did c.rc.1 c.rc.2.1 c.rc.2.2.1 c.rc.2.2.2) (k + 1) := by
  obtain ⟨h1, h2, h3, h4, h5⟩ := hs
  refine ⟨⟨h1.trans h.sim.room, ?_, ?_, ?_⟩, ok, lessP_low h.low, ?_, ?_, fun x hx => ?_⟩
  · rw [h3]
    show (if 0 < st.power then st.power - 1 else st.power) = lessP d.pw
    rw [h.sim.power]; rfl
  · rw [h4]; exact h.sim.files.apl hc
  · rw [h5, List.length_append, h.sim.waits]
    show _ = (d.waits ++ [_]).length
    rw [List.length_append]; rfl
  · rw [h2]; exact h.lasts
  · rw [h5, List.map_append, h.waits]; rfl
  · rw [h5] at hx
    rcases List.mem_append.1 hx with hx | hx
    · exact h.wlen x hx
    · rw [List.mem_singleton.1 hx]; exact hc
/-- behind a Write, of both -/
theorem DS.write {st st1 : DSt} {d : RD} {k n : Nat} (h : DS st d k) {p l : List UInt8} {B A : Option Addr} {c1 c2 : Nat} (hl : l.length = n) (hn : n ≤ 1048576)
    (hw : (writeE st p n ≠ 0 ∧ st1 = st) ∨ (writeE st p n = 0 ∧ st1 = st.wrote p ⟨B, n, c1, l⟩ A c2)) : DS st1 (d.write p l) (k + 1) ∧ d.writeE p l = writeE st p n := by
  subst hl
  have e := h.sim.writeE p l
  refine ⟨?_, e.symm⟩
  unfold RD.write
  rw [← e]
  rcases hw with ⟨h1, rfl⟩ | ⟨h1, rfl⟩
  · rw [if_neg h1]; exact h.le (Nat.le_succ _)
  · rw [if_pos h1]
    exact h.did (c := .written p ⟨B, l.length, c1, l⟩) (fun r hr => by cases hr; rfl) ⟨rfl, rfl, rfl, rfl, rfl⟩ (h.ok.wrote hn A c2)
theorem DS.readE {st : DSt} {d : RD} {k : Nat} (h : DS st d k) (p : List UInt8) : d.readE p = foundE st p := (h.sim.readE p).symm
theorem DS.readB {st : DSt} {d : RD} {k : Nat} (h : DS st d k) (p : List UInt8) : d.readB p = readB st p := (h.sim.readB p).symm
theorem DS.rename {st st1 : DSt} {d : RD} {k : Nat} (h : DS st d k) {a c : List UInt8} {A : Option Addr} {j : Nat}
    (hw : (renameE st a c ≠ 0 ∧ st1 = st) ∨ (renameE st a c = 0 ∧ st1 = st.did (.renamed a c) A j)) : DS st1 (d.rename a c) (k + 1) ∧ d.renameE a c = renameE st a c := by
  have e : d.renameE a c = renameE st a c := by
    unfold RD.renameE Go.Proofs.YtlbecpekemlllaaGreat.renameE
    rw [h.readE]
  refine ⟨?_, e⟩
  unfold RD.rename
  rw [e]
  rcases hw with ⟨h1, rfl⟩ | ⟨h1, rfl⟩
  · rw [if_neg h1]; exact h.le (Nat.le_succ _)
  · rw [if_pos h1]
    exact h.did (c := .renamed a c) (fun r hr => by cases hr) ⟨rfl, rfl, rfl, rfl, rfl⟩ (h.ok.did rfl A j)
theorem DS.remove {st st1 : DSt} {d : RD} {k : Nat} (h : DS st d k) {p : List UInt8} {A : Option Addr} {j : Nat}
    (hw : (foundE st p ≠ 0 ∧ st1 = st) ∨ (foundE st p = 0 ∧ st1 = st.did (.removed p) A j)) : DS st1 (d.remove p) (k + 1) := by
  unfold RD.remove
  rw [h.readE]
  rcases hw with ⟨h1, rfl⟩ | ⟨h1, rfl⟩
  · rw [if_neg h1]; exact h.le (Nat.le_succ _)
  · rw [if_pos h1]
    exact h.did (c := .removed p) (fun r hr => by cases hr) ⟨rfl, rfl, rfl, rfl, rfl⟩ (h.ok.did rfl A j)
theorem DS.sync {st st1 : DSt} {d : RD} {k gl : Nat} (h : DS st d k) (hw : (st.power = 0 ∧ st1 = st) ∨ (st.power ≠ 0 ∧ st1 = st.synced gl)) : DS st1 d.sync k ∧ d.syncE = syncE st := by
  have e : d.syncE = syncE st := by unfold RD.syncE Go.Proofs.YtlbecpekemlllaaGreat.syncE; rw [h.sim.power]
  refine ⟨?_, e⟩
  unfold RD.sync
  rw [← h.sim.power]
  rcases hw with ⟨h1, rfl⟩ | ⟨h1, rfl⟩
  · rw [if_pos h1]; exact h
  · rw [if_neg h1]
    refine ⟨⟨h.sim.room, ?_, h.sim.files, rfl⟩, h.ok.synced gl, ?_, h.sim.files, rfl, fun c hc => by cases hc⟩
    · rfl
    · rw [h.sim.power]; exact lessP_low h.low
theorem DS.power {st : DSt} {d : RD} {k : Nat} (h : DS st d k) {n : Int} (hn : n ≤ 1000000000000) : DS (st.powered n) (d.power n) k := by
  refine ⟨⟨h.sim.room, rfl, h.sim.files, h.sim.waits⟩, ⟨?_, h.ok.room, h.ok.seen, h.ok.rest, h.ok.small⟩, ?_, h.lasts, h.waits, h.wlen⟩
  · show max n (-1) ≤ _; omega
  · show -1 ≤ max n (-1); omega
theorem rstep_sim {ks : List Bool} {L : Files} {l : List FP} {c : Chg} (h : FSim L l) (hc : c.wl) : (rstep (ks, L) c).1 = (dstep (ks, l) c.rc).1 ∧ FSim (rstep (ks, L) c).2 (dstep (ks, l) c.rc).2 := by
  unfold rstep dstep
  by_cases hb : ks.headD false = true
  · rw [if_pos hb, if_pos hb]
    cases c with
    | written p r =>
      rw [if_pos (show (Chg.rc (.written p r)).1 = 0 from rfl)]
      refine ⟨rfl, ?_⟩
      have hr := hc r rfl
      by_cases hb2 : ks.tail.headD false = true
      · simp only [hb2, if_true]
        exact h.apl hc
      · simp only [hb2, if_false]
        have e : (Chg.written p r.half).rc = (0, p, [], r.l.take (r.l.length / 2)) := by simp [Chg.rc, BRow.half, hr]
        have := h.apl (c := .written p r.half) (fun x hx => by cases hx; simp [BRow.half]; omega)
        rw [e] at this
        exact this
    | renamed a b => exact ⟨rfl, h.apl hc⟩
    | removed p => exact ⟨rfl, h.apl hc⟩
  · rw [if_neg hb, if_neg hb]
    exact ⟨rfl, h⟩
theorem fold_sim : ∀ (cs : List Chg) {ks : List Bool} {L : Files} {l : List FP}, FSim L l → (∀ c ∈ cs, c.wl) → (cs.foldl rstep (ks, L)).1 = ((cs.map Chg.rc).foldl dstep (ks, l)).1 ∧ FSim (cs.foldl rstep (ks, L)).2 ((cs.map Chg.rc).foldl dstep (ks, l)).2
  | [], ks, L, l, h, hc => ⟨rfl, h⟩
  | c :: r, ks, L, l, h, hc => by
    obtain ⟨h1, h2⟩ := rstep_sim (ks := ks) h (hc c (List.mem_cons_self ..))
    have e : dstep (ks, l) c.rc = ((rstep (ks, L) c).1, (dstep (ks, l) c.rc).2) := by rw [h1]
    rw [List.map_cons, List.foldl_cons, List.foldl_cons, e]
    exact fold_sim r h2 (fun x hx => hc x (List.mem_cons_of_mem _ hx))
theorem DS.restart {st : DSt} {d : RD} {k : Nat} (h : DS st d k) (keep : List Bool) (gs : Nat) : DS (st.started keep gs) (d.restart keep) k := by
  have hf := (fold_sim st.waits (ks := keep) h.lasts h.wlen).2
  rw [h.waits] at hf
  have e1 : rfold keep st st.waits.length = st.waits.foldl rstep (keep, st.lasts) := by rw [rfold, List.take_of_length_le (Nat.le_refl _)]
  have e2 : dfold keep d d.waits.length = d.waits.foldl dstep (keep, d.lasts) := by rw [dfold, List.take_of_length_le (Nat.le_refl _)]
  rw [← e1, ← e2] at hf
  exact ⟨⟨h.sim.room, rfl, hf, rfl⟩, h.ok.started keep gs, by show -1 ≤ (-1 : Int); omega, hf, rfl, fun c hc => by cases hc⟩
theorem DS.wbound {st : DSt} {d : RD} {k : Nat} (h : DS st d k) : ∀ c ∈ d.waits, c.2.2.2.length ≤ 1048576 := by
  intro c hc
  rw [← h.waits] at hc
  obtain ⟨x, hx, rfl⟩ := List.mem_map.1 hc
  cases x with
  | written p r =>
    have h1 := h.wlen _ hx r rfl
    have h2 := h.ok.small r (by unfold rowsOf; exact List.mem_append_right _ (List.mem_filterMap.2 ⟨_, hx, rfl⟩))
    show r.l.length ≤ _
    omega
  | renamed a b => exact Nat.zero_le _
  | removed p => exact Nat.zero_le _
theorem DS.lbound {st : DSt} {d : RD} {k : Nat} (h : DS st d k) : d.lasts.length ≤ k := by
  rw [← h.lasts.len1]; have := h.ok.rest; omega
/-- a disk of the document that some disk of the program could be -/
def RD.ok (d : RD) (k : Nat) : Prop := ∃ st, DS st d k
theorem RD.ok.rok {d : RD} {k : Nat} (h : d.ok k) : ROk d k := by obtain ⟨st, h⟩ := h; exact h.rok
theorem RD.ok.le {d : RD} {k k' : Nat} (h : d.ok k) (hk : k ≤ k') : d.ok k' := by obtain ⟨st, h⟩ := h; exact ⟨st, h.le hk⟩
theorem RD.ok.new {n : Int} (h : n ≤ 1048576) : (RD.new n).ok 0 := ⟨dinit n 0 0, DS.init h⟩
theorem RD.ok.write {d : RD} {k : Nat} (h : d.ok k) {p l : List UInt8} (hl : l.length ≤ 1048576) : (d.write p l).ok (k + 1) := by
  obtain ⟨st, h⟩ := h
  by_cases he : Go.Proofs.YtlbecpekemlllaaGreat.writeE st p l.length = 0
  · exact ⟨_, (h.write (st1 := st.wrote p ⟨none, l.length, 0, l⟩ none 0) rfl hl (.inr ⟨he, rfl⟩)).1⟩
  · exact ⟨_, (h.write (B := none) (A := none) (c1 := 0) (c2 := 0) (st1 := st) rfl hl (.inl ⟨he, rfl⟩)).1⟩
theorem RD.ok.rename {d : RD} {k : Nat} (h : d.ok k) {a c : List UInt8} : (d.rename a c).ok (k + 1) := by
  obtain ⟨st, h⟩ := h
  by_cases he : Go.Proofs.YtlbecpekemlllaaGreat.renameE st a c = 0
  · exact ⟨_, (h.rename (st1 := st.did (.renamed a c) none 0) (.inr ⟨he, rfl⟩)).1⟩
  · exact ⟨_, (h.rename (A := none) (j := 0) (st1 := st) (.inl ⟨he, rfl⟩)).1⟩
theorem RD.ok.remove {d : RD} {k : Nat} (h : d.ok k) {p : List UInt8} : (d.remove p).ok (k + 1) := by
  obtain ⟨st, h⟩ := h
  by_cases he : foundE st p = 0
  · exact ⟨_, h.remove (st1 := st.did (.removed p) none 0) (.inr ⟨he, rfl⟩)⟩
  · exact ⟨_, h.remove (A := none) (j := 0) (st1 := st) (.inl ⟨he, rfl⟩)⟩
theorem RD.ok.sync {d : RD} {k : Nat} (h : d.ok k) : d.sync.ok k := by
  obtain ⟨st, h⟩ := h
  by_cases he : st.power = 0
  · exact ⟨_, (h.sync (gl := 0) (st1 := st) (.inl ⟨he, rfl⟩)).1⟩
  · exact ⟨_, (h.sync (st1 := st.synced 0) (.inr ⟨he, rfl⟩)).1⟩
theorem RD.ok.power {d : RD} {k : Nat} (h : d.ok k) {n : Int} (hn : n ≤ 1000000000000) : (d.power n).ok k := by
  obtain ⟨st, h⟩ := h
  exact ⟨_, h.power hn⟩
theorem RD.ok.restart {d : RD} {k : Nat} (h : d.ok k) (keep : List Bool) : (d.restart keep).ok k := by
  obtain ⟨st, h⟩ := h
  exact ⟨_, h.restart keep 0⟩
end Go.Proofs.YtlbecpekemlllaaGreat
end
section
/- Contract: a disk's Restart where no removal waits. -/
set_option linter.unusedVariables false
set_option linter.unusedSimpArgs false
set_option maxRecDepth 20000
namespace Go.Proofs.YtlbecpekemlllaaGreat
open Go.Eng Go.Hx
/-- a restart, where no removal waits -/
theorem restartNC {g : Nat} {st : DSt} {A : Option Addr} {n c : Nat} {bs : List Bool} (hc : n ≤ c) (hR : ∀ c ∈ st.waits, ∀ p, c ≠ .removed p) (hs : Small st) (hw : st.waits.length ≤ 1000000) : Con Tryz.prog 15 [.pointer (some ⟨g, 0, none⟩), .slice A n c] [RDisk g st] [RRd 1 A n (bools bs)] (fun v_ X_ S_ => ∃ gs, v_ = (.tuple #[]) ∧ X_ = [RDisk g (st.started bs gs)] ∧ S_ = []) := by
  refine henter (N := 67) Tryz.func15 rfl rfl (by simp) fun b => ?_
  refine hfactC (fun m => rdX (m.rd 0 rfl)) ?_
  rintro ⟨hl_r, hA_r⟩
  refine hmemC (fun w m => (m.perm (takeR_perm [0] _ [_] _ rfl)).unpack) ?_
  refine hfactC (fun m => (m.ord 3 rfl).2.1) fun hwA => ?_
  refine hseq <| hreg <| ?_
  refine hx (xh_box rfl (fun g3 => ?_))
  refine hend <| hmemQ (X' := [_, _, _, _, _, _]) (S' := [_]) (fun _ m => m) <| hthen <| hseq <| hreg <| hy (fun _ => y_mkf rfl rfl) <| hy (fun _ => y_assign rfl) <| hend <| hsub (ρ' := [(4, _), (3, _), (0, _), (1, _)]) ⟨rfl, rfl, rfl, rfl, trivial⟩ <| hthen <| hseq <| hseq <| hreg <| hy (fun _ => y_move rfl) <| hy (fun _ => y_nilp rfl) <| hy (fun _ => y_fld rfl fa77_3 (by decide)) <| hy (fun m => y_ld1 rfl ag75 (ld_blk (m.blk 1 rfl) rfl)) <| hy (fun _ => y_lenS rfl Tryz.underlying75) <| hy (fun _ => y_move rfl) <| hend <| hsub (ρ' := [(15, _), (14, _), (13, _), (4, _), (3, _), (0, _), (1, _)]) ⟨rfl, rfl, rfl, rfl, rfl, rfl, rfl, trivial⟩ <| hthen <| hblock <| ?_
  refine hloop6 (fun i ks L A1 n1 c1 => st.waits.length - i) (fun i ks L A1 n1 c1 => [(15, .int .i64 (i : Nat))]) (fun i ks L A1 n1 c1 => [RBlk g3 27 [.slice A1 n1 c1], RMap SV st.gl (vals L)]) (fun i ks L A1 n1 c1 => [RRd 1 A1 n1 (bools ks)]) (fun i ks L A1 n1 c1 => n1 ≤ c1 ∧ i ≤ st.waits.length ∧ (ks, L) = rfold bs st i) 0 bs st.lasts A n c [(14, _), (13, _), (4, _), (3, _), (0, _), (1, _)] ⟨rfl, rfl, rfl, rfl, rfl, rfl, trivial⟩ [0, 2] rfl [0] rfl (⟨hc, Nat.zero_le _, by simp [rfold]⟩) ⟨rfl, trivial⟩ (fun i ks L A1 n1 c1 ⟨hc1, hi, hf⟩ => ?_)
  refine hseq <| hreg <| hy (fun _ => y_lss rfl rfl) <| hend <| hthen <| hseq <| ?_
  refine hif rfl (fun hlt => ?_) (fun hlt => ?_)
  · obtain ⟨cg, hcg⟩ : ∃ cg, st.waits[i]? = some cg := ⟨_, List.getElem?_eq_getElem (by omega)⟩
    have hfs := rfold_succ (keep := bs) hcg
    rw [← hf] at hfs
    refine hcskip <| hthen <| hseq <| hblock <| hseq <| hreg <| hy (fun _ => y_idxS1 rfl rfl Tryz.underlying75 sz81 hwA rfl (by omega)) <| hy (fun m => y_ld1 rfl ag81 ((m.ord 4 rfl).cell (j := i) (by rw [List.getElem?_map, hcg]; rfl))) <| hy (fun _ => y_assign rfl) <| hend <| hsub (ρ' := [(6, _), (16, _), (15, _), (14, _), (13, _), (4, _), (3, _), (0, _), (1, _)]) ⟨rfl, rfl, rfl, rfl, rfl, rfl, rfl, rfl, rfl, trivial⟩ <| hthen <| hseq <| hseq <| hreg <| hy (fun _ => y_move rfl) <| ?_
    refine hx (xh_callv rfl rfl Tryz.call38 (nextBitC (by omega)) [0] rfl [0] rfl ?_)
    rintro _ _ _ ⟨A12, n12, c12, rfl, rfl, rfl, hp⟩
    refine hfactL (fun m => rdX (m.rd 0 rfl)) ?_
    rintro ⟨hl_q, hA_q⟩
    refine hy (fun _ => (y_not rfl)) <| hend <| hsub (ρ' := [(21, _), (6, _), (16, _), (15, _), (14, _), (13, _), (4, _), (3, _), (0, _), (1, _)]) ⟨rfl, rfl, rfl, rfl, rfl, rfl, rfl, rfl, rfl, rfl, trivial⟩ <| hmemQ (X' := [_, _, _, _, _, _]) (S' := [_, _, _]) (fun _ m => m) <| hthen <| ?_
    refine hifb rfl (fun hb => ?_) (fun hb => ?_)
    · have hb' : ks.headD false = false := by simpa using hb
      refine hexit <| hthen_exit <| hqblock_exit <| hthen <| hreg <| hy (fun _ => y_add rfl rfl (w64 (by omega) (by omega))) <| hy (fun _ => y_move rfl) <| hend <| hsub (ρ' := [(15, _), (21, _), (6, _), (16, _), (14, _), (13, _), (4, _), (3, _), (0, _), (1, _)]) ⟨rfl, rfl, rfl, rfl, rfl, rfl, rfl, rfl, rfl, rfl, trivial⟩ <| ?_
      refine hnext6 (i + 1) ks.tail L A12 n12 c12 ⟨rfl, rfl, rfl, rfl, rfl, rfl, rfl, trivial⟩ [0, 0, 0, 0, 0, 0] rfl [0, 2] rfl (⟨hp, by omega, by rw [hfs]; unfold rstep; rw [if_neg (by rw [hb']; decide)]⟩) (by omega)
    · have hb' : ks.headD false = true := by simpa using hb
      rcases cg with ⟨p, r⟩ | ⟨a, c9⟩ | ⟨p⟩
      · have hrm : r ∈ rowsOf st := by
          unfold rowsOf
          exact List.mem_append_right _ (List.mem_filterMap.2 ⟨_, List.mem_of_getElem? hcg, rfl⟩)
        have hsr := hs r hrm
        obtain ⟨ri, hri⟩ := List.mem_iff_getElem?.1 hrm
        refine hfactC (fun m => rows_le (m.xres 5 rfl) hri) fun hrc => ?_
        refine hcskip <| hthen <| hseq <| hreg <| hy (fun _ => y_move rfl) <| hend <| hthen <| hblock <| hseq <| hreg <| hy (fun _ => y_tas rfl (show _ = Result.ok (Value.tuple #[.agg [SV p, r.val].toArray, .bool true]) _ by kernel_rfl)) <| hy (fun _ => y_extract rfl rfl) <| hy (fun _ => y_extract rfl rfl) <| hend <| hsub (ρ' := [(34, _), (33, _), (22, _), (21, _), (6, _), (16, _), (15, _), (14, _), (13, _), (4, _), (3, _), (0, _), (1, _)]) ⟨rfl, rfl, rfl, rfl, rfl, rfl, rfl, rfl, rfl, rfl, rfl, rfl, rfl, trivial⟩ <| hthen <| ?_
        refine hift rfl (rfl) ?_
        refine hseq <| hreg <| ?_
        refine hx (xh_alloc ti83 (fun g7 => ?_))
        refine hx0 (xh_stA 0 rfl rfl rfl sz83 rfl (by simp [SV, BRow.val, Value.oneCell']) rfl ?_)
        refine hend <| hmemQ (X' := [_, _, _, _, _, _, _]) (S' := [_, _, _]) (fun _ m => m) <| hthen <| hseq <| hseq <| hreg <| hy (fun _ => y_move rfl) <| ?_
        refine hx (xh_callv rfl rfl Tryz.call38 (nextBitC (by omega)) [1] rfl [0] rfl ?_)
        rintro _ _ _ ⟨A13, n13, c13, rfl, rfl, rfl, hp2⟩
        refine hfactL (fun m => rdX (m.rd 0 rfl)) ?_
        rintro ⟨hl_q2, hA_q2⟩
        refine hy (fun _ => (y_not rfl)) <| hend <| hsub (ρ' := [(37, _), (7, _), (34, _), (33, _), (22, _), (21, _), (6, _), (16, _), (15, _), (14, _), (13, _), (4, _), (3, _), (0, _), (1, _)]) ⟨rfl, rfl, rfl, rfl, rfl, rfl, rfl, rfl, rfl, rfl, rfl, rfl, rfl, rfl, rfl, trivial⟩ <| hmemQ (X' := [_, _, _, _, _, _, _]) (S' := [_, _, _, _]) (fun _ m => m) <| hthen <| ?_
        refine hifb rfl (fun hb2 => ?_) (fun hb2 => ?_)
        · have hb2' : ks.tail.headD false = false := by simpa using hb2
          refine hreg <| hy (fun _ => y_fld rfl fa83_1 (by decide)) <| hy (fun m => y_ld1 rfl ag63 (ld_blk (m.blk 1 rfl) rfl)) <| hy (fun _ => y_fld rfl fa83_1 (by decide)) <| hy (fun m => y_ld1 rfl ag63 (ld_blk (m.blk 1 rfl) rfl)) <| hy (fun _ => y_lenS rfl Tryz.underlying63) <| hy (fun _ => y_quo rfl rfl (by omega) (by omega) (w64 (by omega) (by omega))) <| hy (fun _ => y_slTo rfl rfl Tryz.underlying63 sz5 (show ((r.n / 2 : Nat) : Int) = _ by omega) (by omega)) <| hy (fun _ => y_fld rfl fa83_1 (by decide)) <| ?_
          refine hx0 (xh_st1a 1 rfl rfl rfl sz63 rfl (by first | exact Nat.le_of_ble_eq_true rfl | simp) ?_)
          refine hmemL (fun w m => m.eqX 0 rfl (show _ = RBlk g7 83 [SV p, r.half.val] from rfl)) ?_
          refine hend <| hsub (ρ' := [(37, _), (7, _), (34, _), (33, _), (22, _), (21, _), (6, _), (16, _), (15, _), (14, _), (13, _), (4, _), (3, _), (0, _), (1, _)]) ⟨rfl, rfl, rfl, rfl, rfl, rfl, rfl, rfl, rfl, rfl, rfl, rfl, rfl, rfl, rfl, trivial⟩ <| hmemQ (X' := [_, _, _, _, _, _, _]) (S' := [_, _, _, _]) (fun _ m => m) <| hthen <| hdrw [5] [(0, some 0), (1, some 0), (2, some 0), (3, some 0), (4, some 0), (5, none)] (by kernel_rfl) (by kernel_rfl) rfl 0 <| hty (fun m => y_ldN rfl ag83 sz83 (by simp) (m.blk 0 rfl).cells0) <| htyU (y_move rfl) <| htyU (y_nilp rfl) <| htyU (y_fld rfl fa77_2 (by decide)) <| hty (fun m => y_ld1 rfl ag74 (ld_blk (m.blk 3 rfl) rfl)) <| ?_
          refine htx (xh_call rfl Tryz.call39 (wmakeC) [2] rfl [] rfl ?_)
          rintro _ _ _ ⟨rfl, rfl, rfl⟩
          refine ⟨(fun h => absurd h (by decide)), ?_⟩
          refine htend <| hsub (ρ' := [(37, _), (7, _), (34, _), (33, _), (22, _), (21, _), (6, _), (16, _), (15, _), (14, _), (13, _), (4, _), (3, _), (0, _), (1, _)]) ⟨rfl, rfl, rfl, rfl, rfl, rfl, rfl, rfl, rfl, rfl, rfl, rfl, rfl, rfl, rfl, trivial⟩ <| hmemQ (X' := [_, _, _, _, _, _, _]) (S' := [_, _, _, _]) (fun _ m => m) <| hqblock <| hqblock <| hthen <| hreg <| hy (fun _ => y_add rfl rfl (w64 (by omega) (by omega))) <| hy (fun _ => y_move rfl) <| hend <| hsub (ρ' := [(15, _), (37, _), (7, _), (34, _), (33, _), (22, _), (21, _), (6, _), (16, _), (14, _), (13, _), (4, _), (3, _), (0, _), (1, _)]) ⟨rfl, rfl, rfl, rfl, rfl, rfl, rfl, rfl, rfl, rfl, rfl, rfl, rfl, rfl, rfl, trivial⟩ <| ?_
          refine hmemQ (fun w m => m.eqX 0 rfl (show _ = RMap SV st.gl (vals (aput L p r.half)) from congrArg (RMap SV st.gl) (vals_put _ _ _))) ?_
          refine hnext6 (i + 1) ks.tail.tail (aput L p r.half) A13 n13 c13 ⟨rfl, rfl, rfl, rfl, rfl, rfl, rfl, trivial⟩ [2, 0, 1, 1, 1, 1] rfl [0, 3] rfl (⟨hp2, by omega, by rw [hfs, rstep, if_pos hb', hb2']; rfl⟩) (by omega)
        · have hb2' : ks.tail.headD false = true := by simpa using hb2
          refine hcskip <| hthen <| hdrw [5] [(0, some 0), (1, some 0), (2, some 0), (3, some 0), (4, some 0), (5, none)] (by kernel_rfl) (by kernel_rfl) rfl 0 <| hty (fun m => y_ldN rfl ag83 sz83 (by simp) (m.blk 1 rfl).cells0) <| htyU (y_move rfl) <| htyU (y_nilp rfl) <| htyU (y_fld rfl fa77_2 (by decide)) <| hty (fun m => y_ld1 rfl ag74 (ld_blk (m.blk 3 rfl) rfl)) <| ?_
          refine htx (xh_call rfl Tryz.call39 (wmakeC) [2] rfl [] rfl ?_)
          rintro _ _ _ ⟨rfl, rfl, rfl⟩
          refine ⟨(fun h => absurd h (by decide)), ?_⟩
          refine htend <| hsub (ρ' := [(37, _), (7, _), (34, _), (33, _), (22, _), (21, _), (6, _), (16, _), (15, _), (14, _), (13, _), (4, _), (3, _), (0, _), (1, _)]) ⟨rfl, rfl, rfl, rfl, rfl, rfl, rfl, rfl, rfl, rfl, rfl, rfl, rfl, rfl, rfl, trivial⟩ <| hmemQ (X' := [_, _, _, _, _, _, _]) (S' := [_, _, _, _]) (fun _ m => m) <| hqblock <| hqblock <| hthen <| hreg <| hy (fun _ => y_add rfl rfl (w64 (by omega) (by omega))) <| hy (fun _ => y_move rfl) <| hend <| hsub (ρ' := [(15, _), (37, _), (7, _), (34, _), (33, _), (22, _), (21, _), (6, _), (16, _), (14, _), (13, _), (4, _), (3, _), (0, _), (1, _)]) ⟨rfl, rfl, rfl, rfl, rfl, rfl, rfl, rfl, rfl, rfl, rfl, rfl, rfl, rfl, rfl, trivial⟩ <| ?_
          refine hmemQ (fun w m => m.eqX 0 rfl (show _ = RMap SV st.gl (vals (aput L p r)) from congrArg (RMap SV st.gl) (vals_put _ _ _))) ?_
          refine hnext6 (i + 1) ks.tail.tail (aput L p r) A13 n13 c13 ⟨rfl, rfl, rfl, rfl, rfl, rfl, rfl, trivial⟩ [1, 0, 1, 1, 1, 1] rfl [0, 3] rfl (⟨hp2, by omega, by rw [hfs, rstep, if_pos hb', hb2']; rfl⟩) (by omega)
      · refine hcskip <| hthen <| hseq <| hreg <| hy (fun _ => y_move rfl) <| hend <| hthen <| hblock <| hseq <| hreg <| hy (fun _ => y_tas rfl (show _ = Result.ok (Value.tuple #[.agg [SV [], .slice none 0 0].toArray, .bool false]) _ by kernel_rfl)) <| hy (fun _ => y_extract rfl rfl) <| hy (fun _ => y_extract rfl rfl) <| hend <| hsub (ρ' := [(34, _), (33, _), (22, _), (21, _), (6, _), (16, _), (15, _), (14, _), (13, _), (4, _), (3, _), (0, _), (1, _)]) ⟨rfl, rfl, rfl, rfl, rfl, rfl, rfl, rfl, rfl, rfl, rfl, rfl, rfl, trivial⟩ <| hthen <| ?_
        refine hiff rfl (rfl) ?_
        refine hseq <| hreg <| hy (fun _ => y_assign rfl) <| hend <| hsub (ρ' := [(34, _), (33, _), (22, _), (21, _), (6, _), (16, _), (15, _), (14, _), (13, _), (4, _), (3, _), (0, _), (1, _)]) ⟨rfl, rfl, rfl, rfl, rfl, rfl, rfl, rfl, rfl, rfl, rfl, rfl, rfl, trivial⟩ <| hthen <| hdrw [8] [(0, some 0), (1, some 0), (2, some 0), (3, some 0), (4, some 0), (5, some 0), (6, some 0), (7, some 0), (8, none)] (by kernel_rfl) (by kernel_rfl) rfl 0 <| htyU (y_move rfl) <| htyU (y_move rfl) <| htyU (y_nilp rfl) <| htyU (y_fld rfl fa77_2 (by decide)) <| hty (fun m => y_ld1 rfl ag74 (ld_blk (m.blk 2 rfl) rfl)) <| htyU (y_mkf rfl rfl) <| htyU (y_nilm rfl (by kernel_rfl)) <| htyU (y_move rfl) <| ?_
        refine htx (xh_inv rfl rfl (fun w => by kernel_rfl) Tryz.call138 (nmakeC) [1] rfl [] rfl ?_)
        rintro _ _ _ ⟨rfl, rfl, rfl⟩
        refine ⟨(fun h => absurd h (by decide)), ?_⟩
        refine htend <| hsub (ρ' := [(34, _), (33, _), (22, _), (21, _), (6, _), (16, _), (15, _), (14, _), (13, _), (4, _), (3, _), (0, _), (1, _)]) ⟨rfl, rfl, rfl, rfl, rfl, rfl, rfl, rfl, rfl, rfl, rfl, rfl, rfl, trivial⟩ <| hmemQ (X' := [_, _, _, _, _, _]) (S' := [_, _, _]) (fun _ m => m) <| hqblock <| hqblock <| hthen <| hreg <| hy (fun _ => y_add rfl rfl (w64 (by omega) (by omega))) <| hy (fun _ => y_move rfl) <| hend <| hsub (ρ' := [(15, _), (34, _), (33, _), (22, _), (21, _), (6, _), (16, _), (14, _), (13, _), (4, _), (3, _), (0, _), (1, _)]) ⟨rfl, rfl, rfl, rfl, rfl, rfl, rfl, rfl, rfl, rfl, rfl, rfl, rfl, trivial⟩ <| ?_
        refine hnext6 (i + 1) ks.tail (apl L (.renamed a c9)) A12 n12 c12 ⟨rfl, rfl, rfl, rfl, rfl, rfl, rfl, trivial⟩ [1, 0, 0, 0, 0, 0] rfl [0, 2] rfl (⟨hp, by omega, by rw [hfs]; unfold rstep; rw [if_pos hb']; rfl⟩) (by omega)
      · exact absurd rfl (hR _ (List.mem_of_getElem? hcg) _)
  · obtain rfl : i = st.waits.length := by omega
    have hL : L = (rfold bs st st.waits.length).2 := by rw [← hf]
    refine hexit <| hthen_exit <| hthen_exit <| hqblock_exit <| hthen <| hreg <| hy (fun _ => y_move rfl) <| hy (fun _ => y_move rfl) <| hy (fun _ => y_move rfl) <| hy (fun _ => y_move rfl) <| hy (fun _ => y_nilp rfl) <| hy (fun _ => y_fld rfl fa77_2 (by decide)) <| hy (fun m => y_ld1 rfl ag74 (ld_blk (m.blk 2 rfl) rfl)) <| ?_
    refine hx (xh_call rfl Tryz.call40 (mcloneC) [1] rfl [] rfl ?_)
    rintro _ _ _ ⟨g1, rfl, rfl, rfl⟩
    refine hy (fun _ => y_nilp rfl) <| hy (fun _ => y_fld rfl fa77_1 (by decide)) <| ?_
    refine hx0 (xh_st1a 3 rfl rfl rfl sz74 rfl (by first | exact Nat.le_of_ble_eq_true rfl | simp) ?_)
    refine hy (fun _ => y_nilp rfl) <| hy (fun _ => y_fld rfl fa77_3 (by decide)) <| ?_
    refine hx0 (xh_st1a 0 rfl rfl rfl sz75 rfl (by first | exact Nat.le_of_ble_eq_true rfl | simp) ?_)
    refine hy (fun _ => y_nilp rfl) <| hy (fun _ => y_fld rfl fa77_4 (by decide)) <| ?_
    refine hx0 (xh_st1a 0 rfl rfl rfl sz3 rfl (by first | exact Nat.le_of_ble_eq_true rfl | simp) ?_)
    refine hend <| hsub (ρ' := [(16, _), (15, _), (14, _), (13, _), (4, _), (3, _), (0, _), (1, _)]) ⟨rfl, rfl, rfl, rfl, rfl, rfl, rfl, rfl, trivial⟩ <| hmemQ (X' := [_, _, _, _, _, _, _]) (S' := [_, _]) (fun _ m => m) <| ?_
    refine hmemQ (fun w m => m.addX (r' := ROwn 81 1 (.slice none 0 0) 0 []) (.refl _ _) (Own.nil _ _ _ _) (fun k hk => hk.elim)) ?_
    have e : ∀ gs, st.started bs gs = { st with gs := gs, seen := L, lasts := L, waits := [], wA := none, wc := 0, power := -1 } := fun gs => by rw [hL]; rfl
    refine hmemQ (fun w m => m.eqX 1 rfl (show _ = RBlk g 77 (dcells (st.started bs g1)) from rfl)) ?_
    refine hmemQ (fun w m => m.eqX 3 rfl (show _ = RMap SV g1 (vals (st.started bs g1).seen) from by rw [hL]; rfl)) ?_
    refine hmemQ (fun w m => m.eqX 3 rfl (show _ = RMap SV st.gl (vals (st.started bs g1).lasts) from by rw [hL]; rfl)) ?_
    refine hmemQ (X' := RRows (rowsOf (st.started bs g1)) :: _) (fun w m => (m.perm (takeR_perm [7] _ [_] _ rfl)).rowHalf (rows_started g1)) ?_
    refine hmemQ (X' := RDisk g (st.started bs g1) :: _) (fun w m => (m.perm (takeR_perm [3, 2, 1, 1, 0] _ [_, _, _, _, _] _ rfl)).pack) ?_
    exact hret0 trivial rfl [0] rfl [] rfl ⟨_, rfl, rfl, rfl⟩
end Go.Proofs.YtlbecpekemlllaaGreat
end
section
/- Contracts: disks of the program as the document's (for seats without slots: Slots7 has them too). -/
set_option linter.unusedVariables false
set_option linter.unusedSimpArgs false
set_option maxRecDepth 20000
namespace Go.Proofs.YtlbecpekemlllaaGreat
open Go.Eng Go.Hx
theorem dreadC {g : Nat} {st : DSt} {d : RD} {kk : Nat} {p : List UInt8} (hD : DS st d kk) : Con Tryz.prog 42 [.pointer (some ⟨g, 0, none⟩), .string (strOf p)] [RDisk g st] [] (fun v_ X_ S_ => ∃ v, v_ = (.tuple #[v, .int .i64 (d.readE p)]) ∧ X_ = [RDisk g st, ROwn 5 1 v (d.readB p).length (b8s (d.readB p))] ∧ S_ = []) := by
  rw [hD.readE, hD.readB]
  exact readC hD.ok.sm
theorem dwriteC {g : Nat} {st : DSt} {d : RD} {kk : Nat} {p : List UInt8} {A : Option Addr} {n c : Nat} {l : List UInt8} (hD : DS st d kk) (hkk : kk ≤ 99000) (hl : l.length = n) (hn : n ≤ 1048576) : Con Tryz.prog 33 [.pointer (some ⟨g, 0, none⟩), .string (strOf p), .slice A n c] [RDisk g st] [RRd 1 A n (b8s l)] (fun v_ X_ S_ => ∃ st1, v_ = (.int .i64 (d.writeE p l)) ∧ X_ = [RDisk g st1] ∧ S_ = [] ∧ (DS st1 (d.write p l) (kk + 1))) := by
  exact Con.mono (writeC hD.ok (by omega) hn) (fun v X S h => by
    obtain ⟨st1, B, c1, A1, c2, h1, h2, h3, hw⟩ := h
    have hW := hD.write hl hn hw
    exact ⟨st1, by rw [hW.2]; exact h1, h2, h3, hW.1⟩)
theorem dsyncC {g : Nat} {st : DSt} {d : RD} {kk : Nat} (hD : DS st d kk) : Con Tryz.prog 34 [.pointer (some ⟨g, 0, none⟩)] [RDisk g st] [] (fun v_ X_ S_ => ∃ st1, v_ = (.int .i64 d.syncE) ∧ X_ = [RDisk g st1] ∧ S_ = [] ∧ (DS st1 d.sync kk)) := by
  exact Con.mono (syncC hD.ok) (fun v X S h => by
    obtain ⟨st1, gl, h1, h2, h3, hw⟩ := h
    have hW := hD.sync hw
    exact ⟨st1, by rw [hW.2]; exact h1, h2, h3, hW.1⟩)
theorem drenameC {g : Nat} {st : DSt} {d : RD} {kk : Nat} {a c : List UInt8} (hD : DS st d kk) (hkk : kk ≤ 99000) : Con Tryz.prog 35 [.pointer (some ⟨g, 0, none⟩), .string (strOf a), .string (strOf c)] [RDisk g st] [] (fun v_ X_ S_ => ∃ st1, v_ = (.int .i64 (d.renameE a c)) ∧ X_ = [RDisk g st1] ∧ S_ = [] ∧ (DS st1 (d.rename a c) (kk + 1))) := by
  exact Con.mono (renameC hD.ok (by omega)) (fun v X S h => by
    obtain ⟨st1, A, j, h1, h2, h3, hw⟩ := h
    have hW := hD.rename hw
    exact ⟨st1, by rw [hW.2]; exact h1, h2, h3, hW.1⟩)
theorem drestartC {g : Nat} {st : DSt} {d : RD} {kk : Nat} {A : Option Addr} {n c : Nat} {bs : List Bool} (hD : DS st d kk) (hkk : kk ≤ 99000) (hnr : ∀ c ∈ d.waits, c.1 ≠ 2) (hc : n ≤ c) : Con Tryz.prog 15 [.pointer (some ⟨g, 0, none⟩), .slice A n c] [RDisk g st] [RRd 1 A n (bools bs)] (fun v_ X_ S_ => ∃ st1, v_ = (.tuple #[]) ∧ X_ = [RDisk g st1] ∧ S_ = [] ∧ (DS st1 (d.restart bs) kk)) := by
  have hR : ∀ c ∈ st.waits, ∀ p, c ≠ .removed p := by
    rintro c hc p rfl
    have h1 : Chg.rc (.removed p) ∈ d.waits := by rw [← hD.waits]; exact List.mem_map.2 ⟨_, hc, rfl⟩
    exact hnr _ h1 rfl
  have hw : st.waits.length ≤ 1000000 := by have := hD.ok.rest; omega
  exact Con.mono (restartNC hc hR hD.ok.sm hw) (fun v X S h => by
    obtain ⟨gs, h1, h2, h3⟩ := h
    exact ⟨_, h1, h2, h3, hD.restart bs gs⟩)
end Go.Proofs.YtlbecpekemlllaaGreat
end
section
/- Contracts: slices.Clone, BinarySearchFunc, Insert, over rows of digests. -/
set_option linter.unusedVariables false
set_option linter.unusedSimpArgs false
set_option maxRecDepth 20000
namespace Go.Proofs.YtlbecpekemlllaaGreat
open Go.Eng Go.Hx
theorem sclone (A : Option Addr) (n c : Nat) (ds : List (List UInt8)) (w : World) (hr : Rd w 32 A n (dc ds)) (hD : D32 ds) (hn : n ≤ 1000000) :
    Calls Tryz.prog 79 #[.slice A n c] w fun e w' => ∃ v, e = .returned v ∧ Own w' w.heap.size 23 32 v n (dc ds) ∧ Fr No w w' := by
  have hl := dc_len hr hD
  refine enter (N := 8) Tryz.func79 rfl rfl (by simp) ?_
  refine cseq <| creg <| nq (y_assign rfl) <| nend <| qthen <| cseq <| cseq <| creg <| nq (y_move rfl) <| nq (y_eqSn rfl rfl Tryz.underlying24) <| nend <| qsub (sub_cons (t := 4) rfl <| sub_cons (t := 2) rfl <| sub_cons (t := 0) rfl <| sub_nil) <| qthen <| ?_
  cases A with
  | none =>
    have h0 : n = 0 := by
      rcases Nat.eq_zero_or_pos n with h | h
      · exact h
      · exact absurd rfl (hr.2.1 h)
    subst h0
    obtain rfl : ds = [] := List.eq_nil_of_length_eq_zero hl
    refine cift rfl (rfl) ?_
    refine cseq <| creg <| nq (y_assign rfl) <| nend <| qthen <| cret <| qthen_ret <| ?_
    exact ret1 trivial rfl rfl ⟨_, rfl, Own.nil _ _ _ _, Fr.refl _ _⟩
  | some a =>
    refine ciff rfl (rfl) ?_
    refine cskip <| qthen <| cseq <| creg <| ?_
    refine nx (x_bsl0 Tryz.underlying24 ti23 fun g w1 hg hf1 hb1 => ?_)
    refine nq (y_move rfl) <| ?_
    refine nx (x_app rfl rfl Tryz.underlying24 Tryz.underlying24 (by exact .inl rfl) ti23 rfl (Own.made0 hb1 hg) (Src.of_rd (hr.fr0 hf1)) dc_oneCell (by unfold maxLen; omega) (by omega) hf1.size fun v w2 ho hf2 hv => ?_)
    refine nq (y_assign rfl) <| nend <| qsub (sub_cons (t := 2) rfl <| sub_cons (t := 4) rfl <| sub_cons (t := 0) rfl <| sub_nil) <| qthen <| cret <| ?_
    refine ret1 trivial rfl rfl ⟨v, rfl, ?_, hf1.new hf2 (fun i hi => by have : i = g := hi; omega)⟩
    simpa using ho
theorem rise_lt : ∀ {l : List (List UInt8)}, Rise l → ∀ (j i : Nat), i < j → j < l.length → cb (l.getD i []) (l.getD j []) < 0
  | [], _, j, i, _, h => by simp at h
  | [_], _, j, i, h1, h2 => by simp at h2; omega
  | a :: b :: r, h, 0, i, h1, _ => by omega
  | a :: b :: r, h, j + 1, 0, _, h2 => by
    simp only [List.getD_cons_zero, List.getD_cons_succ]
    cases j with
    | zero => simpa using h.1
    | succ j =>
      have h3 := rise_lt h.2 (j + 1) 0 (by omega) (by simpa using h2)
      simp only [List.getD_cons_zero] at h3
      have h4 := cb_trans a b ((b :: r).getD (j + 1) []) (by have := h.1; omega) (by omega)
      have h5 : cb a ((b :: r).getD (j + 1) []) ≠ 0 := by
        intro h0
        have h6 := cb_eq _ _ h0
        rw [← h6] at h3
        have h7 := cb_neg a b
        have := h.1
        omega
      omega
  | a :: b :: r, h, j + 1, i + 1, h1, h2 => by
    simp only [List.getD_cons_succ]
    exact rise_lt h.2 j i (by omega) (by simpa using h2)
/-- where a binary search ends -/
structure Found (ds : List (List UInt8)) (d : List UInt8) (k : Nat) : Prop where
  le : k ≤ ds.length
  lt : ∀ i, i < k → cb (ds.getD i []) d < 0
  ge : ∀ i, k ≤ i → i < ds.length → ¬ cb (ds.getD i []) d < 0
theorem rise_down {ds : List (List UInt8)} (h : Rise ds) {d : List UInt8} {j i : Nat} (hij : i ≤ j) (hj : j < ds.length) (hc : cb (ds.getD j []) d < 0) : cb (ds.getD i []) d < 0 := by
  rcases Nat.lt_or_ge i j with h1 | h1
  · have h2 := rise_lt h j i h1 hj
    have h3 := cb_trans (ds.getD i []) (ds.getD j []) d (by omega) (by omega)
    have h4 : cb (ds.getD i []) d ≠ 0 := by
      intro h0
      have h5 := cb_eq _ _ h0
      rw [h5] at h2
      have := cb_neg (ds.getD j []) d
      omega
    omega
  · have : i = j := by omega
    rw [this]; exact hc
theorem bsearch (A : Option Addr) (n c : Nat) (ds : List (List UInt8)) (d : List UInt8) (w : World) (hr : Rd w 32 A n (dc ds)) (hD : D32 ds) (hR : Rise ds) (hd : d.length = 32) (hn : n ≤ 1000000) :
    Calls Tryz.prog 77 #[.slice A n c, .agg (b8s d).toArray, .func (.func 78) #[] #[]] w fun e w' => ∃ k, e = .returned (.tuple #[.int .i64 (k : Nat), .bool (decide (k < n ∧ cb (ds.getD k []) d = 0))]) ∧ Found ds d k ∧ Fr No w w' := by
  have hl := dc_len hr hD
  have dl : (b8s d).length = 32 := by rw [b8s_length]; exact hd
  refine enter (N := 49) Tryz.func77 rfl rfl (by simp) ?_
  refine cseq <| creg <| ?_
  refine nx (x_box rfl fun g1 w1 hg1 hf1 hb1 => ?_)
  rw [cells_agg] at hb1
  have hB : ∀ w', Fr No w1 w' → Blk w' g1 23 (b8s d) := fun w' f => hb1.fr0 f
  have hRd : ∀ w', Fr No w1 w' → Rd w' 32 A n (dc ds) := fun w' f => (hr.fr0 hf1).fr0 f
  refine nq (y_assign rfl) <| nq (y_assign rfl) <| nend <| qthen <| cseq <| creg <| nq (y_move rfl) <| nq (y_lenS rfl Tryz.underlying24) <| nq (y_assign rfl) <| nend <| qsub (sub_cons (t := 8) rfl <| sub_cons (t := 7) rfl <| sub_cons (t := 6) rfl <| sub_cons (t := 4) rfl <| sub_cons (t := 0) rfl <| sub_cons (t := 1) rfl <| sub_cons (t := 2) rfl <| sub_nil) <| qthen <| cseq <| creg <| nq (y_move rfl) <| nq (y_assign rfl) <| nq (y_assign rfl) <| nend <| qsub (sub_cons (t := 10) rfl <| sub_cons (t := 9) rfl <| sub_cons (t := 8) rfl <| sub_cons (t := 7) rfl <| sub_cons (t := 6) rfl <| sub_cons (t := 4) rfl <| sub_cons (t := 0) rfl <| sub_cons (t := 1) rfl <| sub_cons (t := 2) rfl <| sub_nil) <| qthen <| cseq <| cblock <| ?_
  refine cloop2 (fun i j => j - i) (fun i j => [(0, .slice A n c), (2, .func (.func 78) #[] #[]), (4, .pointer (some ⟨g1, 0, none⟩)), (8, .int .i64 (n : Int)), (9, .int .i64 (i : Nat)), (10, .int .i64 (j : Nat))]) (fun i j w' => i ≤ j ∧ j ≤ n ∧ (∀ q, q < i → cb (ds.getD q []) d < 0) ∧ (∀ q, j ≤ q → q < n → ¬ cb (ds.getD q []) d < 0) ∧ Fr No w1 w') 0 n (⟨Nat.zero_le _, Nat.le_refl _, fun q hq => absurd hq (by omega), fun q h1 h2 => absurd h2 (by omega), Fr.refl _ _⟩) (sub_cons (t := 0) rfl <| sub_cons (t := 2) rfl <| sub_cons (t := 4) rfl <| sub_cons (t := 8) rfl <| sub_cons (t := 9) rfl <| sub_cons (t := 10) rfl <| sub_nil) (fun i j w2 ⟨hij, hjn, hlt, hge, hf2⟩ => ?_)
  refine cseq <| cseq <| creg <| nq (y_move rfl) <| nq (y_move rfl) <| nq (y_lss rfl rfl) <| nend <| qsub (sub_cons (t := 17) rfl <| sub_cons (t := 0) rfl <| sub_cons (t := 2) rfl <| sub_cons (t := 4) rfl <| sub_cons (t := 8) rfl <| sub_cons (t := 9) rfl <| sub_cons (t := 10) rfl <| sub_nil) <| qthen <| ?_
  refine cif rfl (fun h => ?_) (fun h => ?_)
  · have hm : i + j < 2000001 := by omega
    have hh : (i + j) / 2 < n := by omega
    have hhl : (i + j) / 2 < ds.length := by omega
    refine cskip <| qthen <| cblock <| cseq <| creg <| nq (y_move rfl) <| nq (y_move rfl) <| nq (yV (y_add rfl rfl (w64 (by omega) (by omega))) ((show Value.int .i64 ((i : Int) + (j : Int)) = .int .i64 ((i + j : Nat) : Int) by congr 1))) <| nq (y_conv rfl Tryz.underlying3 Tryz.underlying108 ((show IntKind.u64.wrap ((i + j : Nat) : Int) = ((i + j : Nat) : Int) by simp [IntKind.wrap, IntKind.signed, IntKind.bits]; omega))) <| nq (y_shr (p := 2) rfl rfl (by decide) (by decide) (by decide)) <| nq (y_conv rfl Tryz.underlying108 Tryz.underlying3 ((show IntKind.i64.wrap (((i + j : Nat) : Int) / 2) = (((i + j) / 2 : Nat) : Int) by rw [w64 (by omega) (by omega)]; omega))) <| nq (y_assign rfl) <| nend <| qsub (sub_cons (t := 11) rfl <| sub_cons (t := 17) rfl <| sub_cons (t := 0) rfl <| sub_cons (t := 2) rfl <| sub_cons (t := 4) rfl <| sub_cons (t := 8) rfl <| sub_cons (t := 9) rfl <| sub_cons (t := 10) rfl <| sub_nil) <| qthen <| cseq <| ?_
    refine cdrw [(0, false), (1, false), (2, false), (3, false), (4, false), (5, false), (6, true), (7, false)] (by kernel_rfl) (by kernel_rfl) rfl (fun w' => Fr No w1 w') (hf2.trans0 (Fr.drew _)) (fun w3 hf3 hS3 => ?_)
    refine sq (fun w_ hS_ => y_move rfl) <| sq (fun w_ hS_ => y_move rfl) <| sq (fun w_ hS_ => y_move rfl) <| sq (fun w_ hS_ => y_idxS rfl rfl Tryz.underlying24 sz23 hr.2.1 rfl (by omega)) <| sq (fun w_ hS_ => y_ldN rfl ag23 sz23 ((by rw [b8s_length]; exact dc_getD hD hhl)) (((hRd _ hS_).dig hD hhl))) <| sq (fun w_ hS_ => y_ldN rfl ag23 sz23 dl ((hB _ hS_).cells0)) <| ?_
    refine sx (x_callv rfl rfl Tryz.call78 (first := []) (cap := []) (compare _ d _ (dc_getD hD hhl) hd) ?_)
    rintro e_ w4 ⟨rfl, hf4⟩
    refine ⟨_, rfl, ?_⟩
    refine ⟨hS3.trans0 hf4, ?_⟩
    have hS4 := hS3.trans0 hf4
    refine sq (fun w_ hS_ => y_lss rfl rfl) <| send <| qsub (sub_cons (t := 31) rfl <| sub_cons (t := 11) rfl <| sub_cons (t := 17) rfl <| sub_cons (t := 0) rfl <| sub_cons (t := 2) rfl <| sub_cons (t := 4) rfl <| sub_cons (t := 8) rfl <| sub_cons (t := 9) rfl <| sub_cons (t := 10) rfl <| sub_nil) <| qthen <| ?_
    refine cif rfl (fun h2 => ?_) (fun h2 => ?_)
    · refine creg <| nq (y_move rfl) <| nq (yV (y_add rfl rfl (w64 (by omega) (by omega))) ((show Value.int .i64 ((((i + j) / 2 : Nat) : Int) + 1) = .int .i64 (((i + j) / 2 + 1 : Nat) : Int) by congr 1))) <| nq (y_assign rfl) <| nend <| qsub (sub_cons (t := 9) rfl <| sub_cons (t := 31) rfl <| sub_cons (t := 11) rfl <| sub_cons (t := 17) rfl <| sub_cons (t := 0) rfl <| sub_cons (t := 2) rfl <| sub_cons (t := 4) rfl <| sub_cons (t := 8) rfl <| sub_cons (t := 10) rfl <| sub_nil) <| qblock <| ?_
      refine qloop2 ((i + j) / 2 + 1) j (sub_cons (t := 0) rfl <| sub_cons (t := 2) rfl <| sub_cons (t := 4) rfl <| sub_cons (t := 8) rfl <| sub_cons (t := 9) rfl <| sub_cons (t := 10) rfl <| sub_nil) (⟨by omega, hjn, fun q hq => rise_down hR (show q ≤ (i + j) / 2 by omega) hhl h2, hge, hS4⟩) (by omega)
    · refine creg <| nq (y_move rfl) <| nq (y_assign rfl) <| nend <| qsub (sub_cons (t := 10) rfl <| sub_cons (t := 31) rfl <| sub_cons (t := 11) rfl <| sub_cons (t := 17) rfl <| sub_cons (t := 0) rfl <| sub_cons (t := 2) rfl <| sub_cons (t := 4) rfl <| sub_cons (t := 8) rfl <| sub_cons (t := 9) rfl <| sub_nil) <| qblock <| ?_
      refine qloop2 i ((i + j) / 2) (sub_cons (t := 0) rfl <| sub_cons (t := 2) rfl <| sub_cons (t := 4) rfl <| sub_cons (t := 8) rfl <| sub_cons (t := 9) rfl <| sub_cons (t := 10) rfl <| sub_nil) (⟨by omega, by omega, hlt, fun q h3 h4 h5 => h2 (rise_down hR h3 (by omega) h5), hS4⟩) (by omega)
  · obtain rfl : i = j := by omega
    refine cexit <| qthen_exit <| qthen_exit <| qblock_exit <| qthen <| cseq <| ?_
    refine cdrw [(0, false), (1, false), (2, false), (3, false), (4, false), (5, false), (6, false), (7, false), (8, false), (9, false), (10, false), (11, true), (12, false), (13, false), (14, false), (15, false)] (by kernel_rfl) (by kernel_rfl) rfl (fun w' => Fr No w1 w') (hf2.trans0 (Fr.drew _)) (fun w3 hf3 hS3 => ?_)
    have hF : Found ds d i := ⟨by omega, hlt, fun q h1 h2 => hge q h1 (by omega)⟩
    refine sq (fun w_ hS_ => y_move rfl) <| sq (fun w_ hS_ => y_move rfl) <| sq (fun w_ hS_ => y_move rfl) <| sq (fun w_ hS_ => y_lss rfl rfl) <| sq (fun w_ hS_ => y_move rfl) <| ?_
    refine ssplit 39 rfl (fun h2 => ?_) (fun h2 => ?_)
    · have hil : i < ds.length := by omega
      refine sqg (o := _) rfl rfl rfl (fun w_ hS_ => y_move rfl) <| sqg (o := _) rfl rfl rfl (fun w_ hS_ => y_move rfl) <| sqg (o := _) rfl rfl rfl (fun w_ hS_ => y_move rfl) <| sqg (o := _) rfl rfl rfl (fun w_ hS_ => y_idxS rfl rfl Tryz.underlying24 sz23 hr.2.1 rfl (by omega)) <| sqg (o := _) rfl rfl rfl (fun w_ hS_ => y_ldN rfl ag23 sz23 ((by rw [b8s_length]; exact dc_getD hD hil)) (((hRd _ hS_).dig hD hil))) <| sqg (o := _) rfl rfl rfl (fun w_ hS_ => y_ldN rfl ag23 sz23 dl ((hB _ hS_).cells0)) <| ?_
      refine sxg rfl rfl rfl (x_callv rfl rfl Tryz.call78 (first := []) (cap := []) (compare _ d _ (dc_getD hD hil) hd) ?_)
      rintro e_ w4 ⟨rfl, hf4⟩
      refine ⟨_, rfl, ?_⟩
      refine ⟨hS3.trans0 hf4, ?_⟩
      have hS4 := hS3.trans0 hf4
      refine sqg (o := _) rfl rfl rfl (fun w_ hS_ => y_eql rfl rfl) <| sq (fun w_ hS_ => y_pickT rfl rfl) <| sq (fun w_ hS_ => y_assign rfl) <| sq (fun w_ hS_ => y_assign rfl) <| send <| qsub (sub_cons (t := 7) rfl <| sub_cons (t := 6) rfl <| sub_cons (t := 17) rfl <| sub_cons (t := 0) rfl <| sub_cons (t := 2) rfl <| sub_cons (t := 4) rfl <| sub_cons (t := 8) rfl <| sub_cons (t := 9) rfl <| sub_cons (t := 10) rfl <| sub_nil) <| qthen <| cret <| ?_
      refine ret2 trivial rfl rfl rfl ⟨i, ?_, hF, hf1.trans0 hS4⟩
      simp only [show i < n by omega, true_and]
    · refine sskip rfl rfl rfl (by decide) <| sskip rfl rfl rfl (by decide) <| sskip rfl rfl rfl (by decide) <| sskip rfl rfl rfl (by decide) <| sskip rfl rfl rfl (by decide) <| sskip rfl rfl rfl (by decide) <| sskip rfl rfl rfl (by decide) <| sskip rfl rfl rfl (by decide) <| sq (fun w_ hS_ => y_pickF rfl rfl) <| sq (fun w_ hS_ => y_assign rfl) <| sq (fun w_ hS_ => y_assign rfl) <| send <| qsub (sub_cons (t := 7) rfl <| sub_cons (t := 6) rfl <| sub_cons (t := 17) rfl <| sub_cons (t := 0) rfl <| sub_cons (t := 2) rfl <| sub_cons (t := 4) rfl <| sub_cons (t := 8) rfl <| sub_cons (t := 9) rfl <| sub_cons (t := 10) rfl <| sub_nil) <| qthen <| cret <| ?_
      refine ret2 trivial rfl rfl rfl ⟨i, ?_, hF, hf1.trans0 hS3⟩
      simp only [show ¬ i < n by omega, false_and, decide_false]
theorem ins_grow {xs rest vs ys : List Value} {p m q : Nat} (hx : xs.length = p) (hv : vs.length = m) (hy : ys.length = q) (hl : m + q ≤ rest.length) :
    (splice (splice (xs ++ rest) p vs) (p + m) ys).take (p + m + q) = xs ++ vs ++ ys ∧ (splice (splice (xs ++ rest) p vs) (p + m) ys).length = (xs ++ rest).length := by
  have e1 : xs ++ rest = xs ++ rest.take m ++ rest.drop m := by rw [List.append_assoc, List.take_append_drop]
  have e2 : splice (xs ++ rest) p vs = xs ++ vs ++ rest.drop m := by
    rw [e1]; exact splice_app hx (by rw [hv, List.length_take]; omega)
  have e3 : xs ++ vs ++ rest.drop m = (xs ++ vs) ++ (rest.drop m).take q ++ (rest.drop m).drop q := by rw [List.append_assoc (xs ++ vs), List.take_append_drop]
  have e4 : splice (splice (xs ++ rest) p vs) (p + m) ys = (xs ++ vs) ++ ys ++ (rest.drop m).drop q := by
    rw [e2, e3]; exact splice_app (by simp [hx, hv]) (by rw [hy, List.length_take, List.length_drop]; omega)
  rw [e4]
  refine ⟨?_, by simp; omega⟩
  have : p + m + q = (xs ++ vs ++ ys).length := by simp [hx, hv, hy]; omega
  rw [this, List.take_left]
theorem ins_room {cur xs vs ys : List Value} {o p m q : Nat} (hw : (cur.drop o).take (p + q) = xs ++ ys) (hx : xs.length = p) (hv : vs.length = m) (hy : ys.length = q) (hl : o + (p + m + q) ≤ cur.length) :
    ((splice (splice cur (o + p + m) ys) (o + p) vs).drop o).take (p + m + q) = xs ++ vs ++ ys ∧ (splice (splice cur (o + p + m) ys) (o + p) vs).length = cur.length := by
  have hxs : (cur.drop o).take p = xs := by
    have := congrArg (List.take p) hw
    rw [List.take_take, Nat.min_eq_left (by omega), ← hx, List.take_left] at this
    rw [← hx]; exact this
  have e0 : cur = cur.take o ++ (xs ++ (cur.drop o).drop p) := by
    conv => lhs; rw [← List.take_append_drop o cur]
    congr 1
    conv => lhs; rw [← List.take_append_drop p (cur.drop o), hxs]
  generalize hrest : (cur.drop o).drop p = rest at e0
  have hrl : rest.length = cur.length - o - p := by rw [← hrest, List.length_drop, List.length_drop]
  generalize hpre : cur.take o = pre at e0
  have hpl : pre.length = o := by rw [← hpre, List.length_take]; omega
  have e1 : cur = (pre ++ xs ++ rest.take m) ++ (rest.drop m).take q ++ (rest.drop m).drop q := by
    rw [List.append_assoc _ _ ((rest.drop m).drop q), List.take_append_drop, List.append_assoc, List.take_append_drop, List.append_assoc]
    exact e0
  have e2 : splice cur (o + p + m) ys = (pre ++ xs ++ rest.take m) ++ ys ++ (rest.drop m).drop q := by
    rw [e1]; exact splice_app (by simp [hpl, hx]; omega) (by rw [hy, List.length_take, List.length_drop]; omega)
  have e3 : (pre ++ xs ++ rest.take m) ++ ys ++ (rest.drop m).drop q = (pre ++ xs) ++ rest.take m ++ (ys ++ (rest.drop m).drop q) := by simp
  have e4 : splice (splice cur (o + p + m) ys) (o + p) vs = (pre ++ xs) ++ vs ++ (ys ++ (rest.drop m).drop q) := by
    rw [e2, e3]; exact splice_app (by simp [hpl, hx]) (by rw [hv, List.length_take]; omega)
  rw [e4]
  refine ⟨?_, ?_⟩
  · have e5 : (pre ++ xs) ++ vs ++ (ys ++ (rest.drop m).drop q) = pre ++ ((xs ++ vs ++ ys) ++ (rest.drop m).drop q) := by simp
    rw [e5, ← hpl, List.drop_left]
    have : p + m + q = (xs ++ vs ++ ys).length := by simp [hx, hv, hy]; omega
    rw [this, List.take_left]
  · simp [hpl, hx, hv, hy, hrl]; omega
theorem slFrom_val {g o a sz c m k : Nat} (h : c ≠ a) : Value.slice (if c = a then some (⟨g, o, none⟩ : Addr) else (some (⟨g, o, none⟩ : Addr)).map (·.add (a * sz))) m k = .slice (some ⟨g, o + a * sz, none⟩) m k := by
  rw [if_neg h, Option.map_some, addr_add]
theorem insert (b : Nat) (v : Value) (n i g2 : Nat) (bt : TypeId) (ds : List (List UInt8)) (d : List UInt8) (w : World) (ho : Own w b 23 32 v n (dc ds)) (hD : D32 ds) (hd : d.length = 32) (hi : i ≤ n) (hn : n ≤ 1000000) (hb : b ≤ w.heap.size) (h2 : w.heap[g2]? = some (.cells (dc [d]).toArray bt (0, 0))) (hne : ¬ vblk v g2) :
    Calls Tryz.prog 80 #[v, .int .i64 (i : Nat), .slice (some ⟨g2, 0, none⟩) 1 1] w fun e w' => ∃ v', e = .returned v' ∧ Own w' b 23 32 v' (n + 1) (dc (ds.take i ++ [d] ++ ds.drop i)) ∧ Fr (vblk v) w w' := by
  obtain ⟨A, c, rfl, hc⟩ := ho.slice
  have hr := (Own.rd ho).2.2
  have hl := dc_len hr hD
  have d32 : (dc [d]).length = 32 := by rw [dc_one, b8s_length]; exact hd
  have hb2 : Blk w g2 bt (dc [d]) := ⟨(0, 0), h2, fun i _ => by simp, Nat.le_refl _⟩
  have r2 : Rd w 32 (some ⟨g2, 0, none⟩) 1 (dc [d]) := Rd.of_blk hb2 (by rw [d32])
  have hDt : D32 (ds.take i) := fun x hx => hD x (List.mem_of_mem_take hx)
  have hDd : D32 (ds.drop i) := fun x hx => hD x (List.mem_of_mem_drop hx)
  have lt : (dc (ds.take i)).length = i * 32 := by rw [dc_length hDt, List.length_take]; congr 1; omega
  have ld : (dc (ds.drop i)).length = (n - i) * 32 := by rw [dc_length hDd, List.length_drop, hl]
  refine enter (N := 95) Tryz.func80 rfl rfl (by simp) ?_
  refine cseq <| creg <| nq (y_assign rfl) <| nend <| qthen <| cseq <| creg <| nq (y_move rfl) <| nq (y_move rfl) <| nq (y_slFrom rfl rfl Tryz.underlying24 sz23 rfl hi) <| nend <| qsub (sub_cons (t := 6) rfl <| sub_cons (t := 0) rfl <| sub_cons (t := 1) rfl <| sub_cons (t := 2) rfl <| sub_nil) <| qthen <| cseq <| creg <| nq (y_move rfl) <| nq (y_lenS rfl Tryz.underlying24) <| nq (y_assign rfl) <| nend <| qsub (sub_cons (t := 7) rfl <| sub_cons (t := 6) rfl <| sub_cons (t := 0) rfl <| sub_cons (t := 1) rfl <| sub_cons (t := 2) rfl <| sub_nil) <| qthen <| cseq <| cseq <| creg <| nq (y_move rfl) <| nq (y_eql rfl rfl) <| nend <| qsub (sub_cons (t := 16) rfl <| sub_cons (t := 7) rfl <| sub_cons (t := 6) rfl <| sub_cons (t := 0) rfl <| sub_cons (t := 1) rfl <| sub_cons (t := 2) rfl <| sub_nil) <| qthen <| ?_
  refine ciff rfl ((decide_eq_false (by decide) : decide (((1 : Nat) : Int) = 0) = false)) ?_
  refine cskip <| qthen <| cseq <| creg <| nq (y_move rfl) <| nq (y_lenS rfl Tryz.underlying24) <| nq (y_assign rfl) <| nend <| qsub (sub_cons (t := 8) rfl <| sub_cons (t := 16) rfl <| sub_cons (t := 7) rfl <| sub_cons (t := 6) rfl <| sub_cons (t := 0) rfl <| sub_cons (t := 1) rfl <| sub_cons (t := 2) rfl <| sub_nil) <| qthen <| cseq <| cseq <| creg <| nq (y_move rfl) <| nq (y_move rfl) <| nq (y_eql rfl rfl) <| nend <| qsub (sub_cons (t := 22) rfl <| sub_cons (t := 8) rfl <| sub_cons (t := 16) rfl <| sub_cons (t := 7) rfl <| sub_cons (t := 6) rfl <| sub_cons (t := 0) rfl <| sub_cons (t := 1) rfl <| sub_cons (t := 2) rfl <| sub_nil) <| qthen <| ?_
  refine cif rfl (fun h => ?_) (fun h => ?_)
  · obtain rfl : i = n := by omega
    refine cseq <| creg <| nq (y_move rfl) <| nq (y_move rfl) <| ?_
    refine nx (x_app rfl rfl Tryz.underlying24 Tryz.underlying24 (by exact .inl rfl) ti23 rfl ho (Src.of_rd r2) dc_oneCell (by unfold maxLen; omega) (by omega) hb fun v1 w1 ho1 hf1 hv1 => ?_)
    refine nq (y_assign rfl) <| nend <| qsub (sub_cons (t := 6) rfl <| sub_cons (t := 22) rfl <| sub_cons (t := 8) rfl <| sub_cons (t := 16) rfl <| sub_cons (t := 7) rfl <| sub_cons (t := 0) rfl <| sub_cons (t := 1) rfl <| sub_cons (t := 2) rfl <| sub_nil) <| qthen <| cret <| qthen_ret <| ?_
    refine ret1 trivial rfl rfl ⟨v1, rfl, ?_, hf1⟩
    rw [List.take_of_length_le (by omega), List.drop_of_length_le (by omega), List.append_nil, dc_append]
    exact ho1
  · have hin : i < n := by omega
    rcases ho with ⟨hlen, ⟨h1, h0⟩ | ⟨g, o, cap, cur, h1, hbg, hg, hnc, hcm, hcs, htake⟩⟩
    · omega
    injection h1 with h1 _ h3
    subst h1
    subst h3
    have hne : ¬ g2 = g := hne
    have hdr : Rd w 32 (some (⟨g, o + i * 32, none⟩ : Addr)) (n - i) (dc (ds.drop i)) := by
      have := hr.cut_dc hD hc hi
      rwa [if_neg (by omega), Option.map_some, addr_add] at this
    refine cskip <| qthen <| cseq <| cseq <| creg <| nq (y_move rfl) <| nq (y_move rfl) <| nq (y_add rfl rfl (w64 (by omega) (by omega))) <| nq (y_move rfl) <| nq (y_capS rfl Tryz.underlying24) <| nq (y_gtr rfl rfl) <| nend <| qsub (sub_cons (t := 31) rfl <| sub_cons (t := 22) rfl <| sub_cons (t := 8) rfl <| sub_cons (t := 16) rfl <| sub_cons (t := 7) rfl <| sub_cons (t := 6) rfl <| sub_cons (t := 0) rfl <| sub_cons (t := 1) rfl <| sub_cons (t := 2) rfl <| sub_nil) <| qthen <| ?_
    refine cif rfl (fun hgt => ?_) (fun hgt => ?_)
    · refine cseq <| creg <| nq (y_move rfl) <| nq (y_move rfl) <| nq (y_slTo rfl rfl Tryz.underlying24 sz23 rfl ((by omega))) <| nq (y_move rfl) <| nq (y_move rfl) <| nq (y_add rfl rfl (w64 (by omega) (by omega))) <| nq (y_move rfl) <| nq (yV (y_sub rfl rfl (w64 (by omega) (by omega))) ((show Value.int .i64 ((n : Int) + ((1 : Nat) : Int) - (i : Int)) = .int .i64 ((n + 1 - i : Nat) : Int) by congr 1; omega))) <| ?_
      refine nx (x_appZ rfl rfl Tryz.underlying24 Tryz.underlying3 ti23 rfl (hr.take_dc hD hi) (by omega) (by decide) (by omega) (by unfold maxLen; omega) (by omega) fun g3 w3 cap3 rest hg3 hf3 hc3 hm3 hl3 hb3 => ?_)
      rw [show i + (n + 1 - i) = n + 1 by omega] at hc3 ⊢
      have hne3 : ¬ g2 = g3 := by have := hb2.lt; omega
      have hg3b : b ≤ g3 := by omega
      have hrl : 32 + (n - i) * 32 ≤ rest.length := by
        rw [List.length_append, lt] at hl3
        have : (n + 1) * 32 ≤ cap3 * 32 := Nat.mul_le_mul_right _ hc3
        omega
      refine nq (y_assign rfl) <| nend <| qsub (sub_cons (t := 9) rfl <| sub_cons (t := 31) rfl <| sub_cons (t := 22) rfl <| sub_cons (t := 8) rfl <| sub_cons (t := 16) rfl <| sub_cons (t := 7) rfl <| sub_cons (t := 6) rfl <| sub_cons (t := 0) rfl <| sub_cons (t := 1) rfl <| sub_cons (t := 2) rfl <| sub_nil) <| qthen <| cseq <| creg <| nq (y_move rfl) <| nq (y_move rfl) <| nq (yV (y_slFrom rfl rfl Tryz.underlying24 sz23 rfl ((by omega))) (slFrom_val (by omega))) <| nq (y_move rfl) <| ?_
      refine nx (x_copy rfl rfl Tryz.underlying24 sz23 (r2.fr0 hf3) (show 1 = min 1 (n + 1 - i) by omega) hb3 (by rw [Nat.zero_add, hl3]; have : (i + 1) * 32 ≤ cap3 * 32 := Nat.mul_le_mul_right _ (by omega); omega) dc_oneCell fun w4 hf4 hb4 hs4 => ?_)
      rw [Nat.zero_add] at hb4
      have hsl4 : (splice (dc (ds.take i) ++ rest) (i * 32) (dc [d])).length = cap3 * 32 := by
        rw [splice_length (by rw [d32, hl3]; have : (i + 1) * 32 ≤ cap3 * 32 := Nat.mul_le_mul_right _ (by omega); omega), hl3]
      have hf34 : Fr No w w4 := hf3.new hf4 (fun j hj => by omega)
      refine nend <| qsub (sub_cons (t := 9) rfl <| sub_cons (t := 31) rfl <| sub_cons (t := 22) rfl <| sub_cons (t := 8) rfl <| sub_cons (t := 16) rfl <| sub_cons (t := 7) rfl <| sub_cons (t := 6) rfl <| sub_cons (t := 0) rfl <| sub_cons (t := 1) rfl <| sub_cons (t := 2) rfl <| sub_nil) <| qthen <| cseq <| ?_
      refine cdrwT [8] [(0, some 0), (1, some 0), (2, some 0), (3, some 0), (4, some 0), (5, some 0), (6, some 0), (7, some 0), (8, none)] (by kernel_rfl) (by kernel_rfl) rfl (fun k w' => k = 0 → Fr No w4 w') (fun _ => Fr.drew _) (fun w5 hf5 hS5 => ?_)
      refine tq1 (fun w_ hS_ => y_move rfl) <| tq1 (fun w_ hS_ => y_move rfl) <| tq1 (fun w_ hS_ => y_move rfl) <| tq1 (fun w_ hS_ => y_add rfl rfl (w64 (by omega) (by omega))) <| tq1 (fun w_ hS_ => yV (y_slFrom rfl rfl Tryz.underlying24 sz23 (show ((i + 1 : Nat) : Int) = _ by omega) ((by omega))) (slFrom_val (by omega))) <| tq1 (fun w_ hS_ => y_move rfl) <| tq1 (fun w_ hS_ => y_move rfl) <| tq1 (fun w_ hS_ => yV (y_slFrom rfl rfl Tryz.underlying24 sz23 rfl ((by omega))) (slFrom_val (by omega))) <| ?_
      refine tx (x_copy rfl rfl Tryz.underlying24 sz23 ((hdr.fr0 hf34).fr0 hf5) (show n - i = min (n - i) (n + 1 - (i + 1)) by omega) (hb4.fr0 hf5) (by rw [hsl4]; have : (n + 1) * 32 ≤ cap3 * 32 := Nat.mul_le_mul_right _ hc3; omega) dc_oneCell fun w6 hf6 hb6 hs6 => ?_)
      refine ⟨fun h => absurd h (by omega), ?_⟩
      rw [show 0 + (i + 1) * 32 = i * 32 + 32 by omega] at hb6
      obtain ⟨q1, q2⟩ := ins_grow (xs := dc (ds.take i)) (rest := rest) (vs := dc [d]) (ys := dc (ds.drop i)) (p := i * 32) (m := 32) (q := (n - i) * 32) lt d32 ld hrl
      refine tend <| qsub (sub_cons (t := 9) rfl <| sub_cons (t := 31) rfl <| sub_cons (t := 22) rfl <| sub_cons (t := 8) rfl <| sub_cons (t := 16) rfl <| sub_cons (t := 7) rfl <| sub_cons (t := 6) rfl <| sub_cons (t := 0) rfl <| sub_cons (t := 1) rfl <| sub_cons (t := 2) rfl <| sub_nil) <| qthen <| cseq <| creg <| nq (y_move rfl) <| nq (y_assign rfl) <| nend <| qsub (sub_cons (t := 6) rfl <| sub_cons (t := 9) rfl <| sub_cons (t := 31) rfl <| sub_cons (t := 22) rfl <| sub_cons (t := 8) rfl <| sub_cons (t := 16) rfl <| sub_cons (t := 7) rfl <| sub_cons (t := 0) rfl <| sub_cons (t := 1) rfl <| sub_cons (t := 2) rfl <| sub_nil) <| qthen <| cret <| qthen_ret <| ?_
      refine ret1 trivial rfl rfl ⟨_, rfl, ⟨?_, .inr ⟨g3, 0, cap3, _, rfl, hg3b, hb6, hc3, hm3, by rw [q2, hl3]; omega, ?_⟩⟩, ((hf34.trans0 hf5).new hf6 (fun j hj => by omega)).mono (fun _ _ e => e.elim)⟩
      · rw [dc_append, dc_append, List.length_append, List.length_append, lt, ld, d32]
        omega
      · rw [List.drop_zero, dc_append, dc_append, ← q1]
        congr 1
        omega
    · have hcap : n + 1 ≤ c := by omega
      have hcl : (n + 1) * 32 ≤ c * 32 := Nat.mul_le_mul_right _ hcap
      have hsb : w.shape? g = some (23, cur.length) := by
        obtain ⟨f, h, _⟩ := hg
        simp only [World.shape?, h]
        simp
      have hsa : w.shape? g2 = some (bt, 32) := by
        simp only [World.shape?, h2]
        simp [d32]
      have hov := Lib.run_overlaps_apart (P := Tryz.prog) w 24 4 23 Tryz.underlying24 32 (fun w => Go.Eng.run_sizeOf sz23) ⟨g2, 0, none⟩ ⟨g, o + (i + 1) * 32, none⟩ 1 1 (n + 1 - (i + 1)) (c - (i + 1)) hne bt 23 32 cur.length hsa hsb (by omega) (by simp [World.frozen?, h2]) (by simp [World.frozen?, h2])
      refine cskip <| qthen <| cseq <| creg <| nq (y_move rfl) <| nq (y_move rfl) <| nq (y_move rfl) <| nq (y_add rfl rfl (w64 (by omega) (by omega))) <| nq (y_slTo rfl rfl Tryz.underlying24 sz23 (show ((n + 1 : Nat) : Int) = _ by omega) ((by omega))) <| nq (y_assign rfl) <| nend <| qsub (sub_cons (t := 0) rfl <| sub_cons (t := 31) rfl <| sub_cons (t := 22) rfl <| sub_cons (t := 8) rfl <| sub_cons (t := 16) rfl <| sub_cons (t := 7) rfl <| sub_cons (t := 6) rfl <| sub_cons (t := 1) rfl <| sub_cons (t := 2) rfl <| sub_nil) <| qthen <| cseq <| cseq <| creg <| nq (y_move rfl) <| nq (y_move rfl) <| nq (y_move rfl) <| nq (y_move rfl) <| nq (y_add rfl rfl (w64 (by omega) (by omega))) <| nq (yV (y_slFrom rfl rfl Tryz.underlying24 sz23 (show ((i + 1 : Nat) : Int) = _ by omega) ((by omega))) (slFrom_val (by omega))) <| ?_
      refine nq (y_ext rfl Tryz.func99 (by kernel_rfl) (by kernel_rfl) (by kernel_rfl) (show _ = some (Extern.SlicesOverlaps.overlaps #[24, 24] #[4]) by kernel_rfl) hov) ?_
      refine nq ((y_not rfl)) <| nend <| qsub (sub_cons (t := 68) rfl <| sub_cons (t := 0) rfl <| sub_cons (t := 31) rfl <| sub_cons (t := 22) rfl <| sub_cons (t := 8) rfl <| sub_cons (t := 16) rfl <| sub_cons (t := 7) rfl <| sub_cons (t := 6) rfl <| sub_cons (t := 1) rfl <| sub_cons (t := 2) rfl <| sub_nil) <| qthen <| ?_
      refine cift rfl (rfl) ?_
      refine cseq <| ?_
      refine cdrwT [8] [(0, some 0), (1, some 0), (2, some 0), (3, some 0), (4, some 0), (5, some 0), (6, some 0), (7, some 0), (8, none)] (by kernel_rfl) (by kernel_rfl) rfl (fun k w' => k = 0 → Fr No w w') (fun _ => Fr.drew _) (fun w5 hf5 hS5 => ?_)
      refine tq1 (fun w_ hS_ => y_move rfl) <| tq1 (fun w_ hS_ => y_move rfl) <| tq1 (fun w_ hS_ => y_move rfl) <| tq1 (fun w_ hS_ => y_add rfl rfl (w64 (by omega) (by omega))) <| tq1 (fun w_ hS_ => yV (y_slFrom rfl rfl Tryz.underlying24 sz23 (show ((i + 1 : Nat) : Int) = _ by omega) ((by omega))) (slFrom_val (by omega))) <| tq1 (fun w_ hS_ => y_move rfl) <| tq1 (fun w_ hS_ => y_move rfl) <| tq1 (fun w_ hS_ => yV (y_slFrom rfl rfl Tryz.underlying24 sz23 rfl ((by omega))) (slFrom_val (by omega))) <| ?_
      refine tx (x_copy rfl rfl Tryz.underlying24 sz23 (hdr.fr0 hf5) (show n - i = min (n + 1 - i) (n + 1 - (i + 1)) by omega) (hg.fr0 hf5) (by omega) dc_oneCell fun w6 hf6 hb6 hs6 => ?_)
      refine ⟨fun h => absurd h (by omega), ?_⟩
      have hsl6 : (splice cur (o + (i + 1) * 32) (dc (ds.drop i))).length = cur.length := splice_length (by rw [ld]; omega)
      refine tend <| qsub (sub_cons (t := 68) rfl <| sub_cons (t := 0) rfl <| sub_cons (t := 31) rfl <| sub_cons (t := 22) rfl <| sub_cons (t := 8) rfl <| sub_cons (t := 16) rfl <| sub_cons (t := 7) rfl <| sub_cons (t := 6) rfl <| sub_cons (t := 1) rfl <| sub_cons (t := 2) rfl <| sub_nil) <| qthen <| cseq <| creg <| nq (y_move rfl) <| nq (y_move rfl) <| nq (yV (y_slFrom rfl rfl Tryz.underlying24 sz23 rfl ((by omega))) (slFrom_val (by omega))) <| nq (y_move rfl) <| ?_
      refine nx (x_copy rfl rfl Tryz.underlying24 sz23 ((r2.fr0 hf5).fr hf6 (fun a ha => by cases ha; exact hne)) (show 1 = min 1 (n + 1 - i) by omega) hb6 (by rw [hsl6]; omega) dc_oneCell fun w7 hf7 hb7 hs7 => ?_)
      rw [show o + (i + 1) * 32 = o + i * 32 + 32 by omega] at hb7
      have hw : (cur.drop o).take (i * 32 + (n - i) * 32) = dc (ds.take i) ++ dc (ds.drop i) := by
        rw [← dc_append, List.take_append_drop, ← htake]
        congr 1
        omega
      obtain ⟨q1, q2⟩ := ins_room (cur := cur) (xs := dc (ds.take i)) (vs := dc [d]) (ys := dc (ds.drop i)) (o := o) (p := i * 32) (m := 32) (q := (n - i) * 32) hw lt d32 ld (by omega)
      refine nend <| qsub (sub_cons (t := 68) rfl <| sub_cons (t := 0) rfl <| sub_cons (t := 31) rfl <| sub_cons (t := 22) rfl <| sub_cons (t := 8) rfl <| sub_cons (t := 16) rfl <| sub_cons (t := 7) rfl <| sub_cons (t := 6) rfl <| sub_cons (t := 1) rfl <| sub_cons (t := 2) rfl <| sub_nil) <| qthen <| cseq <| creg <| nq (y_move rfl) <| nq (y_assign rfl) <| nend <| qsub (sub_cons (t := 6) rfl <| sub_cons (t := 68) rfl <| sub_cons (t := 0) rfl <| sub_cons (t := 31) rfl <| sub_cons (t := 22) rfl <| sub_cons (t := 8) rfl <| sub_cons (t := 16) rfl <| sub_cons (t := 7) rfl <| sub_cons (t := 1) rfl <| sub_cons (t := 2) rfl <| sub_nil) <| qthen <| cret <| qthen_ret <| ?_
      refine ret1 trivial rfl rfl ⟨_, rfl, ⟨?_, .inr ⟨g, o, c, _, rfl, hbg, hb7, hcap, hcm, by rw [q2]; exact hcs, ?_⟩⟩, ?_⟩
      · rw [dc_append, dc_append, List.length_append, List.length_append, lt, ld, d32]
        omega
      · rw [dc_append, dc_append, ← q1]
        congr 1
        omega
      · have h67 : Fr (fun i => i = g) w w7 := (hf5.trans hf6 (fun _ e => e.elim) (fun _ _ hi => hi)).trans hf7 (fun _ e => e) (fun _ _ hi => hi)
        exact h67.mono (fun _ _ hi => hi)
end Go.Proofs.YtlbecpekemlllaaGreat
end
section
/- Contracts: journal.Has, Add; the example. -/
set_option linter.unusedVariables false
set_option linter.unusedSimpArgs false
set_option maxRecDepth 20000
namespace Go.Proofs.YtlbecpekemlllaaGreat
open Go.Eng Go.Hx
theorem found_has {ds : List (List UInt8)} {d : List UInt8} {k : Nat} (h : Found ds d k) (hR : Rise ds) : (k < ds.length ∧ cb (ds.getD k []) d = 0) ↔ d ∈ ds := by
  constructor
  · rintro ⟨h1, h2⟩
    have h3 := cb_eq _ _ h2
    rw [List.getD, List.getElem?_eq_getElem h1] at h3
    simp only [Option.getD_some] at h3
    rw [← h3]
    exact List.getElem_mem h1
  · intro hm
    obtain ⟨q, hq, he⟩ := List.getElem_of_mem hm
    have hgq : ds.getD q [] = d := by rw [List.getD, List.getElem?_eq_getElem hq]; simpa using he
    have h0 : cb (ds.getD q []) d = 0 := by rw [hgq]; exact cb_self d
    rcases Nat.lt_or_ge q k with h1 | h1
    · have := h.lt q h1; omega
    · rcases Nat.eq_or_lt_of_le h1 with h2 | h2
      · subst h2; exact ⟨hq, h0⟩
      · exact absurd (by have h3 := rise_lt hR q k h2 hq; rw [hgq] at h3; exact h3) (h.ge k (Nat.le_refl _) (by omega))
theorem has (img : List UInt8) (A : Option Addr) (n c : Nat) (ds : List (List UInt8)) (d : List UInt8) (w : World) (hi : img.length = 32) (hr : Rd w 32 A n (dc ds)) (hD : D32 ds) (hR : Rise ds) (hd : d.length = 32) (hn : n ≤ 1000000) :
    Calls Tryz.prog 48 #[.agg (b8s img ++ [Value.slice A n c]).toArray, .agg (b8s d).toArray] w fun e w' => e = .returned (.bool (decide (d ∈ ds))) ∧ Fr No w w' := by
  have hl := dc_len hr hD
  have dl : (b8s d).length = 32 := by rw [b8s_length]; exact hd
  refine enter (N := 15) Tryz.func48 rfl rfl (by simp) ?_
  refine cseq <| creg <| ?_
  refine nx (x_box rfl fun g1 w1 hg1 hf1 hb1 => ?_)
  refine nx (x_box rfl fun g2 w2 hg2 hf2 hb2 => ?_)
  rw [cells_agg] at hb1 hb2
  have b1 := hb1.fr0 hf2
  refine nq (y_assign rfl) <| nend <| qthen <| cseq <| creg <| nq (y_fld rfl fa40_1 (by decide)) <| nq (y_ld1 rfl ag24 (j_s b1 hi)) <| nq (y_ldN rfl ag23 sz23 dl hb2.cells0) <| ?_
  refine nx (x_call rfl Tryz.call77 (bsearch A n c ds d _ ((hr.fr0 hf1).fr0 hf2) hD hR hd hn) ?_)
  rintro e_ w3 ⟨k, rfl, hF, hf3⟩
  refine ⟨_, rfl, ?_⟩
  refine nq (y_move rfl) <| nq (y_extract rfl rfl) <| nq (y_extract rfl rfl) <| nq (y_assign rfl) <| nq (y_assign rfl) <| nend <| qsub (sub_cons (t := 6) rfl <| sub_cons (t := 4) rfl <| sub_cons (t := 3) rfl <| sub_cons (t := 2) rfl <| sub_cons (t := 0) rfl <| sub_cons (t := 1) rfl <| sub_nil) <| qthen <| cseq <| creg <| nq (y_move rfl) <| nq (y_assign rfl) <| nend <| qsub (sub_cons (t := 4) rfl <| sub_cons (t := 6) rfl <| sub_cons (t := 3) rfl <| sub_cons (t := 2) rfl <| sub_cons (t := 0) rfl <| sub_cons (t := 1) rfl <| sub_nil) <| qthen <| cret <| ?_
  refine ret1 trivial rfl rfl ⟨?_, (hf1.trans0 hf2).trans0 hf3⟩
  have := found_has hF hR
  rw [hl] at this
  show Ending.returned (.bool (decide (k < n ∧ cb (ds.getD k []) d = 0))) = _
  simp only [this]
theorem dput_mem {ds : List (List UInt8)} {d : List UInt8} {k : Nat} (h : Found ds d k) (hR : Rise ds) : dput ds d = if d ∈ ds then ds else ds.take k ++ [d] ++ ds.drop k := by
  have e := dput_at ds d k h.le h.lt (fun hk => h.ge k (Nat.le_refl _) hk)
  rw [e]
  have h1 : (k < ds.length ∧ ds.getD k [] = d) ↔ d ∈ ds := by
    rw [← found_has h hR]
    exact ⟨fun ⟨a, b⟩ => ⟨a, by rw [b]; exact cb_self d⟩, fun ⟨a, b⟩ => ⟨a, cb_eq _ _ b⟩⟩
  simp only [h1]
theorem add (img : List UInt8) (A : Option Addr) (n c : Nat) (ds : List (List UInt8)) (d : List UInt8) (w : World) (hi : img.length = 32) (hr : Rd w 32 A n (dc ds)) (hD : D32 ds) (hR : Rise ds) (hd : d.length = 32) (hn : n ≤ 1000000) :
    Calls Tryz.prog 47 #[.agg (b8s img ++ [Value.slice A n c]).toArray, .agg (b8s d).toArray] w fun e w' => ((∃ v, (d ∈ ds ∨ n < 4096) ∧ e = .returned (.tuple #[.agg (b8s img ++ [v]).toArray, .int .i64 0]) ∧ Own w' w.heap.size 23 32 v (dput ds d).length (dc (dput ds d))) ∨ (¬ d ∈ ds ∧ 4096 ≤ n ∧ e = .returned (.tuple #[.agg (b8s (List.replicate 32 0) ++ [Value.slice none 0 0]).toArray, .int .i64 5]))) ∧ Fr No w w' := by
  have hl := dc_len hr hD
  have dl : (b8s d).length = 32 := by rw [b8s_length]; exact hd
  refine enter (N := 36) Tryz.func47 rfl rfl (by simp) ?_
  refine cseq <| creg <| ?_
  refine nx (x_box rfl fun g1 w1 hg1 hf1 hb1 => ?_)
  refine nx (x_box rfl fun g2 w2 hg2 hf2 hb2 => ?_)
  refine nx (x_alloc ti40 fun g3 w3 hg3 hf3 hb3 => ?_)
  rw [cells_agg] at hb1 hb2
  have l1 := hb1.lt
  have l2 := hb2.lt
  have l3 := hb3.lt
  have s1 := hf1.size
  have s2 := hf2.size
  have s3 := hf3.size
  have b1 := (hb1.fr0 hf2).fr0 hf3
  have b2 := hb2.fr0 hf3
  have f3 := (hf1.trans0 hf2).trans0 hf3
  refine nq (y_assign rfl) <| nend <| qthen <| cseq <| creg <| nq (y_fld rfl fa40_1 (by decide)) <| nq (y_ld1 rfl ag24 (j_s b1 hi)) <| nq (y_ldN rfl ag23 sz23 dl b2.cells0) <| ?_
  refine nx (x_call rfl Tryz.call77 (bsearch A n c ds d _ (hr.fr0 f3) hD hR hd hn) ?_)
  rintro e_ w4 ⟨k, rfl, hF, hf4⟩
  refine ⟨_, rfl, ?_⟩
  have hfm := found_has hF hR
  rw [hl] at hfm
  have hpm := dput_mem hF hR
  have hkn : k ≤ n := by have := hF.le; omega
  have f4 := f3.trans0 hf4
  have s4 := hf4.size
  have b14 := b1.fr0 hf4
  have b24 := b2.fr0 hf4
  have b34 := hb3.fr0 hf4
  refine nq (y_move rfl) <| nq (y_extract rfl rfl) <| nq (y_extract rfl rfl) <| nq (y_assign rfl) <| nq (y_assign rfl) <| nend <| qsub (sub_cons (t := 7) rfl <| sub_cons (t := 6) rfl <| sub_cons (t := 5) rfl <| sub_cons (t := 4) rfl <| sub_cons (t := 3) rfl <| sub_cons (t := 2) rfl <| sub_cons (t := 0) rfl <| sub_cons (t := 1) rfl <| sub_nil) <| qthen <| cseq <| creg <| nq (y_fld rfl fa40_1 (by decide)) <| nq (y_ld1 rfl ag24 (j_s b14 hi)) <| ?_
  refine nx (x_call rfl Tryz.call79 (sclone A n c ds _ (hr.fr0 f4) hD hn) ?_)
  rintro e_ w5 ⟨v5, rfl, ho5, hf5⟩
  refine ⟨_, rfl, ?_⟩
  have s5 := hf5.size
  have b15 := b14.fr0 hf5
  obtain ⟨ov5, _⟩ := own_slice1 ho5
  refine nq (y_fld rfl fa40_1 (by decide)) <| ?_
  refine nx0 (x_st1a rfl rfl sz24 ov5 b15 (by rw [j_len hi]; decide) fun w6 hf6 b16 hs6 => ?_)
  rw [Nat.zero_add, j_set hi] at b16
  have ho6 := ho5.fr hf6 (fun i hi => by have := (ho5.from hi).1; omega)
  have b26 := (b24.fr0 hf5).fr hf6 (by omega)
  have b36 := (b34.fr0 hf5).fr hf6 (by omega)
  have f6 : Fr No w w6 := (f4.trans0 hf5).new hf6 (fun i hi => by omega)
  simp only [hfm]
  refine nend <| qsub (sub_cons (t := 7) rfl <| sub_cons (t := 6) rfl <| sub_cons (t := 5) rfl <| sub_cons (t := 4) rfl <| sub_cons (t := 3) rfl <| sub_cons (t := 2) rfl <| sub_cons (t := 0) rfl <| sub_cons (t := 1) rfl <| sub_nil) <| qthen <| cseq <| cblock <| cseq <| creg <| nq (y_move rfl) <| nq (y_assign rfl) <| nend <| qsub (sub_cons (t := 19) rfl <| sub_cons (t := 7) rfl <| sub_cons (t := 6) rfl <| sub_cons (t := 5) rfl <| sub_cons (t := 4) rfl <| sub_cons (t := 3) rfl <| sub_cons (t := 2) rfl <| sub_cons (t := 0) rfl <| sub_cons (t := 1) rfl <| sub_nil) <| qthen <| ?_
  refine cif rfl (fun h => ?_) (fun h => ?_)
  · refine cseq <| creg <| nq (y_ldN rfl ag40 sz40 ((j_len hi)) b16.cells0) <| ?_
    refine nx0 (x_stA rfl rfl sz40 (j_len hi) (j_one ov5) b36 rfl fun w7 hf7 hb7 hs7 => ?_)
    refine nq (y_assign rfl) <| nend <| qsub (sub_cons (t := 5) rfl <| sub_cons (t := 19) rfl <| sub_cons (t := 7) rfl <| sub_cons (t := 6) rfl <| sub_cons (t := 4) rfl <| sub_cons (t := 3) rfl <| sub_cons (t := 2) rfl <| sub_cons (t := 0) rfl <| sub_cons (t := 1) rfl <| sub_nil) <| qthen <| cret <| qblock_ret <| qthen_ret <| ?_
    have ho7 := ho6.fr hf7 (fun i hi => by have := (ho6.from hi).1; omega)
    refine retN1 trivial rfl rfl rfl ag40 sz40 (j_len hi) hb7.cells0 ⟨.inl ⟨v5, .inl h, rfl, ?_⟩, f6.new hf7 (fun i hi => by omega)⟩
    rw [hpm, if_pos h, hl]
    exact ho7.wide (by omega)
  · obtain ⟨A5, c5, rfl, hc5⟩ := ho6.slice
    refine cseq <| creg <| nq (y_fld rfl fa40_1 (by decide)) <| nq (y_ld1 rfl ag24 (j_s b16 hi)) <| nq (y_lenS rfl Tryz.underlying24) <| nq (y_geq rfl rfl) <| nq (y_assign rfl) <| nend <| qsub (sub_cons (t := 22) rfl <| sub_cons (t := 19) rfl <| sub_cons (t := 7) rfl <| sub_cons (t := 6) rfl <| sub_cons (t := 5) rfl <| sub_cons (t := 4) rfl <| sub_cons (t := 3) rfl <| sub_cons (t := 2) rfl <| sub_cons (t := 0) rfl <| sub_cons (t := 1) rfl <| sub_nil) <| qthen <| ?_
    refine cif rfl (fun h2 => ?_) (fun h2 => ?_)
    · refine cseq <| creg <| nq (y_build0 ti40 rfl (by kernel_rfl)) <| ?_
      refine nx0 (x_stA rfl rfl sz40 rfl (j_one (img := List.replicate 32 0) (s := .slice none 0 0) rfl) b36 rfl fun w7 hf7 hb7 hs7 => ?_)
      refine nq (y_assign rfl) <| nend <| qsub (sub_cons (t := 5) rfl <| sub_cons (t := 22) rfl <| sub_cons (t := 19) rfl <| sub_cons (t := 7) rfl <| sub_cons (t := 6) rfl <| sub_cons (t := 4) rfl <| sub_cons (t := 3) rfl <| sub_cons (t := 2) rfl <| sub_cons (t := 0) rfl <| sub_cons (t := 1) rfl <| sub_nil) <| qthen <| cret <| qblock_ret <| qthen_ret <| ?_
      exact retN1 trivial rfl rfl rfl ag40 sz40 rfl hb7.cells0 ⟨.inr ⟨h, by omega, rfl⟩, f6.new hf7 (fun i hi => by omega)⟩
    · refine cskip <| qblock <| qthen <| cseq <| creg <| nq (y_fld rfl fa40_1 (by decide)) <| nq (y_ld1 rfl ag24 (j_s b16 hi)) <| nq (y_move rfl) <| nq (y_ldN rfl ag23 sz23 dl b26.cells0) <| ?_
      refine nx (x_bslR Tryz.underlying24 ti23 rfl rfl rfl (by simp [Value.cells, dl]) (by decide) (by decide) fun g8 w8 hg8 hf8 hh8 => ?_)
      have hh8 : w8.heap[g8]? = some (.cells (dc [d]).toArray 23 (0, 0)) := by simpa [Value.cells, dc] using hh8
      have s8 := hf8.size
      have b18 := b16.fr0 hf8
      have b38 := b36.fr0 hf8
      refine nx (x_call rfl Tryz.call80 (insert w4.heap.size _ n k g8 _ ds d _ (ho6.fr0 hf8) hD hd hkn hn (by omega) hh8 (fun hv => by have := (ho6.from hv).2; omega)) ?_)
      rintro e_ w9 ⟨v9, rfl, ho9, hf9⟩
      refine ⟨_, rfl, ?_⟩
      have s9 := hf9.size
      have hv5 : ∀ i, vblk (Value.slice A5 n c5) i → w4.heap.size ≤ i := fun i hi => (ho6.from hi).1
      have b19 := b18.fr hf9 (fun hv => by have := hv5 _ hv; omega)
      have b39 := b38.fr hf9 (fun hv => by have := hv5 _ hv; omega)
      have f9 : Fr No w w9 := (f6.trans0 hf8).new hf9 (fun i hi => by have := hv5 _ hi; omega)
      obtain ⟨ov9, _⟩ := own_slice1 ho9
      refine nq (y_fld rfl fa40_1 (by decide)) <| ?_
      refine nx0 (x_st1a rfl rfl sz24 ov9 b19 (by rw [j_len hi]; decide) fun w10 hf10 b110 hs10 => ?_)
      rw [Nat.zero_add, j_set hi] at b110
      have b310 := b39.fr hf10 (by omega)
      have ho10 := ho9.fr hf10 (fun i hi => by have := (ho9.from hi).1; omega)
      refine nend <| qsub (sub_cons (t := 22) rfl <| sub_cons (t := 19) rfl <| sub_cons (t := 7) rfl <| sub_cons (t := 6) rfl <| sub_cons (t := 5) rfl <| sub_cons (t := 4) rfl <| sub_cons (t := 3) rfl <| sub_cons (t := 2) rfl <| sub_cons (t := 0) rfl <| sub_cons (t := 1) rfl <| sub_nil) <| qthen <| cseq <| creg <| nq (y_ldN rfl ag40 sz40 ((j_len hi)) b110.cells0) <| ?_
      refine nx0 (x_stA rfl rfl sz40 (j_len hi) (j_one ov9) b310 rfl fun w11 hf11 hb11 hs11 => ?_)
      refine nq (y_assign rfl) <| nend <| qsub (sub_cons (t := 5) rfl <| sub_cons (t := 22) rfl <| sub_cons (t := 19) rfl <| sub_cons (t := 7) rfl <| sub_cons (t := 6) rfl <| sub_cons (t := 4) rfl <| sub_cons (t := 3) rfl <| sub_cons (t := 2) rfl <| sub_cons (t := 0) rfl <| sub_cons (t := 1) rfl <| sub_nil) <| qthen <| cret <| ?_
      have ho11 := ho10.fr hf11 (fun i hi => by have := (ho10.from hi).1; omega)
      refine retN1 trivial rfl rfl rfl ag40 sz40 (j_len hi) hb11.cells0 ⟨.inl ⟨v9, .inr (by omega), rfl, ?_⟩, (f9.new hf10 (fun i hi => by omega)).new hf11 (fun i hi => by omega)⟩
      rw [hpm, if_neg h]
      have hlen : (ds.take k ++ [d] ++ ds.drop k).length = n + 1 := by simp [hl]; omega
      rw [hlen]
      exact ho11.wide (by omega)
theorem add_ok (img : List UInt8) (A : Option Addr) (n c : Nat) (ds : List (List UInt8)) (d : List UInt8) (w : World) (hi : img.length = 32) (hr : Rd w 32 A n (dc ds)) (hD : D32 ds) (hR : Rise ds) (hd : d.length = 32) (hn : n < 4096) :
    Calls Tryz.prog 47 #[.agg (b8s img ++ [Value.slice A n c]).toArray, .agg (b8s d).toArray] w fun e w' => ∃ v, e = .returned (.tuple #[.agg (b8s img ++ [v]).toArray, .int .i64 0]) ∧ Own w' w.heap.size 23 32 v (dput ds d).length (dc (dput ds d)) ∧ Fr No w w' := by
  refine (add img A n c ds d w hi hr hD hR hd (by omega)).mono fun e w' h => ?_
  rcases h with ⟨⟨v, _, h1, h2⟩ | ⟨_, h1, _⟩, hf⟩
  · exact ⟨v, h1, h2, hf⟩
  · omega
theorem may_nil : JMay [] := by decide
theorem D32nil : D32 [] := fun x hx => by cases hx
theorem bldD (x : UInt8) : Bld Tryz.prog (plB Tryz.prog 23) (b8s (List.replicate 32 0)) [(0, B8 x)] (b8s (x :: List.replicate 31 0)) :=
  .cons (o := 0) (sz := 1) (by kernel_rfl) rfl rfl (by decide) .nil
theorem lives17 (w : World) : Calls Tryz.prog 21 #[] w fun e w' => e = .returned (.bool true) ∧ Fr No w w' := by
  have z32 : (List.replicate 32 (0 : UInt8)).length = 32 := by simp
  have h7 : ((7 : UInt8) :: List.replicate 31 0).length = 32 := by simp
  have h8 : ((8 : UInt8) :: List.replicate 31 0).length = 32 := by simp
  refine enter (N := 44) Tryz.func21 rfl rfl (by simp) ?_
  refine cseq <| creg <| nq (y_assign rfl) <| nend <| qthen <| cseq <| creg <| nq (y_build0 ti40 rfl (by kernel_rfl)) <| ?_
  refine nx (x_call rfl Tryz.call29 (write (List.replicate 32 0) none 0 0 [] _ z32 (Rd.nil _ _ _) D32nil (by omega)) ?_)
  rintro e_ w1 ⟨⟨v1, rfl, hv1, _⟩, hf1⟩
  refine ⟨_, rfl, ?_⟩
  have ho1 := hv1 may_nil
  obtain ⟨A1, c1, rfl, hc1⟩ := ho1.slice
  rw [jbody_length z32 D32nil] at ho1 ⊢
  rw [if_pos may_nil]
  refine nq (y_move rfl) <| nq (y_extract rfl rfl) <| nq (y_extract rfl rfl) <| nq (y_assign rfl) <| nq (y_assign rfl) <| nend <| qsub (sub_cons (t := 2) rfl <| sub_cons (t := 1) rfl <| sub_cons (t := 0) rfl <| sub_nil) <| qthen <| cseq <| creg <| nq (y_build0 ti40 rfl (by kernel_rfl)) <| nq (y_build ti23 rfl rfl (by kernel_rfl) ((bldD 7))) <| ?_
  refine nx (x_call rfl Tryz.call47 (add_ok (List.replicate 32 0) none 0 0 [] (7 :: List.replicate 31 0) _ z32 (Rd.nil _ _ _) D32nil trivial h7 (by omega)) ?_)
  rintro e_ w2 ⟨v2, rfl, ho2, hf2⟩
  refine ⟨_, rfl, ?_⟩
  obtain ⟨A2, c2, rfl, hc2⟩ := ho2.slice
  have r2 := (Own.rd ho2).2.2
  have e2 : dput [] ((7 : UInt8) :: List.replicate 31 0) = [7 :: List.replicate 31 0] := rfl
  rw [e2] at ho2 r2 ⊢
  have hDs : D32 [(7 : UInt8) :: List.replicate 31 0] := fun x hx => by
    have : x = (7 : UInt8) :: List.replicate 31 0 := by simpa using hx
    rw [this]; exact h7
  refine nq (y_move rfl) <| nq (y_extract rfl rfl) <| nq (y_extract rfl rfl) <| ?_
  refine nx (x_alloc ti40 fun g3 w3 hg3 hf3 hb3 => ?_)
  refine nx0 (x_stA rfl rfl sz40 (j_len z32) (j_one rfl) hb3 rfl fun w4 hf4 hb4 hs4 => ?_)
  have f24 : Fr No w2 w4 := hf3.new hf4 (fun i hi => by omega)
  refine nq (y_assign rfl) <| nend <| qsub (sub_cons (t := 4) rfl <| sub_cons (t := 3) rfl <| sub_cons (t := 2) rfl <| sub_cons (t := 1) rfl <| sub_cons (t := 0) rfl <| sub_nil) <| qthen <| cseq <| creg <| nq (y_move rfl) <| nq (yT (y_eql rfl rfl) (decide_eq_true rfl)) <| nq (y_move rfl) <| ng rfl rfl rfl (y_move rfl) <| ng rfl rfl rfl (y_lenS rfl Tryz.underlying63) <| ng rfl rfl rfl (yT (y_eql rfl rfl) (decide_eq_true rfl)) <| nq (y_pickT rfl rfl) <| nq (y_move rfl) <| ng rfl rfl rfl (y_move rfl) <| ng rfl rfl rfl (yT (y_eql rfl rfl) (decide_eq_true rfl)) <| nq (y_pickT rfl rfl) <| nq (y_move rfl) <| ng rfl rfl rfl (y_fld rfl fa40_1 (by decide)) <| ng rfl rfl rfl (y_ld1 rfl ag24 (j_s hb4 z32)) <| ng rfl rfl rfl (y_lenS rfl Tryz.underlying24) <| ng rfl rfl rfl (yT (y_eql rfl rfl) (decide_eq_true rfl)) <| nq (y_pickT rfl rfl) <| nq (y_move rfl) <| ng rfl rfl rfl (y_ldN rfl ag40 sz40 ((j_len z32)) hb4.cells0) <| ng rfl rfl rfl (y_build ti23 rfl rfl (by kernel_rfl) ((bldD 7))) <| ?_
  refine nxg rfl rfl rfl (x_call rfl Tryz.call48 (has (List.replicate 32 0) A2 1 c2 [7 :: List.replicate 31 0] (7 :: List.replicate 31 0) _ z32 (r2.fr0 f24) hDs trivial h7 (by omega)) ?_)
  rintro e_ w5 ⟨rfl, hf5⟩
  refine ⟨_, rfl, ?_⟩
  rw [show decide ((7 : UInt8) :: List.replicate 31 0 ∈ [(7 : UInt8) :: List.replicate 31 0]) = true by decide]
  refine nq (y_pickT rfl rfl) <| nq (y_move rfl) <| ng rfl rfl rfl (y_ldN rfl ag40 sz40 ((j_len z32)) ((hb4.fr0 hf5).cells0)) <| ng rfl rfl rfl (y_build ti23 rfl rfl (by kernel_rfl) ((bldD 8))) <| ?_
  refine nxg rfl rfl rfl (x_call rfl Tryz.call48 (has (List.replicate 32 0) A2 1 c2 [7 :: List.replicate 31 0] (8 :: List.replicate 31 0) _ z32 ((r2.fr0 f24).fr0 hf5) hDs trivial h8 (by omega)) ?_)
  rintro e_ w6 ⟨rfl, hf6⟩
  refine ⟨_, rfl, ?_⟩
  rw [show decide ((8 : UInt8) :: List.replicate 31 0 ∈ [(7 : UInt8) :: List.replicate 31 0]) = false by decide]
  refine ng rfl rfl rfl ((y_not rfl)) <| nq (y_pickT rfl rfl) <| nq (y_assign rfl) <| nend <| qsub (sub_cons (t := 0) rfl <| sub_cons (t := 4) rfl <| sub_cons (t := 3) rfl <| sub_cons (t := 2) rfl <| sub_cons (t := 1) rfl <| sub_nil) <| qthen <| cret <| ?_
  exact ret1 trivial rfl rfl ⟨rfl, ((((hf1.trans0 hf2).trans0 f24).trans0 hf5).trans0 hf6)⟩
end Go.Proofs.YtlbecpekemlllaaGreat
end
section
/- A journal's bytes, read: plain lists. No program. -/
set_option linter.unusedVariables false
set_option linter.unusedSimpArgs false
namespace Go.Hx
open Go.Eng
def chunks (k : Nat) (l : List UInt8) : List (List UInt8) := (List.range k).map fun i => (l.drop (32 * i)).take 32
theorem chunks_length (k : Nat) (l : List UInt8) : (chunks k l).length = k := by simp [chunks]
theorem chunks_succ (k : Nat) (l : List UInt8) : chunks (k + 1) l = chunks k l ++ [(l.drop (32 * k)).take 32] := by simp [chunks, List.range_succ]
theorem chunks_D32 {k : Nat} {l : List UInt8} (h : 32 * k ≤ l.length) : D32 (chunks k l) := by
  intro x hx
  simp only [chunks, List.mem_map, List.mem_range] at hx
  obtain ⟨i, hi, rfl⟩ := hx
  rw [List.length_take, List.length_drop]
  omega
theorem chunks_flatten {k : Nat} {l : List UInt8} (h : 32 * k ≤ l.length) : (chunks k l).flatten = l.take (32 * k) := by
  induction k with
  | zero => simp [chunks]
  | succ k ih =>
    rw [chunks_succ, List.flatten_append, ih (by omega)]
    simp only [List.flatten_cons, List.flatten_nil, List.append_nil]
    rw [show 32 * (k + 1) = 32 * k + 32 by omega, List.take_add]
/-- the number of four bytes, the lowest one first -/
def num4 (l : List UInt8) : Nat := (l.getD 0 0).toNat + 256 * (l.getD 1 0).toNat + 65536 * (l.getD 2 0).toNat + 16777216 * (l.getD 3 0).toNat
theorem num4_lt (l : List UInt8) : num4 l < 4294967296 := by
  have h0 := (l.getD 0 0).toNat_lt
  have h1 := (l.getD 1 0).toNat_lt
  have h2 := (l.getD 2 0).toNat_lt
  have h3 := (l.getD 3 0).toNat_lt
  unfold num4
  omega
theorem le4_num4 {l : List UInt8} (h : l.length = 4) : le4 (num4 l) = l := by
  match l, h with
  | [a, b, c, d], _ =>
    have h0 := a.toNat_lt
    have h1 := b.toNat_lt
    have h2 := c.toNat_lt
    have h3 := d.toNat_lt
    have e : ∀ (x : Nat) (u : UInt8), x % 256 = u.toNat → UInt8.ofNat x = u := fun x u hx => by
      apply UInt8.toNat_inj.1
      rw [UInt8.toNat_ofNat']
      exact hx
    simp only [le4, num4, List.getD_cons_zero, List.getD_cons_succ]
    rw [e _ a (by omega), e _ b (by omega), e _ c (by omega), e _ d (by omega)]
theorem num4_le4 {n : Nat} (h : n < 4294967296) : num4 (le4 n) = n := by
  simp only [le4, num4, List.getD_cons_zero, List.getD_cons_succ, UInt8.toNat_ofNat']
  omega
theorem putL_inj {a b : List UInt8} (h : putL a = putL b) : a = b := by
  have hl : a.length = b.length := by
    have := congrArg List.length h
    rw [putL_length, putL_length] at this
    omega
  have := congrArg (List.take a.length) h
  unfold putL at this
  rw [List.take_left] at this
  rw [hl, List.take_left] at this
  exact this
end Go.Hx
end
section
/- Contracts: journal.Read, the reference's Read; the law JournalReads. -/
set_option linter.unusedVariables false
set_option linter.unusedSimpArgs false
set_option maxRecDepth 20000
namespace Go.Proofs.YtlbecpekemlllaaGreat
open Go.Eng Go.Hx
def jpre : List UInt8 := [76, 84, 74, 49]
def imgOf (b : List UInt8) : List UInt8 := (b.drop 4).take 32
def cntOf (b : List UInt8) : Nat := (b.length - 40) / 32
def dsOf (b : List UInt8) : List (List UInt8) := chunks (cntOf b) (b.drop 40)
/-- the body of a journal -/
structure OkJ (b : List UInt8) : Prop where
  len : 40 ≤ b.length
  mod : (b.length - 40) % 32 = 0
  may : JMay (dsOf b)
  eq : jbody (imgOf b) (dsOf b) = b
theorem split_body {b : List UInt8} (h : 40 ≤ b.length) : b = b.take 4 ++ imgOf b ++ (b.drop 36).take 4 ++ b.drop 40 := by
  have e1 : b.drop 36 = (b.drop 36).take 4 ++ b.drop 40 := by
    conv => lhs; rw [← List.take_append_drop 4 (b.drop 36)]
    rw [List.drop_drop]
  have e2 : b.drop 4 = imgOf b ++ b.drop 36 := by
    conv => lhs; rw [← List.take_append_drop 32 (b.drop 4)]
    rw [List.drop_drop]
    rfl
  conv => lhs; rw [← List.take_append_drop 4 b, e2, e1]
  simp
theorem img_len {b : List UInt8} (h : 40 ≤ b.length) : (imgOf b).length = 32 := by
  rw [imgOf, List.length_take, List.length_drop]; omega
theorem ds_D32 {b : List UInt8} (h : 40 ≤ b.length) : D32 (dsOf b) := chunks_D32 (by rw [List.length_drop, cntOf]; omega)
theorem ds_length (b : List UInt8) : (dsOf b).length = cntOf b := chunks_length _ _
theorem flat_all {b : List UInt8} (h : 40 ≤ b.length) (hm : (b.length - 40) % 32 = 0) : (dsOf b).flatten = b.drop 40 := by
  rw [dsOf, Go.Hx.chunks_flatten (by rw [List.length_drop, cntOf]; omega), List.take_of_length_le]
  rw [List.length_drop, cntOf]; omega
/-- what the program looks at -/
theorem okJ_iff {b : List UInt8} (h : 40 ≤ b.length) : OkJ b ↔ b.take 4 = jpre ∧ b.length - 40 = 32 * num4 ((b.drop 36).take 4) ∧ JMay (dsOf b) := by
  have hs := split_body h
  have l4 : ((b.drop 36).take 4).length = 4 := by rw [List.length_take, List.length_drop]; omega
  have t4 : (b.take 4).length = 4 := by rw [List.length_take]; omega
  have hi := img_len h
  constructor
  · rintro ⟨h1, h2, h3, h4⟩
    have hc : cntOf b < 4294967296 := by have := h3.2; rw [ds_length] at this; omega
    rw [jbody, flat_all h1 h2, ds_length] at h4
    have h5 := h4.trans hs
    rw [List.append_assoc, List.append_assoc, List.append_assoc (b.take 4 ++ imgOf b), List.append_assoc (b.take 4)] at h5
    obtain ⟨h6, h7⟩ := List.append_inj h5 (by rw [t4]; rfl)
    obtain ⟨_, h8⟩ := List.append_inj h7 rfl
    obtain ⟨h9, _⟩ := List.append_inj h8 (by rw [l4]; rfl)
    refine ⟨h6.symm, ?_, h3⟩
    rw [← h9, num4_le4 hc, cntOf]
    omega
  · rintro ⟨h1, h2, h3⟩
    have hm : (b.length - 40) % 32 = 0 := by omega
    have hc : cntOf b = num4 ((b.drop 36).take 4) := by rw [cntOf]; omega
    refine ⟨h, hm, h3, ?_⟩
    rw [jbody, flat_all h hm, ds_length, hc, le4_num4 l4]
    conv => rhs; rw [hs, h1]
    rfl
/-- what Read tells -/
def ReadJ (l : List UInt8) (img : List UInt8) (ds : List (List UInt8)) (e : Int) : Prop :=
  (takeE l ≠ 0 ∧ img = List.replicate 32 0 ∧ ds = [] ∧ e = takeE l) ∨
  (takeE l = 0 ∧ OkJ (l.take (l.length - 4)) ∧ img = imgOf (l.take (l.length - 4)) ∧ ds = dsOf (l.take (l.length - 4)) ∧ e = 0) ∨
  (takeE l = 0 ∧ ¬ OkJ (l.take (l.length - 4)) ∧ img = List.replicate 32 0 ∧ ds = [] ∧ e = 2)
theorem ReadJ.same {l i1 i2 : List UInt8} {d1 d2 : List (List UInt8)} {e1 e2 : Int} (h : ReadJ l i1 d1 e1) (h' : ReadJ l i2 d2 e2) : i1 = i2 ∧ d1 = d2 ∧ e1 = e2 := by
  rcases h with ⟨a, rfl, rfl, rfl⟩ | ⟨a, b, rfl, rfl, rfl⟩ | ⟨a, b, rfl, rfl, rfl⟩ <;> rcases h' with ⟨a', rfl, rfl, rfl⟩ | ⟨a', b', rfl, rfl, rfl⟩ | ⟨a', b', rfl, rfl, rfl⟩ <;> first | exact ⟨rfl, rfl, rfl⟩ | exact absurd a' a | exact absurd a a' | exact absurd b b' | exact absurd b' b
theorem Rd.sub {w : World} {A : Option Addr} {N c : Nat} {B : List UInt8} (h : Rd w 1 A N (b8s B)) (hc : N ≤ c) {k m : Nat} (hk : k + m ≤ N) : Rd w 1 (if c = k then A else A.map (·.add (k * 1))) m (b8s ((B.drop k).take m)) := by
  have h1 := Rd.cut h (show k ≤ N by omega) hc
  rw [Nat.mul_one, ← b8s_drop] at h1
  rw [Nat.mul_one]
  exact Rd.takeB h1 (by omega)
theorem rread (A : Option Addr) (n c : Nat) (l : List UInt8) (w : World) (hr : Rd w 1 A n (b8s l)) (hc : n ≤ c) (hn : n ≤ 1000000) :
    Calls Tryz.prog 45 #[.slice A n c] w fun e w' => (∃ img v ds err, e = .returned (.tuple #[.agg (b8s img ++ [v]).toArray, .int .i64 err]) ∧ Own w' w.heap.size 23 32 v ds.length (dc ds) ∧ img.length = 32 ∧ D32 ds ∧ ReadJ l img ds err) ∧ Fr No w w' := by
  have hl : l.length = n := by have := hr.1; rw [b8s_length] at this; omega
  have z32 : (List.replicate 32 (0 : UInt8)).length = 32 := by simp
  refine enter (N := 64) Tryz.func45 rfl rfl (by simp) ?_
  refine cseq <| creg <| ?_
  refine nx (x_alloc ti26 fun g2 w1 hg2 hf1 hb2 => ?_)
  refine nq (y_assign rfl) <| nend <| qthen <| cseq <| creg <| nq (y_move rfl) <| ?_
  refine nx (x_call rfl Tryz.call75 (rTake A n c l _ (hr.fr0 hf1) hc (by omega)) ?_)
  rintro e_ w2 ⟨⟨v, rfl, hv⟩, hf2⟩
  refine ⟨_, rfl, ?_⟩
  have b22 := hb2.fr0 hf2
  have f02 := hf1.trans0 hf2
  have s2 := hf2.size
  have s1 := hf1.size
  refine nq (y_move rfl) <| nq (y_extract rfl rfl) <| nq (y_extract rfl rfl) <| nq (y_assign rfl) <| nq (y_assign rfl) <| nend <| qsub (sub_cons (t := 5) rfl <| sub_cons (t := 4) rfl <| sub_cons (t := 3) rfl <| sub_cons (t := 2) rfl <| sub_cons (t := 0) rfl <| sub_nil) <| qthen <| cseq <| cseq <| creg <| nq (y_move rfl) <| nq (y_neq rfl rfl) <| nend <| qsub (sub_cons (t := 15) rfl <| sub_cons (t := 5) rfl <| sub_cons (t := 4) rfl <| sub_cons (t := 3) rfl <| sub_cons (t := 2) rfl <| sub_cons (t := 0) rfl <| sub_nil) <| qthen <| ?_
  refine cif rfl (fun h => ?_) (fun h => ?_)
  · refine cseq <| creg <| nq (y_build0 ti26 rfl (by kernel_rfl)) <| nq (y_move rfl) <| ?_
    refine nx0 (x_stA rfl rfl sz26 (j_len z32) (j_one (s := .slice none 0 0) rfl) b22 rfl fun w3 hf3 hb3 hs3 => ?_)
    refine nq (y_assign rfl) <| nend <| qsub (sub_cons (t := 3) rfl <| sub_cons (t := 15) rfl <| sub_cons (t := 5) rfl <| sub_cons (t := 4) rfl <| sub_cons (t := 2) rfl <| sub_cons (t := 0) rfl <| sub_nil) <| qthen <| cret <| qthen_ret <| ?_
    exact retN1 trivial rfl rfl rfl ag26 sz26 (j_len z32) hb3.cells0 ⟨⟨List.replicate 32 0, .slice none 0 0, [], _, rfl, Own.nil _ _ _ _, z32, D32nil, .inl ⟨h, rfl, rfl, rfl⟩⟩, f02.new hf3 (fun i hi => by omega)⟩
  · have h0 := Decidable.not_not.1 h
    obtain ⟨rfl, rb⟩ := hv h0
    have rb := rb.fr0 hf2
    have hn4 : 4 ≤ n := by
      rcases Nat.lt_or_ge l.length 4 with hlt | hge
      · rw [takeE, if_pos hlt] at h0; omega
      · omega
    have hbl : (l.take (n - 4)).length = n - 4 := by rw [List.length_take]; omega
    have hput : putL (l.take (n - 4)) = l := by
      rw [takeE, if_neg (by omega), hl] at h0
      by_cases hp : putL (l.take (n - 4)) = l
      · exact hp
      · rw [if_neg hp] at h0; omega
    generalize hB : l.take (n - 4) = B at rb hbl hput
    have hbad : ¬ OkJ B → ReadJ l (List.replicate 32 0) [] 2 := fun hb => .inr (.inr ⟨h0, by rw [hl, hB]; exact hb, rfl, rfl, rfl⟩)
    have hok : OkJ B → ReadJ l (imgOf B) (dsOf B) 0 := fun hb => .inr (.inl ⟨h0, by rw [hl, hB]; exact hb, by rw [hl, hB], by rw [hl, hB], rfl⟩)
    generalize hN : n - 4 = N at rb hbl
    refine cskip <| qthen <| cseq <| cseq <| creg <| nq (y_move rfl) <| nq (y_lenS rfl Tryz.underlying63) <| nq (y_lss rfl rfl) <| nq (y_move rfl) <| ?_
    refine nsplit 21 rfl (fun h1 => ?_) (fun h1 => ?_)
    · refine nskip rfl rfl rfl (by decide) <| nskip rfl rfl rfl (by decide) <| nskip rfl rfl rfl (by decide) <| nskip rfl rfl rfl (by decide) <| nskip rfl rfl rfl (by decide) <| nq (y_pickT rfl rfl) <| nend <| qsub (sub_cons (t := 27) rfl <| sub_cons (t := 15) rfl <| sub_cons (t := 5) rfl <| sub_cons (t := 4) rfl <| sub_cons (t := 3) rfl <| sub_cons (t := 2) rfl <| sub_cons (t := 0) rfl <| sub_nil) <| qthen <| ?_
      refine cift rfl (rfl) ?_
      refine cseq <| creg <| nq (y_build0 ti26 rfl (by kernel_rfl)) <| ?_
      refine nx0 (x_stA rfl rfl sz26 (j_len z32) (j_one (s := .slice none 0 0) rfl) b22 (rfl) fun w30 hf30 hb30 hs30 => ?_)
      refine nq (y_assign rfl) <| nend <| qsub (sub_cons (t := 3) rfl <| sub_cons (t := 27) rfl <| sub_cons (t := 15) rfl <| sub_cons (t := 5) rfl <| sub_cons (t := 4) rfl <| sub_cons (t := 2) rfl <| sub_cons (t := 0) rfl <| sub_nil) <| qthen <| cret <| qthen_ret <| ?_
      exact retN1 trivial rfl rfl rfl ag26 sz26 (j_len z32) hb30.cells0 ⟨⟨List.replicate 32 0, .slice none 0 0, [], _, rfl, Own.nil _ _ _ _, z32, D32nil, hbad (fun hb => by have := hb.len; omega)⟩, (f02).new hf30 (fun i hi => by omega)⟩
    · refine ng rfl rfl rfl (y_move rfl) <| ng rfl rfl rfl (y_lenS rfl Tryz.underlying63) <| ng rfl rfl rfl (y_sub rfl rfl (w64 (by omega) (by omega))) <| ng rfl rfl rfl (y_rem rfl rfl (by omega) (by omega)) <| ng rfl rfl rfl (y_neq rfl rfl) <| nq (y_pickF rfl rfl) <| nend <| qsub (sub_cons (t := 27) rfl <| sub_cons (t := 15) rfl <| sub_cons (t := 5) rfl <| sub_cons (t := 4) rfl <| sub_cons (t := 3) rfl <| sub_cons (t := 2) rfl <| sub_cons (t := 0) rfl <| sub_nil) <| qthen <| ?_
      refine cif rfl (fun h2 => ?_) (fun h2 => ?_)
      · refine cseq <| creg <| nq (y_build0 ti26 rfl (by kernel_rfl)) <| ?_
        refine nx0 (x_stA rfl rfl sz26 (j_len z32) (j_one (s := .slice none 0 0) rfl) b22 (rfl) fun w30 hf30 hb30 hs30 => ?_)
        refine nq (y_assign rfl) <| nend <| qsub (sub_cons (t := 3) rfl <| sub_cons (t := 27) rfl <| sub_cons (t := 15) rfl <| sub_cons (t := 5) rfl <| sub_cons (t := 4) rfl <| sub_cons (t := 2) rfl <| sub_cons (t := 0) rfl <| sub_nil) <| qthen <| cret <| qthen_ret <| ?_
        exact retN1 trivial rfl rfl rfl ag26 sz26 (j_len z32) hb30.cells0 ⟨⟨List.replicate 32 0, .slice none 0 0, [], _, rfl, Own.nil _ _ _ _, z32, D32nil, hbad (fun hb => h2 (by have := hb.len; have := hb.mod; omega))⟩, (f02).new hf30 (fun i hi => by omega)⟩
      · have h40 : 40 ≤ B.length := by omega
        have hmod : (B.length - 40) % 32 = 0 := by omega
        have hiL := img_len h40
        refine cskip <| qthen <| cseq <| creg <| nq (y_move rfl) <| nq (y_slBoth rfl rfl rfl Tryz.underlying63 sz5 (show ((4 : Nat) : Int) = 4 from rfl) (show ((36 : Nat) : Int) = 36 from rfl) ((by omega)) ((by omega))) <| ?_
        refine nx (x_call rfl Tryz.call76 (of _ _ _ _ (Rd.sub rb (by omega) (k := 4) (m := 32) (by omega))) ?_)
        rintro e_ w3 ⟨rfl, hf3⟩
        refine ⟨_, rfl, ?_⟩
        refine nq (y_build ti26 rfl rfl (by kernel_rfl) ((bldJ0 pl26_0 (by simp) hiL))) <| ?_
        refine nx (x_alloc ti26 fun g6 w4 hg6 hf4 hb4 => ?_)
        refine nx0 (x_stA rfl rfl sz26 (j_len hiL) (j_one (s := .slice none 0 0) rfl) hb4 rfl fun w5 hf5 hb5 hs5 => ?_)
        have f25 : Fr No w2 w5 := (hf3.trans0 hf4).new hf5 (fun i hi => by have := hf3.size; omega)
        have f05 := f02.trans0 f25
        have b25 := b22.fr0 f25
        have l25 := b22.lt
        have l6 := hb5.lt
        have s25 := f25.size
        have s3 := hf3.size
        refine nend <| qsub (sub_cons (t := 6) rfl <| sub_cons (t := 27) rfl <| sub_cons (t := 15) rfl <| sub_cons (t := 5) rfl <| sub_cons (t := 4) rfl <| sub_cons (t := 3) rfl <| sub_cons (t := 2) rfl <| sub_cons (t := 0) rfl <| sub_nil) <| qthen <| cseq <| cseq <| creg <| nq (y_assign rfl) <| nend <| qthen <| cblock <| ?_
        refine cloop2 (fun k _ => N - (40 + 32 * k)) (fun k _ => [(0, .slice A n c), (2, .pointer (some ⟨g2, 0, none⟩)), (4, .slice A N c), (6, .pointer (some ⟨g6, 0, none⟩)), (7, .int .i64 ((40 + 32 * k : Nat) : Int))]) (fun k v w' => 40 + 32 * k ≤ N ∧ Fr No w2 w' ∧ (∃ cs, Blk w' g2 26 cs ∧ cs.length = 33) ∧ Blk w' g6 26 (b8s (imgOf B) ++ [v]) ∧ Own w' w5.heap.size 23 32 v k (dc (chunks k (B.drop 40))) ∧ w5.heap.size ≤ w'.heap.size) 0 (.slice none 0 0) (⟨by omega, f25, ⟨_, b25, rfl⟩, hb5, Own.nil _ _ _ _, Nat.le_refl _⟩) (sub_cons (t := 0) rfl <| sub_cons (t := 2) rfl <| sub_cons (t := 4) rfl <| sub_cons (t := 6) rfl <| sub_cons (t := 7) rfl <| sub_nil) (fun k v w6 ⟨hk, hf6, ⟨cs2, hc2, hcl2⟩, hb6, ho6, hs6⟩ => ?_)
        refine cseq <| cseq <| creg <| nq (y_move rfl) <| nq (y_move rfl) <| nq (y_lenS rfl Tryz.underlying63) <| nq (y_lss rfl rfl) <| nend <| qsub (sub_cons (t := 36) rfl <| sub_cons (t := 0) rfl <| sub_cons (t := 2) rfl <| sub_cons (t := 4) rfl <| sub_cons (t := 6) rfl <| sub_cons (t := 7) rfl <| sub_nil) <| qthen <| ?_
        refine cif rfl (fun h5 => ?_) (fun h5 => ?_)
        · have hk2 : 40 + 32 * k + 32 ≤ N := by omega
          refine cskip <| qthen <| cseq <| cblock <| ?_
          refine cdrwT [7, 8, 9, 11] [(0, some 2), (1, some 2), (2, some 0), (3, some 0), (4, some 0), (5, some 0), (6, some 0), (7, none), (8, none), (9, none), (10, some 3), (11, none)] (by kernel_rfl) (by kernel_rfl) rfl (fun k w' => k ≤ 2 → Fr No w6 w') (fun _ => Fr.drew _) (fun w7 hf7 hS7 => ?_)
          have hS7 := hS7 (by omega)
          refine tq (fun k_ w_ h1_ h2_ hT_ => have hS_ := (fun _ _ (h : _ ≤ 2) hT => hT h) k_ w_ h2_ hT_; y_fld rfl fa26_1 (by decide)) <| tq (fun k_ w_ h1_ h2_ hT_ => have hS_ := (fun _ _ (h : _ ≤ 2) hT => hT h) k_ w_ h2_ hT_; y_ld1 rfl ag24 ((j_s (hb6.fr0 hS_) hiL))) <| tq1 (fun w_ hS_ => y_move rfl) <| tq1 (fun w_ hS_ => y_move rfl) <| tq1 (fun w_ hS_ => y_move rfl) <| tq1 (fun w_ hS_ => y_add rfl rfl (w64 (by omega) (by omega))) <| tq1 (fun w_ hS_ => yV (y_slBoth rfl rfl rfl Tryz.underlying63 sz5 (show ((40 + 32 * k : Nat) : Int) = _ by rfl) (show ((40 + 32 * k + 32 : Nat) : Int) = _ by omega) ((by omega)) ((by omega))) ((show Value.slice _ (40 + 32 * k + 32 - (40 + 32 * k)) _ = Value.slice _ 32 _ by rw [Nat.add_sub_cancel_left]))) <| ?_
          refine tx (x_call rfl Tryz.call76 (of _ _ _ _ (Rd.sub ((rb.fr0 hf6).fr0 hS7) (by omega) (k := 40 + 32 * k) (m := 32) (by omega))) ?_)
          rintro e_ w8 ⟨rfl, hf8⟩
          refine ⟨_, rfl, ?_⟩
          refine ⟨fun _ => hS7.trans0 hf8, ?_⟩
          have hS8 := hS7.trans0 hf8
          have hcl : (b8s ((B.drop (40 + 32 * k)).take 32)).length = 32 := by rw [b8s_length, List.length_take, List.length_drop]; omega
          refine tx (x_bsl Tryz.underlying24 ti23 rfl rfl rfl (by simp only [List.mem_singleton, forall_eq]; exact hcl) (by decide) (by decide) fun g9 w9 hg9 hf9 hb9 => ?_)
          have hS9 := hS8.trans0 hf9
          refine ⟨fun _ => hS9, ?_⟩
          have hb9 : Blk w9 g9 23 (dc [(B.drop (40 + 32 * k)).take 32]) := by simpa [Value.cells, dc] using hb9
          refine tx (x_app rfl rfl Tryz.underlying24 Tryz.underlying24 (by exact .inl rfl) ti23 rfl (ho6.fr0 hS9) (Src.of_blk hb9 (by rw [dc_one, hcl])) dc_oneCell (by unfold maxLen; omega) (by omega) (by have := hS9.size; omega) fun v10 w10 ho10 hf10 hv10 => ?_)
          refine ⟨fun h => absurd h (by omega), ?_⟩
          rw [← dc_append] at ho10
          have hch : chunks (k + 1) (B.drop 40) = chunks k (B.drop 40) ++ [(B.drop (40 + 32 * k)).take 32] := by rw [chunks_succ, List.drop_drop]
          rw [← hch] at ho10
          have b610 := (hb6.fr0 hS9).fr hf10 (fun hv => by have := (ho6.from hv).1; omega)
          have b210 := (hc2.fr0 hS9).fr hf10 (fun hv => by have := (ho6.from hv).1; omega)
          have f610 : Fr No w2 w10 := (hf6.trans0 hS9).new hf10 (fun i hi => by have := (ho6.from hi).1; omega)
          obtain ⟨ov10, _⟩ := own_slice1 ho10
          refine tq1 (fun w_ hS_ => y_fld rfl fa26_1 (by decide)) <| ?_
          refine tx0 (x_st1a rfl rfl sz24 ov10 b610 (by rw [j_len hiL]; decide) fun w11 hf11 b611 hs11 => ?_)
          refine ⟨fun h => absurd h (by omega), ?_⟩
          rw [Nat.zero_add, j_set hiL] at b611
          refine tend <| qsub (sub_cons (t := 36) rfl <| sub_cons (t := 0) rfl <| sub_cons (t := 2) rfl <| sub_cons (t := 4) rfl <| sub_cons (t := 6) rfl <| sub_cons (t := 7) rfl <| sub_nil) <| qblock <| qthen <| creg <| nq (y_move rfl) <| nq (yV (y_add rfl rfl (w64 (by omega) (by omega))) ((show Value.int .i64 (((40 + 32 * k : Nat) : Int) + 32) = .int .i64 ((40 + 32 * (k + 1) : Nat) : Int) by congr 1))) <| nq (y_assign rfl) <| nend <| qsub (sub_cons (t := 7) rfl <| sub_cons (t := 36) rfl <| sub_cons (t := 0) rfl <| sub_cons (t := 2) rfl <| sub_cons (t := 4) rfl <| sub_cons (t := 6) rfl <| sub_nil) <| ?_
          refine qloop2 (k + 1) v10 (sub_cons (t := 0) rfl <| sub_cons (t := 2) rfl <| sub_cons (t := 4) rfl <| sub_cons (t := 6) rfl <| sub_cons (t := 7) rfl <| sub_nil) (⟨by omega, f610.new hf11 (fun i hi => by omega), ⟨cs2, b210.fr hf11 (by omega), hcl2⟩, b611, ho10.fr hf11 (fun i hi => by have := (ho10.from hi).1; omega), by have := hS9.size; have := hf10.size; omega⟩) (by omega)
        · have hkc : k = cntOf B := by rw [cntOf]; omega
          have hds : chunks k (B.drop 40) = dsOf B := by rw [dsOf, hkc]
          rw [hds] at ho6
          have hDD := ds_D32 h40
          have hDl := ds_length B
          rw [← hkc] at hDl
          obtain ⟨A6, c6, rfl, hc6⟩ := ho6.slice
          have r6 := (Own.rd ho6).2.2
          have f06 := f02.trans0 hf6
          refine cexit <| qthen_exit <| qthen_exit <| qblock_exit <| qthen <| cseq <| creg <| nq (y_ldN rfl ag26 sz26 ((j_len hiL)) hb6.cells0) <| ?_
          refine nx (x_call rfl Tryz.call24 (rmay (imgOf B) A6 k c6 (dsOf B) _ hiL r6 hDD (by omega)) ?_)
          rintro e_ w7 ⟨rfl, hf7⟩
          refine ⟨_, rfl, ?_⟩
          have b67 := hb6.fr0 hf7
          have f67 := f06.trans0 hf7
          refine nq (y_assign rfl) <| nend <| qsub (sub_cons (t := 8) rfl <| sub_cons (t := 36) rfl <| sub_cons (t := 0) rfl <| sub_cons (t := 2) rfl <| sub_cons (t := 4) rfl <| sub_cons (t := 6) rfl <| sub_cons (t := 7) rfl <| sub_nil) <| qthen <| cseq <| cseq <| ?_
          refine cdrw [(0, false), (1, false), (2, false), (3, false), (6, false), (7, false), (4, true), (5, true), (8, false), (9, false)] (by kernel_rfl) (by kernel_rfl) rfl (fun w' => Fr No w7 w') (Fr.drew _) (fun w8 hf8 hS8 => ?_)
          refine sq (fun w_ hS_ => y_move rfl) <| sq (fun w_ hS_ => (y_notp rfl)) <| sq (fun w_ hS_ => y_move rfl) <| ?_
          refine ssplit 54 rfl (fun h7 => ?_) (fun h7 => ?_)
          · refine sskip rfl rfl rfl (by decide) <| sskip rfl rfl rfl (by decide) <| sskip rfl rfl rfl (by decide) <| sskip rfl rfl rfl (by decide) <| sskip rfl rfl rfl (by decide) <| sskip rfl rfl rfl (by decide) <| sq (fun w_ hS_ => y_pickT rfl rfl) <| send <| qsub (sub_cons (t := 61) rfl <| sub_cons (t := 8) rfl <| sub_cons (t := 36) rfl <| sub_cons (t := 0) rfl <| sub_cons (t := 2) rfl <| sub_cons (t := 4) rfl <| sub_cons (t := 6) rfl <| sub_cons (t := 7) rfl <| sub_nil) <| qthen <| ?_
            refine cift rfl (rfl) ?_
            refine cseq <| creg <| nq (y_build0 ti26 rfl (by kernel_rfl)) <| ?_
            refine nx0 (x_stA rfl rfl sz26 (j_len z32) (j_one (s := .slice none 0 0) rfl) ((hc2.fr0 hf7).fr0 hS8) (hcl2) fun w30 hf30 hb30 hs30 => ?_)
            refine nq (y_assign rfl) <| nend <| qsub (sub_cons (t := 3) rfl <| sub_cons (t := 61) rfl <| sub_cons (t := 8) rfl <| sub_cons (t := 36) rfl <| sub_cons (t := 0) rfl <| sub_cons (t := 2) rfl <| sub_cons (t := 4) rfl <| sub_cons (t := 6) rfl <| sub_cons (t := 7) rfl <| sub_nil) <| qthen <| cret <| qthen_ret <| ?_
            exact retN1 trivial rfl rfl rfl ag26 sz26 (j_len z32) hb30.cells0 ⟨⟨List.replicate 32 0, .slice none 0 0, [], _, rfl, Own.nil _ _ _ _, z32, D32nil, hbad (fun hb => h7 hb.may)⟩, ((f67.trans0 hS8)).new hf30 (fun i hi => by omega)⟩
          · have hJ : JMay (dsOf B) := Decidable.not_not.1 h7
            have hl7 := hJ.2
            refine sqg (o := _) rfl rfl rfl (fun w_ hS_ => y_ldN rfl ag26 sz26 ((j_len hiL)) ((b67.fr0 hS_).cells0)) <| sqg (o := _) rfl rfl rfl (fun w_ hS_ => y_move rfl) <| sqg (o := _) rfl rfl rfl (fun w_ hS_ => y_b2s rfl Tryz.underlying63 Tryz.underlying5 Tryz.underlying9 ((hr.fr0 (f67.trans0 hS_)))) <| ?_
            refine sxg rfl rfl rfl (x_call rfl Tryz.call26 (rbytes (imgOf B) A6 k c6 (dsOf B) _ hiL ((r6.fr0 hf7).fr0 hS8) hDD (by omega)) ?_)
            rintro e_ w9 ⟨v9, rfl, ho9, hf9⟩
            refine ⟨_, rfl, ?_⟩
            refine ⟨hS8.trans0 hf9, ?_⟩
            have hS9 := hS8.trans0 hf9
            obtain ⟨A9, c9, rfl, hc9⟩ := ho9.slice
            refine syg (o := _) rfl rfl rfl (hS9) (y_b2s rfl Tryz.underlying63 Tryz.underlying5 Tryz.underlying9 ((Own.rd ho9).2.2)) <| sqg (o := _) rfl rfl rfl (fun w_ hS_ => y_sne rfl rfl) <| sq (fun w_ hS_ => y_pickF rfl rfl) <| send <| qsub (sub_cons (t := 61) rfl <| sub_cons (t := 8) rfl <| sub_cons (t := 36) rfl <| sub_cons (t := 0) rfl <| sub_cons (t := 2) rfl <| sub_cons (t := 4) rfl <| sub_cons (t := 6) rfl <| sub_cons (t := 7) rfl <| sub_nil) <| qthen <| ?_
            refine cif rfl (fun h10 => ?_) (fun h10 => ?_)
            · refine cseq <| creg <| nq (y_build0 ti26 rfl (by kernel_rfl)) <| ?_
              refine nx0 (x_stA rfl rfl sz26 (j_len z32) (j_one (s := .slice none 0 0) rfl) ((hc2.fr0 hf7).fr0 hS9) (hcl2) fun w30 hf30 hb30 hs30 => ?_)
              refine nq (y_assign rfl) <| nend <| qsub (sub_cons (t := 3) rfl <| sub_cons (t := 61) rfl <| sub_cons (t := 8) rfl <| sub_cons (t := 36) rfl <| sub_cons (t := 0) rfl <| sub_cons (t := 2) rfl <| sub_cons (t := 4) rfl <| sub_cons (t := 6) rfl <| sub_cons (t := 7) rfl <| sub_nil) <| qthen <| cret <| qthen_ret <| ?_
              exact retN1 trivial rfl rfl rfl ag26 sz26 (j_len z32) hb30.cells0 ⟨⟨List.replicate 32 0, .slice none 0 0, [], _, rfl, Own.nil _ _ _ _, z32, D32nil, hbad (fun hb => h10 (by rw [hb.eq, hput]))⟩, ((f67.trans0 hS9)).new hf30 (fun i hi => by omega)⟩
            · have h11 := strOf_inj.1 (Decidable.not_not.1 h10)
              have hOk : OkJ B := ⟨h40, hmod, hJ, putL_inj (by rw [h11, hput])⟩
              refine cskip <| qthen <| cseq <| creg <| nq (y_ldN rfl ag26 sz26 ((j_len hiL)) ((b67.fr0 hS9).cells0)) <| ?_
              refine nx0 (x_stA rfl rfl sz26 (j_len hiL) (j_one rfl) ((hc2.fr0 hf7).fr0 hS9) hcl2 fun w12 hf12 hb12 hs12 => ?_)
              refine nq (y_assign rfl) <| nend <| qsub (sub_cons (t := 3) rfl <| sub_cons (t := 61) rfl <| sub_cons (t := 8) rfl <| sub_cons (t := 36) rfl <| sub_cons (t := 0) rfl <| sub_cons (t := 2) rfl <| sub_cons (t := 4) rfl <| sub_cons (t := 6) rfl <| sub_cons (t := 7) rfl <| sub_nil) <| qthen <| cret <| ?_
              have ho12 := ((ho6.fr0 hf7).fr0 hS9).fr hf12 (fun i hi => by have := (ho6.from hi).1; omega)
              exact retN1 trivial rfl rfl rfl ag26 sz26 (j_len hiL) hb12.cells0 ⟨⟨imgOf B, _, dsOf B, _, rfl, by rw [hDl]; exact ho12.wide (by omega), hiL, hDD, hok hOk⟩, (f67.trans0 hS9).new hf12 (fun i hi => by omega)⟩
end Go.Proofs.YtlbecpekemlllaaGreat
end
section
/- The number of four bytes, read from the highest one down. No program. -/
set_option linter.unusedVariables false
namespace Go.Hx
open Go.Eng
/-- what is read of j bytes, the highest one first -/
def acc (l : List UInt8) : Nat → Nat
  | 0 => 0
  | j + 1 => acc l j * 256 + (l.getD (3 - j) 0).toNat
theorem acc_lt (l : List UInt8) : ∀ j, acc l j < 256 ^ j
  | 0 => by simp [acc]
  | j + 1 => by
    have h1 := acc_lt l j
    have h2 := (l.getD (3 - j) 0).toNat_lt
    rw [acc, Nat.pow_succ]
    omega
theorem acc_le (l : List UInt8) {j : Nat} (h : j ≤ 4) : acc l j < 4294967296 := by
  have h1 := acc_lt l j
  have h2 : 256 ^ j ≤ 256 ^ 4 := Nat.pow_le_pow_right (by decide) h
  have h3 : 256 ^ 4 = 4294967296 := by decide
  omega
theorem acc4 (l : List UInt8) : acc l 4 = num4 l := by
  have e : (3 - 0 = 3) ∧ (3 - 1 = 2) ∧ (3 - 2 = 1) ∧ (3 - 3 = 0) := by decide
  simp only [acc, num4, e.1, e.2.1, e.2.2.1, e.2.2.2]
  omega
theorem or_byte (a b : Nat) (ha : a < 4294967296) (hb : b < 256) : bits .or .i64 (a * 256 : Int) (b : Int) = ((a * 256 + b : Nat) : Int) := by
  have h1 : (a * 256 : Int) = ((a * 256 : Nat) : Int) := by simp
  have h2 : a * 256 ||| b = a * 256 + b := by rw [Nat.mul_comm a 256, show 256 = 2 ^ 8 from rfl, Nat.two_pow_add_eq_or_of_lt (by simpa using hb)]
  have e0 : ∀ n : Nat, n < 18446744073709551616 → (BitVec.ofInt 64 (n : Int)).toNat = n := fun n hn => by
    rw [BitVec.toNat_ofInt]
    simp
    omega
  rw [h1]
  show IntKind.i64.wrap ((BitVec.ofInt 64 ((a * 256 : Nat) : Int) ||| BitVec.ofInt 64 (b : Int)).toNat : Int) = _
  rw [BitVec.toNat_or, e0 _ (by omega), e0 _ (by omega), h2]
  exact w64 (by omega) (by omega)
end Go.Hx
end
