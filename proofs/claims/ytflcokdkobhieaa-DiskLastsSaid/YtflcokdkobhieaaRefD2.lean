/- Contracts: the document's disk (layer 12): files with one more, changes. -/
import Derived.Test.YtflcokdkobhieaaRefD1
set_option linter.unusedVariables false
set_option linter.unusedSimpArgs false
set_option maxRecDepth 20000
namespace Go.Proofs.Ytflcokdkobhieaa
open Go.Eng Go.Hx
def sless (a b : List UInt8) : Bool := Op.bytesLess (strOf a).toList (strOf b).toList
def wstep (f : FP) (st : List FP × Bool) (x : FP) : List FP × Bool :=
  let s1 := if st.2 = false ∧ sless x.1 f.1 = false then (st.1 ++ [f], true) else st
  (if x.1 ≠ f.1 then s1.1 ++ [x] else s1.1, s1.2)
def wst (f : FP) (l : List FP) (i : Nat) : List FP × Bool := (l.take i).foldl (wstep f) ([], false)
theorem wst_succ {f : FP} {l : List FP} {i : Nat} {x : FP} (h : l[i]? = some x) : wst f l (i + 1) = wstep f (wst f l i) x := by
  obtain ⟨hi, rfl⟩ := List.getElem?_eq_some_iff.1 h
  unfold wst
  rw [List.take_succ_eq_append_getElem hi, List.foldl_append]
  rfl
def withF (l : List FP) (f : FP) : List FP := if (wst f l l.length).2 then (wst f l l.length).1 else (wst f l l.length).1 ++ [f]
theorem rwithC {A : Option Addr} {n c : Nat} {l : List FP} {f : FP} (hl : l.length = n) (hn : n ≤ 1000000) : Con Try.prog 87 [.slice A n c, .agg [SV f.1, SV f.2].toArray] [] [RRd 2 A n (fc l)] (fun v_ X_ S_ => ∃ v k, v_ = v ∧ X_ = [ROwn 60 2 v k (fc (withF l f))] ∧ S_ = [] ∧ (k = (withF l f).length ∧ k ≤ n + 1)) := by
  refine henter (N := 52) Try.func87 rfl rfl (by simp) fun b => ?_
  refine hfactC (fun m => rdX (m.rd 0 rfl)) ?_
  rintro ⟨hl_r, hA_r⟩
  refine hseq <| hreg <| ?_
  refine hx (xh_box rfl (fun g3 => ?_))
  refine hmemL (fun w m => m.eqX 0 rfl (show _ = RBlk g3 60 [SV f.1, SV f.2] from congrArg (RBlk _ _) (cells_agg _))) ?_
  refine hy (fun _ => y_assign rfl) <| hend <| hmemQ (X' := [_]) (S' := [_]) (fun _ m => m) <| hthen <| hseq <| hreg <| hy (fun _ => y_assign rfl) <| hend <| hthen <| hseq <| hreg <| hy (fun _ => y_assign rfl) <| hend <| hthen <| hseq <| hseq <| hreg <| hy (fun _ => y_assign rfl) <| hend <| hthen <| hblock <| ?_
  refine hmemC (fun w m => m.addX (r' := ROwn 60 2 (.slice none 0 0) 0 []) (.refl _ _) (Own.nil _ _ _ _) (fun k hk => hk.elim)) ?_
  refine hloop6 (fun i A1 k c1 out pt => n - i) (fun i A1 k c1 out pt => [(5, .slice A1 k c1), (6, .bool pt), (7, .int .i64 (i : Nat))]) (fun i A1 k c1 out pt => [ROwn 60 2 (.slice A1 k c1) k (fc out), RBlk g3 60 [SV f.1, SV f.2]]) (fun i A1 k c1 out pt => []) (fun i A1 k c1 out pt => i ≤ n ∧ wst f l i = (out, pt) ∧ k = out.length ∧ k ≤ i + pt.toNat) 0 none 0 0 [] false [(4, _), (3, _), (0, _), (1, _)] ⟨rfl, rfl, rfl, rfl, trivial⟩ [0, 0] rfl [] rfl (⟨Nat.zero_le _, rfl, rfl, Nat.le_refl _⟩) ⟨rfl, rfl, rfl, trivial⟩ (fun i A1 k c1 out pt ⟨hin, hw, hk, hki⟩ => ?_)
  have hpt : pt.toNat ≤ 1 := by cases pt <;> decide
  refine hseq <| hseq <| hreg <| hy (fun _ => y_move rfl) <| hy (fun _ => y_move rfl) <| hy (fun _ => y_lenS rfl Try.underlying51) <| hy (fun _ => y_lss rfl rfl) <| hend <| hsub (ρ' := [(11, _), (5, _), (6, _), (7, _), (4, _), (3, _), (0, _), (1, _)]) ⟨rfl, rfl, rfl, rfl, rfl, rfl, rfl, rfl, trivial⟩ <| hthen <| ?_
  refine hif rfl (fun h => ?_) (fun h => ?_)
  · have hil : i < l.length := by omega
    obtain ⟨x, hgx⟩ : ∃ x, l[i]? = some x := ⟨_, List.getElem?_eq_getElem hil⟩
    obtain ⟨g0, g2⟩ := fc_get l i x hgx
    have hs := wst_succ (f := f) hgx
    rw [hw] at hs
    unfold wstep at hs
    by_cases hp : pt = true
    · subst hp
      simp only [Bool.true_eq_false, false_and, if_false] at hs
      refine hcskip <| hthen <| hseq <| hblock <| hseq <| hseq <| hdrw [] [(0, some 0), (1, some 0), (2, some 0), (3, some 0), (4, some 0), (5, some 0), (6, some 0), (7, some 0), (8, some 0), (9, some 0), (10, some 0), (11, some 0)] (by kernel_rfl) (by kernel_rfl) rfl 99 <| htyU (y_move rfl) <| htyU ((y_not rfl)) <| htyU (y_move rfl) <| htskip rfl rfl rfl (by decide) <| htskip rfl rfl rfl (by decide) <| htskip rfl rfl rfl (by decide) <| htskip rfl rfl rfl (by decide) <| htskip rfl rfl rfl (by decide) <| htskip rfl rfl rfl (by decide) <| htskip rfl rfl rfl (by decide) <| htskip rfl rfl rfl (by decide) <| htyU (y_pickF rfl rfl) <| htend <| hsub (ρ' := [(25, _), (11, _), (5, _), (6, _), (7, _), (4, _), (3, _), (0, _), (1, _)]) ⟨rfl, rfl, rfl, rfl, rfl, rfl, rfl, rfl, rfl, trivial⟩ <| hthen <| ?_
      refine hiff rfl (rfl) ?_
      refine hcskip <| hthen <| hseq <| hdrw [] [(0, some 0), (1, some 0), (2, some 0), (3, some 0), (4, some 0), (5, some 0), (6, some 0), (7, some 0)] (by kernel_rfl) (by kernel_rfl) rfl 99 <| htyU (y_move rfl) <| htyU (y_move rfl) <| htyU (y_idxS rfl rfl Try.underlying51 sz60 hA_r rfl (by omega)) <| htyU (y_fld rfl fa60_0 (by decide)) <| hty (fun m => yV (y_ld1 rfl ag9 (rd_fld (m.rd 0 rfl) g0)) ((rfl : _ = Value.string (strOf x.1)))) <| htyU (y_fld rfl fa60_0 (by decide)) <| hty (fun m => yV (y_ld1 rfl ag9 (ld_blk (m.blk 1 rfl) (i := 0) rfl)) ((rfl : _ = Value.string (strOf f.1)))) <| htyU (y_sne rfl rfl) <| htend <| hsub (ρ' := [(37, _), (25, _), (11, _), (5, _), (6, _), (7, _), (4, _), (3, _), (0, _), (1, _)]) ⟨rfl, rfl, rfl, rfl, rfl, rfl, rfl, rfl, rfl, rfl, trivial⟩ <| hthen <| ?_
      refine hif rfl (fun h1 => ?_) (fun h1 => ?_)
      · have hne : x.1 ≠ f.1 := fun e => h1 (strOf_inj.2 e)
        refine hreg <| hy (fun _ => y_move rfl) <| hy (fun _ => y_move rfl) <| hy (fun _ => y_move rfl) <| hy (fun _ => y_idxS rfl rfl Try.underlying51 sz60 hA_r rfl (by omega)) <| hy (fun m => yV (y_ldN rfl ag60 sz60 rfl (fc_cells (m.rd 0 rfl) hgx)) ((rfl : _ = Value.agg [SV x.1, SV x.2].toArray))) <| ?_
        refine hx (xh_bsl Try.underlying51 ti60 rfl rfl rfl (by simp [Value.cells, B8]) (by decide) (by decide) (fun g43 => ?_))
        have hA_b43 : 0 < 1 → (some (⟨g43, 0, none⟩ : Addr)) ≠ none := fun _ h => by cases h
        refine hmemL (fun w m => m.eqX 0 rfl (show _ = ROwn 60 2 (.slice (some ⟨g43, 0, none⟩) 1 1) 1 (fc [x]) from rfl)) ?_
        refine hx (xh_app 1 rfl rfl rfl Try.underlying51 Try.underlying51 (by exact .inl rfl) ti60 rfl (fun m => Src.of_rd (m.ord 0 rfl)) fc_one (by unfold maxLen; omega) (by omega) (fun u => ?_))
        refine hfactL (fun m => (m.own 0 rfl).slice) ?_
        rintro ⟨A_o, c_o, rfl, hc_o⟩
        refine hfactL (fun m => (m.ord 0 rfl).2.1) fun hA_o => ?_
        refine hmemL (fun w m => m.eqX 0 rfl (show _ = ROwn 60 2 (.slice A_o (k + 1) c_o) (k + 1) (fc (out ++ [x])) from congrArg (ROwn _ _ _ _) (fc_append ..).symm)) ?_
        refine hy (fun _ => y_assign rfl) <| hend <| hsub (ρ' := [(5, _), (37, _), (25, _), (11, _), (6, _), (7, _), (4, _), (3, _), (0, _), (1, _)]) ⟨rfl, rfl, rfl, rfl, rfl, rfl, rfl, rfl, rfl, rfl, trivial⟩ <| hmemQ (X' := [_, _, _]) (S' := [_]) (fun _ m => m) <| hqblock <| hthen <| hreg <| hy (fun _ => y_move rfl) <| hy (fun _ => y_add rfl rfl (w64 (by omega) (by omega))) <| hy (fun _ => y_assign rfl) <| hend <| hsub (ρ' := [(7, _), (5, _), (37, _), (25, _), (11, _), (6, _), (4, _), (3, _), (0, _), (1, _)]) ⟨rfl, rfl, rfl, rfl, rfl, rfl, rfl, rfl, rfl, rfl, trivial⟩ <| ?_
        refine hnext6 (i + 1) A_o (k + 1) c_o (out ++ [x]) true ⟨rfl, rfl, rfl, rfl, rfl, rfl, rfl, trivial⟩ [0, 1] rfl [0] rfl (⟨by omega, by rw [hs, if_pos hne], by rw [List.length_append, hk.symm]; rfl, by simp at hki ⊢; omega⟩) (by omega)
      · have hne : ¬ x.1 ≠ f.1 := fun e => h1 (fun h => e (strOf_inj.1 h))
        refine hcskip <| hqblock <| hthen <| hreg <| hy (fun _ => y_move rfl) <| hy (fun _ => y_add rfl rfl (w64 (by omega) (by omega))) <| hy (fun _ => y_assign rfl) <| hend <| hsub (ρ' := [(7, _), (37, _), (25, _), (11, _), (5, _), (6, _), (4, _), (3, _), (0, _), (1, _)]) ⟨rfl, rfl, rfl, rfl, rfl, rfl, rfl, rfl, rfl, rfl, trivial⟩ <| ?_
        refine hnext6 (i + 1) A1 (k) c1 (out) true ⟨rfl, rfl, rfl, rfl, rfl, rfl, rfl, trivial⟩ [0, 0] rfl [0] rfl (⟨by omega, by rw [hs, if_neg hne], hk.symm.symm, by simp at hki ⊢; omega⟩) (by omega)
    · obtain rfl : pt = false := by simpa using hp
      by_cases hge : sless x.1 f.1 = false
      · simp only [hge, and_self, if_true] at hs
        refine hcskip <| hthen <| hseq <| hblock <| hseq <| hseq <| hdrw [] [(0, some 0), (1, some 0), (2, some 0), (3, some 0), (4, some 0), (5, some 0), (6, some 0), (7, some 0), (8, some 0), (9, some 0), (10, some 0), (11, some 0)] (by kernel_rfl) (by kernel_rfl) rfl 99 <| htyU (y_move rfl) <| htyU ((y_not rfl)) <| htyU (y_move rfl) <| htyUg (o := _) rfl rfl rfl (y_move rfl) <| htyUg (o := _) rfl rfl rfl (y_move rfl) <| htyUg (o := _) rfl rfl rfl (y_idxS rfl rfl Try.underlying51 sz60 hA_r rfl (by omega)) <| htyUg (o := _) rfl rfl rfl (y_fld rfl fa60_0 (by decide)) <| htyg (o := _) rfl rfl rfl (fun m => yV (y_ld1 rfl ag9 (rd_fld (m.rd 0 rfl) g0)) ((rfl : _ = Value.string (strOf x.1)))) <| htyUg (o := _) rfl rfl rfl (y_fld rfl fa60_0 (by decide)) <| htyg (o := _) rfl rfl rfl (fun m => yV (y_ld1 rfl ag9 (ld_blk (m.blk 1 rfl) (i := 0) rfl)) ((rfl : _ = Value.string (strOf f.1)))) <| htyUg (o := _) rfl rfl rfl (yT (y_sge rfl rfl) ((by show (!sless x.1 f.1) = true; rw [hge]; rfl))) <| htyU (y_pickT rfl rfl) <| htend <| hsub (ρ' := [(25, _), (11, _), (5, _), (6, _), (7, _), (4, _), (3, _), (0, _), (1, _)]) ⟨rfl, rfl, rfl, rfl, rfl, rfl, rfl, rfl, rfl, trivial⟩ <| hthen <| ?_
        refine hift rfl (rfl) ?_
        refine hseq <| hreg <| hy (fun _ => y_move rfl) <| hy (fun m => yV (y_ldN rfl ag60 sz60 rfl ((m.blk 1 rfl).cells0)) ((rfl : _ = Value.agg [SV f.1, SV f.2].toArray))) <| ?_
        refine hx (xh_bsl Try.underlying51 ti60 rfl rfl rfl (by simp [Value.cells, B8]) (by decide) (by decide) (fun g28 => ?_))
        have hA_b28 : 0 < 1 → (some (⟨g28, 0, none⟩ : Addr)) ≠ none := fun _ h => by cases h
        refine hmemL (fun w m => m.eqX 0 rfl (show _ = ROwn 60 2 (.slice (some ⟨g28, 0, none⟩) 1 1) 1 (fc [f]) from rfl)) ?_
        refine hx (xh_app 1 rfl rfl rfl Try.underlying51 Try.underlying51 (by exact .inl rfl) ti60 rfl (fun m => Src.of_rd (m.ord 0 rfl)) fc_one (by unfold maxLen; omega) (by omega) (fun u => ?_))
        refine hfactL (fun m => (m.own 0 rfl).slice) ?_
        rintro ⟨A_o, c_o, rfl, hc_o⟩
        refine hfactL (fun m => (m.ord 0 rfl).2.1) fun hA_o => ?_
        refine hmemL (fun w m => m.eqX 0 rfl (show _ = ROwn 60 2 (.slice A_o (k + 1) c_o) (k + 1) (fc (out ++ [f])) from congrArg (ROwn _ _ _ _) (fc_append ..).symm)) ?_
        have hk1 : (out ++ [f]).length = k + 1 := by rw [List.length_append, hk]; rfl
        refine hy (fun _ => y_assign rfl) <| hend <| hsub (ρ' := [(5, _), (25, _), (11, _), (6, _), (7, _), (4, _), (3, _), (0, _), (1, _)]) ⟨rfl, rfl, rfl, rfl, rfl, rfl, rfl, rfl, rfl, trivial⟩ <| hmemQ (X' := [_, _, _]) (S' := [_]) (fun _ m => m) <| hthen <| hreg <| hy (fun _ => y_assign rfl) <| hend <| hthen <| hseq <| hdrw [] [(0, some 0), (1, some 0), (2, some 0), (3, some 0), (4, some 0), (5, some 0), (6, some 0), (7, some 0)] (by kernel_rfl) (by kernel_rfl) rfl 99 <| htyU (y_move rfl) <| htyU (y_move rfl) <| htyU (y_idxS rfl rfl Try.underlying51 sz60 hA_r rfl (by omega)) <| htyU (y_fld rfl fa60_0 (by decide)) <| hty (fun m => yV (y_ld1 rfl ag9 (rd_fld (m.rd 0 rfl) g0)) ((rfl : _ = Value.string (strOf x.1)))) <| htyU (y_fld rfl fa60_0 (by decide)) <| hty (fun m => yV (y_ld1 rfl ag9 (ld_blk (m.blk 2 rfl) (i := 0) rfl)) ((rfl : _ = Value.string (strOf f.1)))) <| htyU (y_sne rfl rfl) <| htend <| hsub (ρ' := [(37, _), (6, _), (5, _), (25, _), (11, _), (7, _), (4, _), (3, _), (0, _), (1, _)]) ⟨rfl, rfl, rfl, rfl, rfl, rfl, rfl, rfl, rfl, rfl, trivial⟩ <| hthen <| ?_
        refine hif rfl (fun h1 => ?_) (fun h1 => ?_)
        · have hne : x.1 ≠ f.1 := fun e => h1 (strOf_inj.2 e)
          refine hreg <| hy (fun _ => y_move rfl) <| hy (fun _ => y_move rfl) <| hy (fun _ => y_move rfl) <| hy (fun _ => y_idxS rfl rfl Try.underlying51 sz60 hA_r rfl (by omega)) <| hy (fun m => yV (y_ldN rfl ag60 sz60 rfl (fc_cells (m.rd 0 rfl) hgx)) ((rfl : _ = Value.agg [SV x.1, SV x.2].toArray))) <| ?_
          refine hx (xh_bsl Try.underlying51 ti60 rfl rfl rfl (by simp [Value.cells, B8]) (by decide) (by decide) (fun g43 => ?_))
          have hA_b43 : 0 < 1 → (some (⟨g43, 0, none⟩ : Addr)) ≠ none := fun _ h => by cases h
          refine hmemL (fun w m => m.eqX 0 rfl (show _ = ROwn 60 2 (.slice (some ⟨g43, 0, none⟩) 1 1) 1 (fc [x]) from rfl)) ?_
          refine hx (xh_app 1 rfl rfl rfl Try.underlying51 Try.underlying51 (by exact .inl rfl) ti60 rfl (fun m => Src.of_rd (m.ord 0 rfl)) fc_one (by unfold maxLen; omega) (by omega) (fun u2 => ?_))
          refine hfactL (fun m => (m.own 0 rfl).slice) ?_
          rintro ⟨A_o2, c_o2, rfl, hc_o⟩
          refine hfactL (fun m => (m.ord 0 rfl).2.1) fun hA_o => ?_
          refine hmemL (fun w m => m.eqX 0 rfl (show _ = ROwn 60 2 (.slice A_o2 (k + 1 + 1) c_o2) (k + 1 + 1) (fc ((out ++ [f]) ++ [x])) from congrArg (ROwn _ _ _ _) (fc_append ..).symm)) ?_
          refine hy (fun _ => y_assign rfl) <| hend <| hsub (ρ' := [(5, _), (37, _), (6, _), (25, _), (11, _), (7, _), (4, _), (3, _), (0, _), (1, _)]) ⟨rfl, rfl, rfl, rfl, rfl, rfl, rfl, rfl, rfl, rfl, trivial⟩ <| hmemQ (X' := [_, _, _, _]) (S' := [_]) (fun _ m => m) <| hqblock <| hthen <| hreg <| hy (fun _ => y_move rfl) <| hy (fun _ => y_add rfl rfl (w64 (by omega) (by omega))) <| hy (fun _ => y_assign rfl) <| hend <| hsub (ρ' := [(7, _), (5, _), (37, _), (6, _), (25, _), (11, _), (4, _), (3, _), (0, _), (1, _)]) ⟨rfl, rfl, rfl, rfl, rfl, rfl, rfl, rfl, rfl, rfl, trivial⟩ <| ?_
          refine hnext6 (i + 1) A_o2 (k + 1 + 1) c_o2 ((out ++ [f]) ++ [x]) true ⟨rfl, rfl, rfl, rfl, rfl, rfl, rfl, trivial⟩ [0, 2] rfl [0] rfl (⟨by omega, by rw [hs, if_pos hne], by rw [List.length_append, hk1]; rfl, by simp at hki ⊢; omega⟩) (by omega)
        · have hne : ¬ x.1 ≠ f.1 := fun e => h1 (fun h => e (strOf_inj.1 h))
          refine hcskip <| hqblock <| hthen <| hreg <| hy (fun _ => y_move rfl) <| hy (fun _ => y_add rfl rfl (w64 (by omega) (by omega))) <| hy (fun _ => y_assign rfl) <| hend <| hsub (ρ' := [(7, _), (37, _), (6, _), (5, _), (25, _), (11, _), (4, _), (3, _), (0, _), (1, _)]) ⟨rfl, rfl, rfl, rfl, rfl, rfl, rfl, rfl, rfl, rfl, trivial⟩ <| ?_
          refine hnext6 (i + 1) A_o (k + 1) c_o ((out ++ [f])) true ⟨rfl, rfl, rfl, rfl, rfl, rfl, rfl, trivial⟩ [0, 1] rfl [0] rfl (⟨by omega, by rw [hs, if_neg hne], hk1.symm, by simp at hki ⊢; omega⟩) (by omega)
      · have hlt : sless x.1 f.1 = true := by simpa using hge
        simp only [hlt, Bool.true_eq_false, and_false, if_false] at hs
        refine hcskip <| hthen <| hseq <| hblock <| hseq <| hseq <| hdrw [] [(0, some 0), (1, some 0), (2, some 0), (3, some 0), (4, some 0), (5, some 0), (6, some 0), (7, some 0), (8, some 0), (9, some 0), (10, some 0), (11, some 0)] (by kernel_rfl) (by kernel_rfl) rfl 99 <| htyU (y_move rfl) <| htyU ((y_not rfl)) <| htyU (y_move rfl) <| htyUg (o := _) rfl rfl rfl (y_move rfl) <| htyUg (o := _) rfl rfl rfl (y_move rfl) <| htyUg (o := _) rfl rfl rfl (y_idxS rfl rfl Try.underlying51 sz60 hA_r rfl (by omega)) <| htyUg (o := _) rfl rfl rfl (y_fld rfl fa60_0 (by decide)) <| htyg (o := _) rfl rfl rfl (fun m => yV (y_ld1 rfl ag9 (rd_fld (m.rd 0 rfl) g0)) ((rfl : _ = Value.string (strOf x.1)))) <| htyUg (o := _) rfl rfl rfl (y_fld rfl fa60_0 (by decide)) <| htyg (o := _) rfl rfl rfl (fun m => yV (y_ld1 rfl ag9 (ld_blk (m.blk 1 rfl) (i := 0) rfl)) ((rfl : _ = Value.string (strOf f.1)))) <| htyUg (o := _) rfl rfl rfl (yF (y_sge rfl rfl) ((by show (!sless x.1 f.1) = false; rw [hlt]; rfl))) <| htyU (y_pickT rfl rfl) <| htend <| hsub (ρ' := [(25, _), (11, _), (5, _), (6, _), (7, _), (4, _), (3, _), (0, _), (1, _)]) ⟨rfl, rfl, rfl, rfl, rfl, rfl, rfl, rfl, rfl, trivial⟩ <| hthen <| ?_
        refine hiff rfl (rfl) ?_
        refine hcskip <| hthen <| hseq <| hdrw [] [(0, some 0), (1, some 0), (2, some 0), (3, some 0), (4, some 0), (5, some 0), (6, some 0), (7, some 0)] (by kernel_rfl) (by kernel_rfl) rfl 99 <| htyU (y_move rfl) <| htyU (y_move rfl) <| htyU (y_idxS rfl rfl Try.underlying51 sz60 hA_r rfl (by omega)) <| htyU (y_fld rfl fa60_0 (by decide)) <| hty (fun m => yV (y_ld1 rfl ag9 (rd_fld (m.rd 0 rfl) g0)) ((rfl : _ = Value.string (strOf x.1)))) <| htyU (y_fld rfl fa60_0 (by decide)) <| hty (fun m => yV (y_ld1 rfl ag9 (ld_blk (m.blk 1 rfl) (i := 0) rfl)) ((rfl : _ = Value.string (strOf f.1)))) <| htyU (y_sne rfl rfl) <| htend <| hsub (ρ' := [(37, _), (25, _), (11, _), (5, _), (6, _), (7, _), (4, _), (3, _), (0, _), (1, _)]) ⟨rfl, rfl, rfl, rfl, rfl, rfl, rfl, rfl, rfl, rfl, trivial⟩ <| hthen <| ?_
        refine hif rfl (fun h1 => ?_) (fun h1 => ?_)
        · have hne : x.1 ≠ f.1 := fun e => h1 (strOf_inj.2 e)
          refine hreg <| hy (fun _ => y_move rfl) <| hy (fun _ => y_move rfl) <| hy (fun _ => y_move rfl) <| hy (fun _ => y_idxS rfl rfl Try.underlying51 sz60 hA_r rfl (by omega)) <| hy (fun m => yV (y_ldN rfl ag60 sz60 rfl (fc_cells (m.rd 0 rfl) hgx)) ((rfl : _ = Value.agg [SV x.1, SV x.2].toArray))) <| ?_
          refine hx (xh_bsl Try.underlying51 ti60 rfl rfl rfl (by simp [Value.cells, B8]) (by decide) (by decide) (fun g43 => ?_))
          have hA_b43 : 0 < 1 → (some (⟨g43, 0, none⟩ : Addr)) ≠ none := fun _ h => by cases h
          refine hmemL (fun w m => m.eqX 0 rfl (show _ = ROwn 60 2 (.slice (some ⟨g43, 0, none⟩) 1 1) 1 (fc [x]) from rfl)) ?_
          refine hx (xh_app 1 rfl rfl rfl Try.underlying51 Try.underlying51 (by exact .inl rfl) ti60 rfl (fun m => Src.of_rd (m.ord 0 rfl)) fc_one (by unfold maxLen; omega) (by omega) (fun u => ?_))
          refine hfactL (fun m => (m.own 0 rfl).slice) ?_
          rintro ⟨A_o, c_o, rfl, hc_o⟩
          refine hfactL (fun m => (m.ord 0 rfl).2.1) fun hA_o => ?_
          refine hmemL (fun w m => m.eqX 0 rfl (show _ = ROwn 60 2 (.slice A_o (k + 1) c_o) (k + 1) (fc (out ++ [x])) from congrArg (ROwn _ _ _ _) (fc_append ..).symm)) ?_
          refine hy (fun _ => y_assign rfl) <| hend <| hsub (ρ' := [(5, _), (37, _), (25, _), (11, _), (6, _), (7, _), (4, _), (3, _), (0, _), (1, _)]) ⟨rfl, rfl, rfl, rfl, rfl, rfl, rfl, rfl, rfl, rfl, trivial⟩ <| hmemQ (X' := [_, _, _]) (S' := [_]) (fun _ m => m) <| hqblock <| hthen <| hreg <| hy (fun _ => y_move rfl) <| hy (fun _ => y_add rfl rfl (w64 (by omega) (by omega))) <| hy (fun _ => y_assign rfl) <| hend <| hsub (ρ' := [(7, _), (5, _), (37, _), (25, _), (11, _), (6, _), (4, _), (3, _), (0, _), (1, _)]) ⟨rfl, rfl, rfl, rfl, rfl, rfl, rfl, rfl, rfl, rfl, trivial⟩ <| ?_
          refine hnext6 (i + 1) A_o (k + 1) c_o (out ++ [x]) false ⟨rfl, rfl, rfl, rfl, rfl, rfl, rfl, trivial⟩ [0, 1] rfl [0] rfl (⟨by omega, by rw [hs, if_pos hne], by rw [List.length_append, hk.symm]; rfl, by simp at hki ⊢; omega⟩) (by omega)
        · have hne : ¬ x.1 ≠ f.1 := fun e => h1 (fun h => e (strOf_inj.1 h))
          refine hcskip <| hqblock <| hthen <| hreg <| hy (fun _ => y_move rfl) <| hy (fun _ => y_add rfl rfl (w64 (by omega) (by omega))) <| hy (fun _ => y_assign rfl) <| hend <| hsub (ρ' := [(7, _), (37, _), (25, _), (11, _), (5, _), (6, _), (4, _), (3, _), (0, _), (1, _)]) ⟨rfl, rfl, rfl, rfl, rfl, rfl, rfl, rfl, rfl, rfl, trivial⟩ <| ?_
          refine hnext6 (i + 1) A1 (k) c1 (out) false ⟨rfl, rfl, rfl, rfl, rfl, rfl, rfl, trivial⟩ [0, 0] rfl [0] rfl (⟨by omega, by rw [hs, if_neg hne], hk.symm.symm, by simp at hki ⊢; omega⟩) (by omega)
  · obtain rfl : i = n := by omega
    have hww : wst f l l.length = (out, pt) := by rw [hl]; exact hw
    by_cases hp : pt = true
    · subst hp
      have hW : withF l f = out := by rw [withF, hww]; rfl
      refine hexit <| hthen_exit <| hthen_exit <| hqblock_exit <| hthen <| hseq <| hseq <| hreg <| hy (fun _ => y_move rfl) <| hy (fun _ => (y_not rfl)) <| hend <| hsub (ρ' := [(46, _), (11, _), (5, _), (6, _), (7, _), (4, _), (3, _), (0, _), (1, _)]) ⟨rfl, rfl, rfl, rfl, rfl, rfl, rfl, rfl, rfl, trivial⟩ <| hthen <| ?_
      refine hiff rfl (rfl) ?_
      refine hcskip <| hthen <| hseq <| hreg <| hy (fun _ => y_move rfl) <| hy (fun _ => y_assign rfl) <| hend <| hsub (ρ' := [(4, _), (46, _), (11, _), (5, _), (6, _), (7, _), (3, _), (0, _), (1, _)]) ⟨rfl, rfl, rfl, rfl, rfl, rfl, rfl, rfl, rfl, trivial⟩ <| hthen <| hret <| ?_
      refine hmemQ (fun w m => m.eqX 0 rfl (show _ = ROwn 60 2 (.slice A1 k c1) k (fc (withF l f)) from by rw [hW])) ?_
      exact hret1 trivial rfl rfl [0] rfl [] rfl ⟨_, _, rfl, rfl, rfl, ⟨by rw [hW]; exact hk, by simp at hki; omega⟩⟩
    · obtain rfl : pt = false := by simpa using hp
      have hW : withF l f = out ++ [f] := by rw [withF, hww]; rfl
      refine hexit <| hthen_exit <| hthen_exit <| hqblock_exit <| hthen <| hseq <| hseq <| hreg <| hy (fun _ => y_move rfl) <| hy (fun _ => (y_not rfl)) <| hend <| hsub (ρ' := [(46, _), (11, _), (5, _), (6, _), (7, _), (4, _), (3, _), (0, _), (1, _)]) ⟨rfl, rfl, rfl, rfl, rfl, rfl, rfl, rfl, rfl, trivial⟩ <| hthen <| ?_
      refine hift rfl (rfl) ?_
      refine hreg <| hy (fun _ => y_move rfl) <| hy (fun m => yV (y_ldN rfl ag60 sz60 rfl ((m.blk 1 rfl).cells0)) ((rfl : _ = Value.agg [SV f.1, SV f.2].toArray))) <| ?_
      refine hx (xh_bsl Try.underlying51 ti60 rfl rfl rfl (by simp [Value.cells, B8]) (by decide) (by decide) (fun g49 => ?_))
      have hA_b49 : 0 < 1 → (some (⟨g49, 0, none⟩ : Addr)) ≠ none := fun _ h => by cases h
      refine hmemL (fun w m => m.eqX 0 rfl (show _ = ROwn 60 2 (.slice (some ⟨g49, 0, none⟩) 1 1) 1 (fc [f]) from rfl)) ?_
      refine hx (xh_app 1 rfl rfl rfl Try.underlying51 Try.underlying51 (by exact .inl rfl) ti60 rfl (fun m => Src.of_rd (m.ord 0 rfl)) fc_one (by unfold maxLen; omega) (by omega) (fun u => ?_))
      refine hfactL (fun m => (m.own 0 rfl).slice) ?_
      rintro ⟨A_o, c_o, rfl, hc_o⟩
      refine hfactL (fun m => (m.ord 0 rfl).2.1) fun hA_o => ?_
      refine hmemL (fun w m => m.eqX 0 rfl (show _ = ROwn 60 2 (.slice A_o (k + 1) c_o) (k + 1) (fc (withF l f)) from (congrArg (ROwn _ _ _ _) ((fc_append ..).symm.trans (congrArg fc hW.symm))))) ?_
      refine hy (fun _ => y_assign rfl) <| hend <| hsub (ρ' := [(5, _), (46, _), (11, _), (6, _), (7, _), (4, _), (3, _), (0, _), (1, _)]) ⟨rfl, rfl, rfl, rfl, rfl, rfl, rfl, rfl, rfl, trivial⟩ <| hmemQ (X' := [_, _, _]) (S' := [_]) (fun _ m => m) <| hthen <| hseq <| hreg <| hy (fun _ => y_move rfl) <| hy (fun _ => y_assign rfl) <| hend <| hsub (ρ' := [(4, _), (5, _), (46, _), (11, _), (6, _), (7, _), (3, _), (0, _), (1, _)]) ⟨rfl, rfl, rfl, rfl, rfl, rfl, rfl, rfl, rfl, trivial⟩ <| hthen <| hret <| ?_
      exact hret1 trivial rfl rfl [0] rfl [] rfl ⟨_, _, rfl, rfl, rfl, ⟨by rw [hW, List.length_append, hk]; rfl, by simp at hki; omega⟩⟩
end Go.Proofs.Ytflcokdkobhieaa
