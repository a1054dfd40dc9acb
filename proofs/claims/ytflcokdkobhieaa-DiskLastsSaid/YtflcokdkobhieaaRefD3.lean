/- Contracts: the document's disk (layer 12): a change made, Read. -/
import Derived.Test.YtflcokdkobhieaaRefD2
set_option linter.unusedVariables false
set_option linter.unusedSimpArgs false
set_option maxRecDepth 20000
namespace Go.Proofs.Ytflcokdkobhieaa
open Go.Eng Go.Hx
def withoutF (l : List FP) (p : List UInt8) : List FP := l.filter fun x => decide (x.1 ≠ p)
/-- a change of the document, as a value -/
def cv (k : Int) (p t b : List UInt8) : List Value := [.int .i64 k, SV p, SV t, SV b]
def makeF (l : List FP) (k : Int) (p t b : List UInt8) : List FP :=
  if k = 0 then withF l (p, b) else match l[findN l p]? with
    | none => l
    | some x => if k = 2 then withoutF l p else withF (withoutF l p) (t, x.2)
theorem findI_neg {l : List FP} {p : List UInt8} : findI l p < 0 ↔ l[findN l p]? = none := by
  unfold findI
  by_cases h : findN l p < l.length
  · rw [if_pos h, List.getElem?_eq_getElem h]; simp
  · rw [if_neg h, List.getElem?_eq_none (by omega)]; simp
theorem rmakeC {A : Option Addr} {n c : Nat} {l : List FP} {k : Int} {p t bb : List UInt8} (hl : l.length = n) (hn : n ≤ 900000) : Con Try.prog 71 [.slice A n c, .agg (cv k p t bb).toArray] [] [RRd 2 A n (fc l)] (fun v_ X_ S_ => ∃ A1 n1 c1, v_ = (.slice A1 n1 c1) ∧ X_ = [] ∧ S_ = [RRd 2 A1 n1 (fc (makeF l k p t bb))] ∧ (n1 = (makeF l k p t bb).length ∧ n1 ≤ n + 1)) := by
  refine henter (N := 43) Try.func71 rfl rfl (by simp) fun b => ?_
  refine hfactC (fun m => rdX (m.rd 0 rfl)) ?_
  rintro ⟨hl_r, hA_r⟩
  refine hseq <| hreg <| ?_
  refine hx (xh_box rfl (fun g3 => ?_))
  refine hmemL (fun w m => m.eqX 0 rfl (show _ = RBlk g3 105 (cv k p t bb) from congrArg (RBlk _ _) (cells_agg _))) ?_
  refine hy (fun _ => y_assign rfl) <| hend <| hmemQ (X' := [_]) (S' := [_]) (fun _ m => m) <| hthen <| hseq <| hseq <| hreg <| hy (fun _ => y_fld rfl fa105_0 (by decide)) <| hy (fun m => y_ld1 rfl ag3 (ld_blk (m.blk 0 rfl) (i := 0) rfl)) <| hy (fun _ => y_eql rfl rfl) <| hend <| hsub (ρ' := [(8, _), (4, _), (3, _), (0, _), (1, _)]) ⟨rfl, rfl, rfl, rfl, rfl, trivial⟩ <| hthen <| ?_
  refine hif rfl (fun h0 => ?_) (fun h0 => ?_)
  · have hM : makeF l k p t bb = withF l (p, bb) := by rw [makeF, if_pos h0]
    refine hseq <| hreg <| hy (fun _ => y_move rfl) <| hy (fun _ => y_fld rfl fa105_1 (by decide)) <| hy (fun m => yV (y_ld1 rfl ag9 (ld_blk (m.blk 0 rfl) (i := 1) rfl)) ((rfl : _ = SV p))) <| hy (fun _ => y_fld rfl fa105_3 (by decide)) <| hy (fun m => yV (y_ld1 rfl ag9 (ld_blk (m.blk 0 rfl) (i := 3) rfl)) ((rfl : _ = SV bb))) <| hy (fun _ => yV (y_build ti60 rfl rfl (by kernel_rfl) (.cons (o := 0) (sz := 1) (by kernel_rfl) rfl rfl (Nat.le_of_ble_eq_true rfl) (.cons (o := 1) (sz := 1) (by kernel_rfl) rfl rfl (Nat.le_of_ble_eq_true rfl) .nil))) ((rfl : _ = Value.agg [SV p, SV bb].toArray))) <| ?_
    refine hx (xh_call rfl Try.call87 (rwithC (by omega) (by omega) (f := (p, bb))) [] rfl [0] rfl ?_)
    rintro _ _ _ ⟨v, k2, rfl, rfl, rfl, hp⟩
    refine hfactL (fun m => (m.own 0 rfl).slice) ?_
    rintro ⟨A_x, c_x, rfl, hc_x⟩
    refine hfactL (fun m => (m.ord 0 rfl).2.1) fun hA_x => ?_
    refine hy (fun _ => y_assign rfl) <| hend <| hsub (ρ' := [(4, _), (8, _), (3, _), (0, _), (1, _)]) ⟨rfl, rfl, rfl, rfl, rfl, trivial⟩ <| hmemQ (X' := [_, _]) (S' := [_]) (fun _ m => m) <| hthen <| hret <| hthen_ret <| ?_
    rw [← hM] at hp
    refine hmemQ (fun w m => m.eqX 0 rfl (show _ = ROwn 60 2 (.slice A_x k2 c_x) k2 (fc (makeF l k p t bb)) from by rw [hM])) ?_
    refine hmemQ (fun w m => (m.perm (takeR_perm [0] _ [_] _ rfl)).freeze) ?_
    refine hmemQ (fun w m => m.asV 0 rfl .own) ?_
    refine hfactQ (fun m => rdX (m.rd 0 rfl)) ?_
    rintro ⟨hl_xr, hA_xr⟩
    exact hret1 trivial rfl rfl [] rfl [0] rfl ⟨_, _, _, rfl, rfl, rfl, hp⟩
  · refine hcskip <| hthen <| hseq <| hreg <| hy (fun _ => y_move rfl) <| hy (fun _ => y_fld rfl fa105_1 (by decide)) <| hy (fun m => yV (y_ld1 rfl ag9 (ld_blk (m.blk 0 rfl) (i := 1) rfl)) ((rfl : _ = SV p))) <| ?_
    refine hx (xh_call rfl Try.call55 (rfindC (by omega) (by omega)) [] rfl [0] rfl ?_)
    rintro _ _ _ ⟨rfl, rfl, rfl⟩
    refine hy (fun _ => y_assign rfl) <| hend <| hsub (ρ' := [(5, _), (8, _), (4, _), (3, _), (0, _), (1, _)]) ⟨rfl, rfl, rfl, rfl, rfl, rfl, trivial⟩ <| hmemQ (X' := [_]) (S' := [_]) (fun _ m => m) <| hthen <| hseq <| hseq <| hreg <| hy (fun _ => y_move rfl) <| hy (fun _ => y_lss rfl rfl) <| hend <| hsub (ρ' := [(21, _), (5, _), (8, _), (4, _), (3, _), (0, _), (1, _)]) ⟨rfl, rfl, rfl, rfl, rfl, rfl, rfl, trivial⟩ <| hthen <| ?_
    refine hif rfl (fun h1 => ?_) (fun h1 => ?_)
    · have hM : makeF l k p t bb = l := by rw [makeF, if_neg h0, findI_neg.1 h1]
      refine hseq <| hreg <| hy (fun _ => y_move rfl) <| hy (fun _ => y_assign rfl) <| hend <| hsub (ρ' := [(4, _), (21, _), (5, _), (8, _), (3, _), (0, _), (1, _)]) ⟨rfl, rfl, rfl, rfl, rfl, rfl, rfl, trivial⟩ <| hthen <| hret <| hthen_ret <| ?_
      rw [hM]
      exact hret1 trivial rfl rfl [] rfl [0] rfl ⟨_, _, _, rfl, rfl, rfl, ⟨hl.symm, by omega⟩⟩
    · obtain ⟨x0, hx0⟩ : ∃ x0, l[findN l p]? = some x0 := by
        cases hq : l[findN l p]? with
        | none => exact absurd (findI_neg.2 hq) h1
        | some x0 => exact ⟨x0, rfl⟩
      have hfl : findN l p < l.length := (List.getElem?_eq_some_iff.1 hx0).1
      obtain ⟨f0, f1⟩ := fc_get l _ x0 hx0
      have hfi : findI l p = (findN l p : Nat) := by rw [findI, if_pos hfl]
      have hwl : (withoutF l p).length ≤ l.length := List.length_filter_le ..
      refine hcskip <| hthen <| hseq <| hseq <| hreg <| hy (fun _ => y_fld rfl fa105_0 (by decide)) <| hy (fun m => y_ld1 rfl ag3 (ld_blk (m.blk 0 rfl) (i := 0) rfl)) <| hy (fun _ => y_eql rfl rfl) <| hend <| hsub (ρ' := [(25, _), (21, _), (5, _), (8, _), (4, _), (3, _), (0, _), (1, _)]) ⟨rfl, rfl, rfl, rfl, rfl, rfl, rfl, rfl, trivial⟩ <| hthen <| ?_
      refine hif rfl (fun h2 => ?_) (fun h2 => ?_)
      · have hM : makeF l k p t bb = withoutF l p := by rw [makeF, if_neg h0, hx0]; simp only [if_pos h2]
        refine hseq <| hreg <| hy (fun _ => y_move rfl) <| hy (fun _ => y_fld rfl fa105_1 (by decide)) <| hy (fun m => yV (y_ld1 rfl ag9 (ld_blk (m.blk 0 rfl) (i := 1) rfl)) ((rfl : _ = SV p))) <| ?_
        refine hx (xh_call rfl Try.call88 (rwithoutC (by omega) (by omega)) [] rfl [0] rfl ?_)
        rintro _ _ _ ⟨v, k2, rfl, rfl, rfl, hp⟩
        refine hfactL (fun m => (m.own 0 rfl).slice) ?_
        rintro ⟨A_x, c_x, rfl, hc_x⟩
        refine hfactL (fun m => (m.ord 0 rfl).2.1) fun hA_x => ?_
        refine hy (fun _ => y_assign rfl) <| hend <| hsub (ρ' := [(4, _), (25, _), (21, _), (5, _), (8, _), (3, _), (0, _), (1, _)]) ⟨rfl, rfl, rfl, rfl, rfl, rfl, rfl, rfl, trivial⟩ <| hmemQ (X' := [_, _]) (S' := [_]) (fun _ m => m) <| hthen <| hret <| hthen_ret <| ?_
        refine hmemQ (fun w m => m.eqX 0 rfl (show _ = ROwn 60 2 (.slice A_x k2 c_x) k2 (fc (makeF l k p t bb)) from by rw [hM]; rfl)) ?_
        refine hmemQ (fun w m => (m.perm (takeR_perm [0] _ [_] _ rfl)).freeze) ?_
        refine hmemQ (fun w m => m.asV 0 rfl .own) ?_
        refine hfactQ (fun m => rdX (m.rd 0 rfl)) ?_
        rintro ⟨hl_xr, hA_xr⟩
        exact hret1 trivial rfl rfl [] rfl [0] rfl ⟨_, _, _, rfl, rfl, rfl, ⟨hp.trans (congrArg List.length hM.symm), by rw [hp]; show (withoutF l p).length ≤ _; omega⟩⟩
      · have hM : makeF l k p t bb = withF (withoutF l p) (t, x0.2) := by rw [makeF, if_neg h0, hx0]; simp only [if_neg h2]
        refine hcskip <| hthen <| hseq <| hdrw [3, 12] [(0, some 0), (1, some 0), (2, some 0), (4, some 1), (5, some 1), (6, some 2), (7, some 2), (8, some 1), (9, some 1), (10, some 1), (11, some 1), (3, none), (12, none), (13, some 2)] (by kernel_rfl) (by kernel_rfl) rfl 99 <| htyU (y_move rfl) <| htyU (y_fld rfl fa105_1 (by decide)) <| hty (fun m => yV (y_ld1 rfl ag9 (ld_blk (m.blk 0 rfl) (i := 1) rfl)) ((rfl : _ = SV p))) <| htyU (y_fld rfl fa105_2 (by decide)) <| hty (fun m => yV (y_ld1 rfl ag9 (ld_blk (m.blk 0 rfl) (i := 2) rfl)) ((rfl : _ = SV t))) <| htyU (y_move rfl) <| htyU (y_move rfl) <| htyU (y_idxS rfl rfl Try.underlying51 sz60 hA_r hfi.symm (by omega)) <| htyU (y_fld rfl fa60_1 (by decide)) <| hty (fun m => yV (y_ld1 rfl ag9 (rd_fld (m.rd 0 rfl) f1)) ((rfl : _ = SV x0.2))) <| htyU (yV (y_build ti60 rfl rfl (by kernel_rfl) (.cons (o := 0) (sz := 1) (by kernel_rfl) rfl rfl (Nat.le_of_ble_eq_true rfl) (.cons (o := 1) (sz := 1) (by kernel_rfl) rfl rfl (Nat.le_of_ble_eq_true rfl) .nil))) ((rfl : _ = Value.agg [SV t, SV x0.2].toArray))) <| ?_
        refine htx (xh_call rfl Try.call88 (rwithoutC (by omega) (by omega)) [] rfl [0] rfl ?_)
        rintro _ _ _ ⟨v, k2, rfl, rfl, rfl, hp⟩
        refine ⟨(fun _ => wk [1] [0] rfl rfl), ?_⟩
        refine htfact (fun m => (m.own 0 rfl).slice) ?_
        rintro ⟨A_x, c_x, rfl, hc_x⟩
        refine htfact (fun m => (m.ord 0 rfl).2.1) fun hA_x => ?_
        have hk2 : k2 = (withoutF l p).length := hp
        clear hp
        refine htx (xh_calll rfl Try.call87 (rwithC (by omega) (by omega) (l := (withoutF l p)) (f := (t, x0.2))) [] rfl (.x 0 rfl .own .nil) ?_)
        rintro _ _ _ ⟨v2, k3, rfl, rfl, rfl, hp2⟩
        refine ⟨rfl, ?_⟩
        refine ⟨(fun _ => wk [2] [0] rfl rfl), ?_⟩
        refine htfact (fun m => (m.own 0 rfl).slice) ?_
        rintro ⟨A_x2, c_x2, rfl, hc_x2⟩
        refine htfact (fun m => (m.ord 0 rfl).2.1) fun hA_x2 => ?_
        refine htyU (y_assign rfl) <| htend <| hsub (ρ' := [(4, _), (25, _), (21, _), (5, _), (8, _), (3, _), (0, _), (1, _)]) ⟨rfl, rfl, rfl, rfl, rfl, rfl, rfl, rfl, trivial⟩ <| hmemQ (X' := [_, _, _]) (S' := [_]) (fun _ m => m) <| hthen <| hret <| ?_
        rw [hM]
        refine hmemQ (fun w m => (m.perm (takeR_perm [0] _ [_] _ rfl)).freeze) ?_
        refine hmemQ (fun w m => m.asV 0 rfl .own) ?_
        refine hfactQ (fun m => rdX (m.rd 0 rfl)) ?_
        rintro ⟨hl_x2r, hA_x2r⟩
        exact hret1 trivial rfl rfl [] rfl [0] rfl ⟨_, _, _, rfl, rfl, rfl, ⟨hp2.1, by omega⟩⟩
abbrev RC := Int × List UInt8 × List UInt8 × List UInt8
def wcs (l : List RC) : List Value := l.flatMap fun x => cv x.1 x.2.1 x.2.2.1 x.2.2.2
theorem wcs_append (a b : List RC) : wcs (a ++ b) = wcs a ++ wcs b := by simp [wcs]
theorem wcs_one {l : List RC} : ∀ u ∈ wcs l, u.oneCell' = true := by
  intro u hu
  obtain ⟨x, _, h⟩ := List.mem_flatMap.1 hu
  simp only [cv, List.mem_cons, List.not_mem_nil, or_false] at h
  rcases h with rfl | rfl | rfl | rfl <;> rfl
theorem dv_one {room pw : Int} {A A2 A3 : Option Addr} {n c n2 c2 n3 c3 : Nat} : ∀ u ∈ dv room (.slice A n c) (.slice A2 n2 c2) (.slice A3 n3 c3) pw, u.oneCell' = true := by
  intro u hu
  simp only [dv, List.mem_cons, List.not_mem_nil, or_false] at hu
  rcases hu with rfl | rfl | rfl | rfl | rfl <;> rfl
def lessP (pw : Int) : Int := if 0 < pw then pw - 1 else pw
theorem rdoC {room pw : Int} {A Al A3 : Option Addr} {n c nl cl n3 c3 : Nat} {l : List FP} {wl : List RC} {k : Int} {p t bb : List UInt8} (hl : l.length = n) (hn : n ≤ 900000) (hw : wl.length = n3) (hn3 : n3 ≤ 900000) (hp1 : -10 ≤ pw) (hp2 : pw ≤ 1000000000000) : Con Try.prog 56 [.agg (dv room (.slice A n c) (.slice Al nl cl) (.slice A3 n3 c3) pw).toArray, .agg (cv k p t bb).toArray] [] [RRd 2 A n (fc l), RRd 4 A3 n3 (wcs wl)] (fun v_ X_ S_ => ∃ A1 n1 c1 A2 n2 c2, v_ = (.agg (dv room (.slice A1 n1 c1) (.slice Al nl cl) (.slice A2 n2 c2) (lessP pw)).toArray) ∧ X_ = [] ∧ S_ = [RRd 2 A1 n1 (fc (makeF l k p t bb)), RRd 4 A2 n2 (wcs (wl ++ [(k, p, t, bb)]))] ∧ (n1 = (makeF l k p t bb).length ∧ n1 ≤ n + 1 ∧ n2 = n3 + 1)) := by
  refine henter (N := 28) Try.func56 rfl rfl (by simp) fun b => ?_
  refine hfactC (fun m => rdX (m.rd 0 rfl)) ?_
  rintro ⟨hl_r, hA_r⟩
  refine hfactC (fun m => rdX (m.rd 1 rfl)) ?_
  rintro ⟨hl_w, hA_w⟩
  refine hseq <| hreg <| ?_
  refine hx (xh_box rfl (fun g2 => ?_))
  refine hmemL (fun w m => m.eqX 0 rfl (show _ = RBlk g2 54 (dv room (.slice A n c) (.slice Al nl cl) (.slice A3 n3 c3) pw) from congrArg (RBlk _ _) (cells_agg _))) ?_
  refine hx (xh_box rfl (fun g3 => ?_))
  refine hmemL (fun w m => m.eqX 0 rfl (show _ = RBlk g3 105 (cv k p t bb) from congrArg (RBlk _ _) (cells_agg _))) ?_
  refine hx (xh_alloc ti54 (fun g4 => ?_))
  refine hend <| hmemQ (X' := [_, _, _]) (S' := [_, _]) (fun _ m => m) <| hthen <| hseq <| hreg <| hy (fun _ => y_fld rfl fa54_1 (by decide)) <| hy (fun m => y_ld1 rfl ag51 (ld_blk (m.blk 2 rfl) (i := 1) rfl)) <| hy (fun m => yV (y_ldN rfl ag105 sz105 rfl ((m.blk 1 rfl).cells0)) ((rfl : _ = Value.agg (cv k p t bb).toArray))) <| ?_
  refine hx (xh_call rfl Try.call71 (rmakeC (by omega) (by omega)) [] rfl [0] rfl ?_)
  rintro _ _ _ ⟨A1, n1, c1, rfl, rfl, rfl, hp⟩
  refine hfactL (fun m => rdX (m.rd 0 rfl)) ?_
  rintro ⟨hl_q, hA_q⟩
  refine hy (fun _ => y_fld rfl fa54_1 (by decide)) <| ?_
  refine hx0 (xh_st1a 2 rfl rfl rfl sz51 rfl (by first | exact Nat.le_of_ble_eq_true rfl | simp) ?_)
  refine hend <| hsub (ρ' := [(4, _), (3, _), (2, _), (0, _), (1, _)]) ⟨rfl, rfl, rfl, rfl, rfl, trivial⟩ <| hmemQ (X' := [_, _, _]) (S' := [_, _, _]) (fun _ m => m) <| hthen <| hseq <| hreg <| hy (fun _ => y_assign rfl) <| hend <| hthen <| hseq <| hreg <| hy (fun _ => y_move rfl) <| hy (fun _ => y_fld rfl fa54_3 (by decide)) <| hy (fun m => y_ld1 rfl ag52 (ld_blk (m.blk 0 rfl) rfl)) <| ?_
  refine hmemL (fun w m => m.addX (r' := ROwn 105 4 (.slice none 0 0) 0 []) (.refl _ _) (Own.nil _ _ _ _) (fun k hk => hk.elim)) ?_
  refine hx (xh_app 0 rfl rfl rfl Try.underlying52 Try.underlying52 (by exact .inl rfl) ti105 rfl (fun m => Src.of_rd (m.rd 2 rfl)) wcs_one (by unfold maxLen; omega) (by omega) (fun u => ?_))
  refine hfactL (fun m => (m.own 0 rfl).slice) ?_
  rintro ⟨A_o, c_o, rfl, hc_o⟩
  refine hfactL (fun m => (m.ord 0 rfl).2.1) fun hA_o => ?_
  rw [Nat.zero_add]
  refine hmemL (fun w m => m.eqX 0 rfl (show _ = ROwn 105 4 (.slice A_o n3 c_o) n3 (wcs wl) from rfl)) ?_
  refine hy (fun _ => y_assign rfl) <| hend <| hsub (ρ' := [(5, _), (4, _), (3, _), (2, _), (0, _), (1, _)]) ⟨rfl, rfl, rfl, rfl, rfl, rfl, trivial⟩ <| hmemQ (X' := [_, _, _, _]) (S' := [_, _, _]) (fun _ m => m) <| hthen <| hseq <| hreg <| hy (fun _ => y_move rfl) <| hy (fun m => yV (y_ldN rfl ag105 sz105 rfl ((m.blk 3 rfl).cells0)) ((rfl : _ = Value.agg (cv k p t bb).toArray))) <| ?_
  refine hx (xh_bsl Try.underlying52 ti105 rfl rfl rfl (by simp [Value.cells, cv]) (by decide) (by decide) (fun g17 => ?_))
  have hA_b17 : 0 < 1 → (some (⟨g17, 0, none⟩ : Addr)) ≠ none := fun _ h => by cases h
  refine hmemL (fun w m => m.eqX 0 rfl (show _ = ROwn 105 4 (.slice (some ⟨g17, 0, none⟩) 1 1) 1 (wcs [(k, p, t, bb)]) from rfl)) ?_
  refine hx (xh_app 1 rfl rfl rfl Try.underlying52 Try.underlying52 (by exact .inl rfl) ti105 rfl (fun m => Src.of_rd (m.ord 0 rfl)) wcs_one (by unfold maxLen; omega) (by omega) (fun u2 => ?_))
  refine hfactL (fun m => (m.own 0 rfl).slice) ?_
  rintro ⟨A_o2, c_o2, rfl, hc_o⟩
  refine hfactL (fun m => (m.ord 0 rfl).2.1) fun hA_o => ?_
  refine hmemL (fun w m => m.eqX 0 rfl (show _ = ROwn 105 4 (.slice A_o2 (n3 + 1) c_o2) (n3 + 1) (wcs (wl ++ [(k, p, t, bb)])) from congrArg (ROwn _ _ _ _) (wcs_append ..).symm)) ?_
  refine hy (fun _ => y_fld rfl fa54_3 (by decide)) <| ?_
  refine hx0 (xh_st1a 2 rfl rfl rfl sz52 rfl (by first | exact Nat.le_of_ble_eq_true rfl | simp) ?_)
  refine hmemL (fun w m => m.eqX 0 rfl (show _ = RBlk g2 54 (dv room (.slice A1 n1 c1) (.slice Al nl cl) (.slice A_o2 (n3 + 1) c_o2) pw) from rfl)) ?_
  refine hend <| hsub (ρ' := [(5, _), (4, _), (3, _), (2, _), (0, _), (1, _)]) ⟨rfl, rfl, rfl, rfl, rfl, rfl, trivial⟩ <| hmemQ (X' := [_, _, _, _, _]) (S' := [_, _, _]) (fun _ m => m) <| hthen <| hseq <| hseq <| hreg <| hy (fun _ => y_fld rfl fa54_4 (by decide)) <| hy (fun m => y_ld1 rfl ag3 (ld_blk (m.blk 0 rfl) (i := 4) rfl)) <| hy (fun _ => y_gtr rfl rfl) <| hend <| hsub (ρ' := [(22, _), (5, _), (4, _), (3, _), (2, _), (0, _), (1, _)]) ⟨rfl, rfl, rfl, rfl, rfl, rfl, rfl, trivial⟩ <| hthen <| ?_
  refine hmemC (fun w m => (m.perm (takeR_perm [1] _ [_] _ rfl)).freeze) ?_
  refine hmemC (fun w m => m.asV 0 rfl .own) ?_
  refine hif rfl (fun h => ?_) (fun h => ?_)
  · refine hreg <| hy (fun _ => y_fld rfl fa54_4 (by decide)) <| hy (fun m => y_ld1 rfl ag3 (ld_blk (m.blk 0 rfl) (i := 4) rfl)) <| hy (fun _ => y_sub rfl rfl (w64 (by omega) (by omega))) <| hy (fun _ => y_fld rfl fa54_4 (by decide)) <| ?_
    refine hx0 (xh_st1a 0 rfl rfl rfl sz3 rfl (by first | exact Nat.le_of_ble_eq_true rfl | simp) ?_)
    refine hmemL (fun w m => m.eqX 0 rfl (show _ = RBlk g2 54 (dv room (.slice A1 n1 c1) (.slice Al nl cl) (.slice A_o2 (n3 + 1) c_o2) (lessP pw)) from by rw [lessP, if_pos h]; rfl)) ?_
    refine hend <| hsub (ρ' := [(22, _), (5, _), (4, _), (3, _), (2, _), (0, _), (1, _)]) ⟨rfl, rfl, rfl, rfl, rfl, rfl, rfl, trivial⟩ <| hmemQ (X' := [_, _, _, _]) (S' := [_, _, _, _, _]) (fun _ m => m) <| hthen <| hseq <| hreg <| hy (fun m => y_ldN rfl ag54 sz54 rfl ((m.blk 0 rfl).cells0)) <| ?_
    refine hx0 (xh_stA 2 rfl rfl rfl sz54 rfl dv_one rfl ?_)
    refine hend <| hsub (ρ' := [(22, _), (5, _), (4, _), (3, _), (2, _), (0, _), (1, _)]) ⟨rfl, rfl, rfl, rfl, rfl, rfl, rfl, trivial⟩ <| hmemQ (X' := [_, _, _, _]) (S' := [_, _, _, _, _]) (fun _ m => m) <| hthen <| hret <| ?_
    exact hretN trivial rfl rfl ag54 sz54 rfl (fun m => (m.blk 0 rfl).cells0) [] rfl [2, 0] rfl ⟨_, _, _, _, _, _, rfl, rfl, rfl, ⟨hp.1, hp.2, rfl⟩⟩
  · refine hmemC (fun w m => m.eqX 0 rfl (show _ = RBlk g2 54 (dv room (.slice A1 n1 c1) (.slice Al nl cl) (.slice A_o2 (n3 + 1) c_o2) (lessP pw)) from by rw [lessP, if_neg h])) ?_
    refine hcskip <| hthen <| hseq <| hreg <| hy (fun m => y_ldN rfl ag54 sz54 rfl ((m.blk 0 rfl).cells0)) <| ?_
    refine hx0 (xh_stA 2 rfl rfl rfl sz54 rfl dv_one rfl ?_)
    refine hend <| hsub (ρ' := [(22, _), (5, _), (4, _), (3, _), (2, _), (0, _), (1, _)]) ⟨rfl, rfl, rfl, rfl, rfl, rfl, rfl, trivial⟩ <| hmemQ (X' := [_, _, _, _]) (S' := [_, _, _, _, _]) (fun _ m => m) <| hthen <| hret <| ?_
    exact hretN trivial rfl rfl ag54 sz54 rfl (fun m => (m.blk 0 rfl).cells0) [] rfl [2, 0] rfl ⟨_, _, _, _, _, _, rfl, rfl, rfl, ⟨hp.1, hp.2, rfl⟩⟩
end Go.Proofs.Ytflcokdkobhieaa
