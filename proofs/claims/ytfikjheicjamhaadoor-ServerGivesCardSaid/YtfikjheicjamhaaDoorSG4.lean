/- What the claim leans on, part 4. -/
import Derived.Test.YtfikjheicjamhaaDoorSG3
section
/- The law ServerGives, computed. -/
set_option linter.unusedVariables false
set_option linter.unusedSimpArgs false
set_option maxRecDepth 20000
set_option maxHeartbeats 4000000
namespace Go.Proofs.YtfikjheicjamhaaDoor
open Go.Eng Go.Hx
theorem askOk_of {fr : Frames} {K : Nat} {nm : List UInt8} (hK : K < 4294967296) (hm : nm.length = 32) (hr : ∀ r, getF fr nm = some r → r.n ≤ 4106) : AskOk fr (putL (wbody 1 K nm [])) := by
  obtain ⟨h1, h2⟩ := put_takeE (wbody 1 K nm [])
  unfold AskOk
  rw [h1, h2, wb_k (by decide), wb_nm hm]
  refine ⟨rfl, ⟨by rw [wbody_len hm]; omega, ?_⟩, rfl, hr⟩
  rw [wb_k (by decide), wb_s hK, wbody_len hm, Nat.add_sub_cancel_left]
  exact ⟨by omega, .inl rfl⟩
theorem says_of {fr : Frames} {K : Nat} {nm : List UInt8} {is : Bool} {body : List UInt8} (hK : K < 4294967296) (hm : nm.length = 32) (hr : ∀ r, getF fr nm = some r → r.n ≤ 4106) (h : SaysS fr (putL (wbody 1 K nm [])) is body) :
    is = true ∧ body = putL (wbody (if (getF fr nm).isSome then 2 else 3) K nm (((getF fr nm).map (·.l)).getD [])) := by
  rcases h with h | h
  · refine ⟨h.2.1, h.2.2.trans ?_⟩
    rw [(put_takeE _).2, wb_nm hm, wb_s hK]
  · exact absurd (askOk_of hK hm hr) h.1
theorem reads_of {k K : Nat} {nm bd : List UInt8} {k1 s1 : Int} {nm1 body : List UInt8} {err : Int} (hk : k < 256) (hK : K < 4294967296) (hm : nm.length = 32) (hM : WMay k K bd.length) (h : ReadW (putL (wbody k K nm bd)) k1 s1 nm1 body err) :
    k1 = k ∧ s1 = K ∧ nm1 = nm ∧ body = bd ∧ err = 0 := by
  have h9 := put_takeE (wbody k K nm bd)
  have hO : OkW (wbody k K nm bd) := ⟨by rw [wbody_len hm]; omega, by rw [wb_k hk, wb_s hK, wbody_len hm, Nat.add_sub_cancel_left]; exact hM⟩
  rcases h with h | h | h
  · exact absurd h9.1 h.1
  · rw [h9.2] at h
    refine ⟨h.2.2.1.trans (wb_k hk), h.2.2.2.1.trans (congrArg _ (wb_s hK)), h.2.2.2.2.1.trans (wb_nm hm), h.2.2.2.2.2.1.trans ?_, h.2.2.2.2.2.2⟩
    have : (wbody k K nm bd).drop 5 = nm ++ bd := by simp [wbody, le4]
    rw [show (37 : Nat) = 5 + 32 from rfl, ← List.drop_drop, this, ← hm, List.drop_left]
  · rw [h9.2] at h; exact absurd hO h.2.1
theorem get1 (o nm : List UInt8) (ho : o.length = 32) (row : BRow) : getF (aput [] (⟨o, ho⟩ : Dg) row) nm = if nm = o then some row else none := by
  by_cases h : nm = o
  · simp [getF, aput, h]
  · rw [if_neg h]
    have : ¬ o = nm := fun e => h e.symm
    simp [getF, aput, this]
theorem serverGivesC {A : Option Addr} {n c : Nat} {l : List UInt8} {s : Int} {nm2 : List UInt8} (hc : n ≤ c) (hn : n ≤ 140737488351232) (hl : l.length = n) (hs : -9223372036854775808 ≤ s ∧ s ≤ 9223372036854775807) (hm2 : nm2.length = 32) : Con Tryd.prog 11 [.slice A n c, .int .i64 s, .agg (b8s nm2).toArray] [] [RRd 1 A n (b8s l), RRoots] (fun v_ X_ S_ => v_ = (.bool true) ∧ X_ = [] ∧ S_ = []) := by
  obtain ⟨K, hK, hK3⟩ : ∃ K : Nat, around s 4294967296 = (K : Int) ∧ K < 4294967296 := by
    have := around_lt s 4294967296 (by decide)
    exact ⟨(around s 4294967296).toNat, by omega, by omega⟩
  have hol : (l.take 60).length = min n 60 := by rw [List.length_take]; omega
  obtain ⟨h10, hsl⟩ := sealL_le (l.take 60)
  refine henter (N := 142) Tryd.func11 rfl rfl (by simp) fun b => ?_
  refine hfactC (fun m => rdB (m.rd 0 rfl)) ?_
  rintro ⟨hl_r, hA_r⟩
  refine hseq <| hreg <| ?_
  refine hx (xh_box rfl (fun g5 => ?_))
  refine hmemL (fun w m => m.eqX 0 rfl (show _ = RBlk g5 23 (b8s nm2) from congrArg (RBlk _ _) (cells_agg _))) ?_
  refine hy (fun _ => y_assign rfl) <| hend <| hmemQ (X' := [_]) (S' := [_, _]) (fun _ m => m) <| hthen <| hseq <| hreg <| ?_
  refine hx (xh_call rfl Tryd.call43 (newSrvC) [] rfl [] rfl ?_)
  rintro _ _ _ ⟨g, gm, rfl, rfl, rfl⟩
  refine hy (fun _ => y_assign rfl) <| hend <| hsub (ρ' := [(7, _), (6, _), (5, _), (0, _), (1, _), (2, _)]) ⟨rfl, rfl, rfl, rfl, rfl, rfl, trivial⟩ <| hmemQ (X' := [_, _]) (S' := [_, _]) (fun _ m => m) <| hthen <| hseq <| hseq <| hreg <| hy (fun _ => y_move rfl) <| hy (fun _ => y_eqPn rfl rfl (by kernel_rfl)) <| hend <| hsub (ρ' := [(24, _), (7, _), (6, _), (5, _), (0, _), (1, _), (2, _)]) ⟨rfl, rfl, rfl, rfl, rfl, rfl, rfl, trivial⟩ <| hthen <| ?_
  refine hiff rfl (rfl) ?_
  refine hcskip <| hthen <| hseq <| hreg <| hy (fun _ => y_move rfl) <| ?_
  refine hx (xh_call rfl Tryd.call21 (fewC (by omega) (by omega)) [] rfl [0] rfl ?_)
  rintro _ _ _ ⟨v, rfl, rfl, rfl⟩
  refine hfactL (fun m => (m.own 0 rfl).slice) ?_
  rintro ⟨A_x, c_x, rfl, hc_x⟩
  refine hfactL (fun m => (m.ord 0 rfl).2.1) fun hA_x => ?_
  refine hy (fun _ => y_assign rfl) <| hend <| hsub (ρ' := [(8, _), (24, _), (7, _), (6, _), (5, _), (0, _), (1, _), (2, _)]) ⟨rfl, rfl, rfl, rfl, rfl, rfl, rfl, rfl, trivial⟩ <| hmemQ (X' := [_, _, _]) (S' := [_, _]) (fun _ m => m) <| hthen <| hseq <| hreg <| hy (fun _ => y_move rfl) <| hy (fun _ => y_move rfl) <| ?_
  refine hx (xh_calll rfl Tryd.call47 (saddC hc_x (show min n 60 ≤ 4096 by omega) hol) [1] rfl (.x 0 rfl .own (.s 1 rfl .nil)) ?_)
  rintro _ _ _ ⟨row, rfl, rfl, rfl, hrow⟩
  refine ⟨rfl, ?_⟩
  obtain ⟨hrl, hrn⟩ := hrow
  have hm := shaL_length (l.take 60)
  have h32 : (b8s (shaL (l.take 60))).length = 32 := by rw [b8s_length, hm]
  have h32b : (b8s nm2).length = 32 := by rw [b8s_length, hm2]
  have e0 : ([] : List UInt8).length = 0 := rfl
  have hget := fun nm => get1 (shaL (l.take 60)) nm hm row
  have hsm : ∀ (nm : List UInt8) r, getF (aput [] (⟨shaL (l.take 60), hm⟩ : Dg) row) nm = some r → r.n ≤ 4106 := fun nm r h => by
    rw [hget] at h
    split at h
    · cases h; omega
    · cases h
  have hfr : FrOk (aput [] (⟨shaL (l.take 60), hm⟩ : Dg) row) := fun x hx => by
    have : x = (⟨shaL (l.take 60), hm⟩, row) := by simpa [aput] using hx
    subst this
    exact ⟨by show row.n ≤ _; omega, by show row.l.length = row.n; rw [hrl, hrn]⟩
  generalize hfrs : aput [] (⟨shaL (l.take 60), hm⟩ : Dg) row = fr at hget hsm hfr ⊢
  refine hy (fun _ => y_move rfl) <| hy (fun _ => y_extract rfl rfl) <| hy (fun _ => y_extract rfl rfl) <| ?_
  refine hx (xh_alloc ti23 (fun g9 => ?_))
  refine hx0 (xh_stA 0 rfl rfl rfl sz23 h32 b8s_one rfl ?_)
  refine hy (fun _ => y_assign rfl) <| hend <| hsub (ρ' := [(10, _), (9, _), (8, _), (24, _), (7, _), (6, _), (5, _), (0, _), (1, _), (2, _)]) ⟨rfl, rfl, rfl, rfl, rfl, rfl, rfl, rfl, rfl, rfl, trivial⟩ <| hmemQ (X' := [_, _, _, _]) (S' := [_, _]) (fun _ m => m) <| hthen <| hseq <| hreg <| hy (fun _ => y_move rfl) <| ?_
  refine hx (xh_call rfl Tryd.call14 (aroundC (by omega) (by omega) (by omega)) [] rfl [] rfl ?_)
  rintro _ _ _ ⟨rfl, rfl, rfl⟩
  rw [hK]
  refine hy (fun _ => y_assign rfl) <| hend <| hsub (ρ' := [(11, _), (10, _), (9, _), (8, _), (24, _), (7, _), (6, _), (5, _), (0, _), (1, _), (2, _)]) ⟨rfl, rfl, rfl, rfl, rfl, rfl, rfl, rfl, rfl, rfl, rfl, trivial⟩ <| hmemQ (X' := [_, _, _, _]) (S' := [_, _]) (fun _ m => m) <| hthen <| hseq <| hreg <| hy (fun _ => y_move rfl) <| hy (fun _ => y_move rfl) <| hy (fun m => y_ldN rfl ag23 sz23 h32 ((m.blk 0 rfl).cells0)) <| hy (fun _ => yV (y_build ti94 rfl rfl (by kernel_rfl) (bldM3 (k0 := 0) (s0 := 0) (zi := zm) (z := .string ⟨#[]⟩) pl94_0 pl94_1 pl94_2 z32z hm)) ((rfl : _ = Value.agg (mc ((1 : Nat) : Int) (K : Int) (shaL (l.take 60)) (.string (strOf []))).toArray))) <| ?_
  refine hx (xh_call rfl Tryd.call53 (rwbytesC (by omega) (by omega) hm (by omega) (body := [])) [] rfl [] rfl ?_)
  rintro _ _ _ ⟨v2, rfl, rfl, rfl⟩
  refine hfactL (fun m => (m.own 0 rfl).slice) ?_
  rintro ⟨A_x2, c_x2, rfl, hc_x2⟩
  refine hfactL (fun m => (m.ord 0 rfl).2.1) fun hA_x2 => ?_
  have hpl : (putL (wbody 1 K (shaL (l.take 60)) [])).length = 41 := by rw [putL_length, wbody_len hm]; rfl
  refine hx (xh_calll rfl Tryd.call52 (sanswerC (by omega) (by omega) hfr) [2] rfl (.x 0 rfl .own .nil) ?_)
  rintro _ _ _ ⟨v3, bn, body, is, rfl, rfl, rfl, hp1⟩
  refine ⟨rfl, ?_⟩
  refine hfactL (fun m => (m.own 1 rfl).slice) ?_
  rintro ⟨A_x3, c_x3, rfl, hc_x3⟩
  refine hfactL (fun m => (m.ord 1 rfl).2.1) fun hA_x3 => ?_
  obtain ⟨hbl1, hS1⟩ := hp1
  obtain ⟨rfl, hb1⟩ := says_of hK3 hm (hsm _) hS1
  rw [hget, if_pos rfl] at hb1
  have hb1 : body = putL (wbody 2 K (shaL (l.take 60)) (sealL (l.take 60))) := by rw [← hrl]; exact hb1
  subst hb1
  have hwl : (wbody 2 K (shaL (l.take 60)) (sealL (l.take 60))).length = 37 + (sealL (l.take 60)).length := wbody_len hm
  rw [putL_length, hwl] at hbl1
  refine hy (fun _ => y_move rfl) <| hy (fun _ => y_extract rfl rfl) <| hy (fun _ => y_extract rfl rfl) <| hy (fun _ => y_assign rfl) <| hy (fun _ => y_assign rfl) <| hend <| hsub (ρ' := [(13, _), (12, _), (11, _), (10, _), (9, _), (8, _), (24, _), (7, _), (6, _), (5, _), (0, _), (1, _), (2, _)]) ⟨rfl, rfl, rfl, rfl, rfl, rfl, rfl, rfl, rfl, rfl, rfl, rfl, rfl, trivial⟩ <| hmemQ (X' := [_, _, _, _, _, _]) (S' := [_, _]) (fun _ m => m) <| hthen <| hseq <| hreg <| hy (fun _ => y_move rfl) <| ?_
  refine hx (xh_calll rfl Tryd.call58 (wreadC (by omega) (by omega)) [] rfl (.x 1 rfl .own .nil) ?_)
  rintro _ _ _ ⟨k, s2, nm, body2, v4, err, bn2, rfl, rfl, rfl, hp2⟩
  refine ⟨rfl, ?_⟩
  refine hfactL (fun m => (m.own 0 rfl).slice) ?_
  rintro ⟨A_x4, c_x4, rfl, hc_x4⟩
  refine hfactL (fun m => (m.ord 0 rfl).2.1) fun hA_x4 => ?_
  obtain ⟨hnm2, hbl2, hR2⟩ := hp2
  obtain ⟨rfl, rfl, rfl, rfl, rfl⟩ := reads_of (k := 2) (by decide) hK3 hm ⟨by omega, .inr ⟨rfl, by omega⟩⟩ hR2
  subst hbl2
  refine hy (fun _ => y_move rfl) <| hy (fun _ => y_extract rfl rfl) <| hy (fun _ => y_extract rfl rfl) <| ?_
  refine hx (xh_alloc ti111 (fun g14 => ?_))
  refine hx0 (xh_stA 0 rfl rfl rfl sz111 (mc_len hm) (mc_one rfl) rfl ?_)
  refine hy (fun _ => y_assign rfl) <| hend <| hsub (ρ' := [(15, _), (14, _), (13, _), (12, _), (11, _), (10, _), (9, _), (8, _), (24, _), (7, _), (6, _), (5, _), (0, _), (1, _), (2, _)]) ⟨rfl, rfl, rfl, rfl, rfl, rfl, rfl, rfl, rfl, rfl, rfl, rfl, rfl, rfl, rfl, trivial⟩ <| hmemQ (X' := [_, _, _, _, _, _, _, _]) (S' := [_, _]) (fun _ m => m) <| hthen <| hseq <| hreg <| hy (fun _ => y_fld rfl fa111_3 (by decide)) <| hy (fun m => y_ld1 rfl ag32 (mc_v (m.blk 0 rfl) hm)) <| ?_
  refine hx (xh_calll rfl Tryd.call59 (openC hc_x4 (show _ ≤ 1000000 by omega) (show (60 : Int) ≤ 1000000 by decide)) [] rfl (.x 1 rfl .own .nil) ?_)
  rintro _ _ _ ⟨v5, rfl, rfl, rfl⟩
  refine ⟨rfl, ?_⟩
  refine hfactL (fun m => (m.own 0 rfl).slice) ?_
  rintro ⟨A_x5, c_x5, rfl, hc_x5⟩
  refine hfactL (fun m => (m.ord 0 rfl).2.1) fun hA_x5 => ?_
  have hop : openL (sealL (l.take 60)) 60 = (l.take 60, 0) := open_seal (by omega) (by omega)
  rw [hop]
  dsimp only
  refine hy (fun _ => y_move rfl) <| hy (fun _ => y_extract rfl rfl) <| hy (fun _ => y_extract rfl rfl) <| hy (fun _ => y_assign rfl) <| hy (fun _ => y_assign rfl) <| hend <| hsub (ρ' := [(17, _), (16, _), (15, _), (14, _), (13, _), (12, _), (11, _), (10, _), (9, _), (8, _), (24, _), (7, _), (6, _), (5, _), (0, _), (1, _), (2, _)]) ⟨rfl, rfl, rfl, rfl, rfl, rfl, rfl, rfl, rfl, rfl, rfl, rfl, rfl, rfl, rfl, rfl, rfl, trivial⟩ <| hmemQ (X' := [_, _, _, _, _, _, _, _, _]) (S' := [_, _]) (fun _ m => m) <| hthen <| hseq <| hreg <| hy (fun _ => y_move rfl) <| hy (fun _ => y_move rfl) <| hy (fun m => y_ldN rfl ag23 sz23 h32b ((m.blk 8 rfl).cells0)) <| hy (fun _ => yV (y_build ti94 rfl rfl (by kernel_rfl) (bldM3 (k0 := 0) (s0 := 0) (zi := zm) (z := .string ⟨#[]⟩) pl94_0 pl94_1 pl94_2 z32z hm2)) ((rfl : _ = Value.agg (mc ((1 : Nat) : Int) (K : Int) nm2 (.string (strOf []))).toArray))) <| ?_
  refine hx (xh_call rfl Tryd.call53 (rwbytesC (by omega) (by omega) hm2 (by omega) (body := [])) [] rfl [] rfl ?_)
  rintro _ _ _ ⟨v6, rfl, rfl, rfl⟩
  refine hfactL (fun m => (m.own 0 rfl).slice) ?_
  rintro ⟨A_x6, c_x6, rfl, hc_x6⟩
  refine hfactL (fun m => (m.ord 0 rfl).2.1) fun hA_x6 => ?_
  have hpl2 : (putL (wbody 1 K nm2 [])).length = 41 := by rw [putL_length, wbody_len hm2]; rfl
  refine hx (xh_calll rfl Tryd.call52 (sanswerC (by omega) (by omega) hfr) [4] rfl (.x 0 rfl .own .nil) ?_)
  rintro _ _ _ ⟨v7, bn3, body3, is2, rfl, rfl, rfl, hp3⟩
  refine ⟨rfl, ?_⟩
  refine hfactL (fun m => (m.own 1 rfl).slice) ?_
  rintro ⟨A_x7, c_x7, rfl, hc_x7⟩
  refine hfactL (fun m => (m.ord 1 rfl).2.1) fun hA_x7 => ?_
  obtain ⟨hbl3, hS3⟩ := hp3
  obtain ⟨rfl, hb3⟩ := says_of hK3 hm2 (hsm _) hS3
  by_cases hnn : nm2 = shaL (l.take 60)
  · have hg : getF fr nm2 = some row := by rw [hget, if_pos hnn]
    have hwm : WMay ((2 : Nat) : Int) (K : Int) row.l.length := ⟨by omega, .inr ⟨rfl, by rw [hrl]; omega⟩⟩
    have hb3 : body3 = putL (wbody 2 K nm2 row.l) := by rw [hb3, hg]; rfl
    subst hb3
    have hbd : (row.l).length ≤ 5000 := (by rw [hrl]; omega)
    have hwl2 : (wbody 2 K nm2 row.l).length = 37 + (row.l).length := wbody_len hm2
    rw [putL_length, hwl2] at hbl3
    refine hy (fun _ => y_move rfl) <| hy (fun _ => y_extract rfl rfl) <| hy (fun _ => y_extract rfl rfl) <| hy (fun _ => y_assign rfl) <| hy (fun _ => y_assign rfl) <| hend <| hsub (ρ' := [(19, _), (18, _), (17, _), (16, _), (15, _), (14, _), (13, _), (12, _), (11, _), (10, _), (9, _), (8, _), (24, _), (7, _), (6, _), (5, _), (0, _), (1, _), (2, _)]) ⟨rfl, rfl, rfl, rfl, rfl, rfl, rfl, rfl, rfl, rfl, rfl, rfl, rfl, rfl, rfl, rfl, rfl, rfl, rfl, trivial⟩ <| hmemQ (X' := [_, _, _, _, _, _, _, _, _, _, _]) (S' := [_, _]) (fun _ m => m) <| hthen <| hseq <| hreg <| hy (fun _ => y_move rfl) <| ?_
    refine hx (xh_calll rfl Tryd.call58 (wreadC (by omega) (by omega)) [] rfl (.x 1 rfl .own .nil) ?_)
    rintro _ _ _ ⟨k2, s3, nm3, body4, v8, err2, bn4, rfl, rfl, rfl, hp5⟩
    refine ⟨rfl, ?_⟩
    refine hfactL (fun m => (m.own 0 rfl).slice) ?_
    rintro ⟨A_x8, c_x8, rfl, hc_x8⟩
    refine hfactL (fun m => (m.ord 0 rfl).2.1) fun hA_x8 => ?_
    obtain ⟨hnm3, hbl5, hR5⟩ := hp5
    obtain ⟨rfl, rfl, rfl, rfl, rfl⟩ := reads_of (k := 2) (by decide) hK3 hm2 hwm hR5
    refine hy (fun _ => y_move rfl) <| hy (fun _ => y_extract rfl rfl) <| hy (fun _ => y_extract rfl rfl) <| ?_
    refine hx (xh_alloc ti111 (fun g20 => ?_))
    refine hx0 (xh_stA 0 rfl rfl rfl sz111 (mc_len hm2) (mc_one rfl) rfl ?_)
    refine hy (fun _ => y_assign rfl) <| hend <| hsub (ρ' := [(21, _), (20, _), (19, _), (18, _), (17, _), (16, _), (15, _), (14, _), (13, _), (12, _), (11, _), (10, _), (9, _), (8, _), (24, _), (7, _), (6, _), (5, _), (0, _), (1, _), (2, _)]) ⟨rfl, rfl, rfl, rfl, rfl, rfl, rfl, rfl, rfl, rfl, rfl, rfl, rfl, rfl, rfl, rfl, rfl, rfl, rfl, rfl, rfl, trivial⟩ <| hmemQ (X' := [_, _, _, _, _, _, _, _, _, _, _, _, _]) (S' := [_, _]) (fun _ m => m) <| hthen <| hseq <| hseq <| hdrw [5] [(0, some 0), (1, some 0), (2, some 0), (3, some 1), (4, some 0), (5, none), (6, some 1), (7, some 1), (8, some 1), (9, some 1), (10, some 1), (11, some 1), (12, some 1), (13, some 1), (14, some 1), (15, some 1), (16, some 1), (17, some 1), (18, some 1), (19, some 1), (20, some 1), (21, some 1), (22, some 1), (23, some 1), (24, some 1), (25, some 1), (26, some 1), (27, some 1), (28, some 1), (29, some 1), (30, some 1), (31, some 1), (32, some 1), (33, some 1), (34, some 1), (35, some 1), (36, some 1), (37, some 1), (38, some 1), (39, some 1), (40, some 1), (41, some 1), (42, some 1), (43, some 1)] (by kernel_rfl) (by kernel_rfl) rfl 99 <| htyU (y_move rfl) <| htyU (yF (y_neq rfl rfl) ((decide_eq_false (fun h => h rfl)))) <| htyU (y_move rfl) <| htyg (o := _) rfl rfl rfl (fun m => y_ldN rfl ag23 sz23 h32 ((m.blk 10 rfl).cells0)) <| htyUg (o := _) rfl rfl rfl (y_move rfl) <| ?_
    refine htxg (o := _) rfl rfl rfl (xh_calll rfl Tryd.call29 (rshaSumC (by omega)) [] rfl (.x 11 rfl .own .nil) ?_)
    rintro _ _ _ ⟨rfl, rfl, rfl⟩
    refine ⟨rfl, ?_⟩
    refine ⟨(fun _ => wk [0, 0, 0, 0, 0, 0, 0, 0, 0, 0, 0, 0, 0] [0, 1] rfl rfl), ?_⟩
    refine htyUg (o := _) rfl rfl rfl (yF (y_neD23 rfl rfl hm hm) ((decide_eq_false (fun h => h rfl)))) <| htyU (y_pickF rfl rfl) <| htyU (y_move rfl) <| htyUg (o := _) rfl rfl rfl (y_move rfl) <| htyUg (o := _) rfl rfl rfl (yF ((y_not rfl)) (rfl)) <| htyU (y_pickF rfl rfl) <| htyU (y_move rfl) <| htyUg (o := _) rfl rfl rfl (y_move rfl) <| htyUg (o := _) rfl rfl rfl (yF (y_neq rfl rfl) ((decide_eq_false (fun h => h rfl)))) <| htyU (y_pickF rfl rfl) <| htyU (y_move rfl) <| htyUg (o := _) rfl rfl rfl (y_fld rfl fa111_0 (by decide)) <| htyg (o := _) rfl rfl rfl (fun m => y_ld1 rfl ag3 (ld_blk (m.blk 6 rfl) rfl)) <| htyUg (o := _) rfl rfl rfl (yF (y_neq rfl rfl) ((decide_eq_false (fun h => h rfl)))) <| htyU (y_pickF rfl rfl) <| htyU (y_move rfl) <| htyUg (o := _) rfl rfl rfl (y_fld rfl fa111_1 (by decide)) <| htyg (o := _) rfl rfl rfl (fun m => y_ld1 rfl ag3 (ld_blk (m.blk 6 rfl) rfl)) <| htyUg (o := _) rfl rfl rfl (y_move rfl) <| htyUg (o := _) rfl rfl rfl (yF (y_neq rfl rfl) ((decide_eq_false (fun h => h rfl)))) <| htyU (y_pickF rfl rfl) <| htyU (y_move rfl) <| htyUg (o := _) rfl rfl rfl (y_fld rfl fa111_2 (by decide)) <| htyg (o := _) rfl rfl rfl (fun m => y_ldN rfl ag23 sz23 h32 (mc_nm (m.blk 6 rfl))) <| htyg (o := _) rfl rfl rfl (fun m => y_ldN rfl ag23 sz23 h32 ((m.blk 10 rfl).cells0)) <| htyUg (o := _) rfl rfl rfl (yF (y_neD23 rfl rfl hm hm) ((decide_eq_false (fun h => h rfl)))) <| htyU (y_pickF rfl rfl) <| htyU (y_move rfl) <| htyUg (o := _) rfl rfl rfl (y_move rfl) <| htyUg (o := _) rfl rfl rfl (yF (y_neq rfl rfl) ((decide_eq_false (fun h => h rfl)))) <| htyU (y_pickF rfl rfl) <| htyU (y_move rfl) <| htyUg (o := _) rfl rfl rfl (y_move rfl) <| htyg (o := _) rfl rfl rfl (fun m => y_b2s rfl Tryd.underlying32 Tryd.underlying5 Tryd.underlying9 (m.ord 5 rfl)) <| htyUg (o := _) rfl rfl rfl (y_move rfl) <| htyg (o := _) rfl rfl rfl (fun m => y_b2s rfl Tryd.underlying32 Tryd.underlying5 Tryd.underlying9 (m.ord 11 rfl)) <| htyUg (o := _) rfl rfl rfl (yF (y_sne rfl rfl) ((decide_eq_false (fun h => h rfl)))) <| htyU (y_pickF rfl rfl) <| htend <| hsub (ρ' := [(112, _), (21, _), (20, _), (19, _), (18, _), (17, _), (16, _), (15, _), (14, _), (13, _), (12, _), (11, _), (10, _), (9, _), (8, _), (24, _), (7, _), (6, _), (5, _), (0, _), (1, _), (2, _)]) ⟨rfl, rfl, rfl, rfl, rfl, rfl, rfl, rfl, rfl, rfl, rfl, rfl, rfl, rfl, rfl, rfl, rfl, rfl, rfl, rfl, rfl, rfl, trivial⟩ <| hmemQ (X' := [_, _, _, _, _, _, _, _, _, _, _, _, _]) (S' := [_, _]) (fun _ m => m) <| hthen <| ?_
    refine hiff rfl (rfl) ?_
    refine hcskip <| hthen <| hseq <| hdrw [27] [(0, some 1), (1, some 1), (2, some 1), (3, some 1), (4, some 1), (5, some 0), (6, some 1), (7, some 1), (8, some 1), (9, some 1), (10, some 0), (11, some 0), (12, some 1), (13, some 1), (14, some 1), (15, some 0), (16, some 0), (17, some 0), (18, some 1), (19, some 1), (20, some 0), (21, some 1), (22, some 1), (23, some 0), (24, some 0), (25, some 0), (26, some 0), (27, none), (28, some 1), (29, some 1)] (by kernel_rfl) (by kernel_rfl) rfl 99 <| htyU (y_move rfl) <| htyU (y_move rfl) <| htyUg (o := _) rfl rfl rfl (y_move rfl) <| htyUg (o := _) rfl rfl rfl (yT (y_eql rfl rfl) ((decide_eq_true rfl))) <| htyU (y_pickT rfl rfl) <| htyU (y_move rfl) <| htyUg (o := _) rfl rfl rfl (y_fld rfl fa111_1 (by decide)) <| htyg (o := _) rfl rfl rfl (fun m => y_ld1 rfl ag3 (ld_blk (m.blk 0 rfl) rfl)) <| htyUg (o := _) rfl rfl rfl (y_move rfl) <| htyUg (o := _) rfl rfl rfl (yT (y_eql rfl rfl) ((decide_eq_true rfl))) <| htyU (y_pickT rfl rfl) <| htyU (y_move rfl) <| htyUg (o := _) rfl rfl rfl (y_fld rfl fa111_2 (by decide)) <| htyg (o := _) rfl rfl rfl (fun m => y_ldN rfl ag23 sz23 h32b (mc_nm (m.blk 0 rfl))) <| htyg (o := _) rfl rfl rfl (fun m => y_ldN rfl ag23 sz23 h32b ((m.blk 12 rfl).cells0)) <| htyUg (o := _) rfl rfl rfl (yT (y_eqD23 rfl rfl hm2 hm2) ((decide_eq_true rfl))) <| htyU (y_pickT rfl rfl) <| htyU (y_move rfl) <| htyUg (o := _) rfl rfl rfl (y_fld rfl fa111_0 (by decide)) <| htyg (o := _) rfl rfl rfl (fun m => y_ld1 rfl ag3 (ld_blk (m.blk 0 rfl) rfl)) <| htyUg (o := _) rfl rfl rfl (y_eql rfl rfl) <| htyg (o := _) rfl rfl rfl (fun m => y_ldN rfl ag23 sz23 h32b ((m.blk 12 rfl).cells0)) <| htyg (o := _) rfl rfl rfl (fun m => y_ldN rfl ag23 sz23 h32 ((m.blk 10 rfl).cells0)) <| htyUg (o := _) rfl rfl rfl (y_neD23 rfl rfl hm2 hm) <| htyUg (o := _) rfl rfl rfl (yT (y_beq Tryd.underlying4 rfl rfl) ((by rw [decide_eq_false (by decide), decide_eq_false (fun h => h hnn)]; rfl))) <| htyU (y_pickT rfl rfl) <| htyU (y_move rfl) <| ?_
    refine htxg (o := _) rfl rfl rfl (xh_call rfl Tryd.call57 (lives20C) [] rfl [] rfl ?_)
    rintro _ _ _ ⟨rfl, rfl, rfl⟩
    refine ⟨(fun _ => wk [0, 0, 0, 0, 0, 0, 0, 0, 0, 0, 0, 0, 0] [0, 1] rfl rfl), ?_⟩
    refine htyU (y_pickT rfl rfl) <| htyU (y_assign rfl) <| htend <| hsub (ρ' := [(6, _), (112, _), (21, _), (20, _), (19, _), (18, _), (17, _), (16, _), (15, _), (14, _), (13, _), (12, _), (11, _), (10, _), (9, _), (8, _), (24, _), (7, _), (5, _), (0, _), (1, _), (2, _)]) ⟨rfl, rfl, rfl, rfl, rfl, rfl, rfl, rfl, rfl, rfl, rfl, rfl, rfl, rfl, rfl, rfl, rfl, rfl, rfl, rfl, rfl, rfl, trivial⟩ <| hmemQ (X' := [_, _, _, _, _, _, _, _, _, _, _, _, _]) (S' := [_, _]) (fun _ m => m) <| hthen <| hret <| ?_
    exact hret1 trivial rfl rfl [] rfl [] rfl ⟨rfl, rfl, rfl⟩
  · have hg : getF fr nm2 = none := by rw [hget, if_neg hnn]
    have hwm : WMay ((3 : Nat) : Int) (K : Int) ([] : List UInt8).length := ⟨by omega, .inl rfl⟩
    have hb3 : body3 = putL (wbody 3 K nm2 ([] : List UInt8)) := by rw [hb3, hg]; rfl
    subst hb3
    have hbd : (([] : List UInt8)).length ≤ 5000 := (by decide)
    have hwl2 : (wbody 3 K nm2 ([] : List UInt8)).length = 37 + (([] : List UInt8)).length := wbody_len hm2
    rw [putL_length, hwl2] at hbl3
    refine hy (fun _ => y_move rfl) <| hy (fun _ => y_extract rfl rfl) <| hy (fun _ => y_extract rfl rfl) <| hy (fun _ => y_assign rfl) <| hy (fun _ => y_assign rfl) <| hend <| hsub (ρ' := [(19, _), (18, _), (17, _), (16, _), (15, _), (14, _), (13, _), (12, _), (11, _), (10, _), (9, _), (8, _), (24, _), (7, _), (6, _), (5, _), (0, _), (1, _), (2, _)]) ⟨rfl, rfl, rfl, rfl, rfl, rfl, rfl, rfl, rfl, rfl, rfl, rfl, rfl, rfl, rfl, rfl, rfl, rfl, rfl, trivial⟩ <| hthen <| hseq <| hreg <| hy (fun _ => y_move rfl) <| ?_
    refine hx (xh_calll rfl Tryd.call58 (wreadC (by omega) (by omega)) [] rfl (.x 1 rfl .own .nil) ?_)
    rintro _ _ _ ⟨k2, s3, nm3, body4, v8, err2, bn4, rfl, rfl, rfl, hp5⟩
    refine ⟨rfl, ?_⟩
    refine hfactL (fun m => (m.own 0 rfl).slice) ?_
    rintro ⟨A_x8, c_x8, rfl, hc_x8⟩
    refine hfactL (fun m => (m.ord 0 rfl).2.1) fun hA_x8 => ?_
    obtain ⟨hnm3, hbl5, hR5⟩ := hp5
    obtain ⟨rfl, rfl, rfl, rfl, rfl⟩ := reads_of (k := 3) (by decide) hK3 hm2 hwm hR5
    refine hy (fun _ => y_move rfl) <| hy (fun _ => y_extract rfl rfl) <| hy (fun _ => y_extract rfl rfl) <| ?_
    refine hx (xh_alloc ti111 (fun g20 => ?_))
    refine hx0 (xh_stA 0 rfl rfl rfl sz111 (mc_len hm2) (mc_one rfl) rfl ?_)
    refine hy (fun _ => y_assign rfl) <| hend <| hsub (ρ' := [(21, _), (20, _), (19, _), (18, _), (17, _), (16, _), (15, _), (14, _), (13, _), (12, _), (11, _), (10, _), (9, _), (8, _), (24, _), (7, _), (6, _), (5, _), (0, _), (1, _), (2, _)]) ⟨rfl, rfl, rfl, rfl, rfl, rfl, rfl, rfl, rfl, rfl, rfl, rfl, rfl, rfl, rfl, rfl, rfl, rfl, rfl, rfl, rfl, trivial⟩ <| hmemQ (X' := [_, _, _, _, _, _, _, _, _, _, _, _, _]) (S' := [_, _]) (fun _ m => m) <| hthen <| hseq <| hseq <| hdrw [5] [(0, some 0), (1, some 0), (2, some 0), (3, some 1), (4, some 0), (5, none), (6, some 1), (7, some 1), (8, some 1), (9, some 1), (10, some 1), (11, some 1), (12, some 1), (13, some 1), (14, some 1), (15, some 1), (16, some 1), (17, some 1), (18, some 1), (19, some 1), (20, some 1), (21, some 1), (22, some 1), (23, some 1), (24, some 1), (25, some 1), (26, some 1), (27, some 1), (28, some 1), (29, some 1), (30, some 1), (31, some 1), (32, some 1), (33, some 1), (34, some 1), (35, some 1), (36, some 1), (37, some 1), (38, some 1), (39, some 1), (40, some 1), (41, some 1), (42, some 1), (43, some 1)] (by kernel_rfl) (by kernel_rfl) rfl 99 <| htyU (y_move rfl) <| htyU (yF (y_neq rfl rfl) ((decide_eq_false (fun h => h rfl)))) <| htyU (y_move rfl) <| htyg (o := _) rfl rfl rfl (fun m => y_ldN rfl ag23 sz23 h32 ((m.blk 10 rfl).cells0)) <| htyUg (o := _) rfl rfl rfl (y_move rfl) <| ?_
    refine htxg (o := _) rfl rfl rfl (xh_calll rfl Tryd.call29 (rshaSumC (by omega)) [] rfl (.x 11 rfl .own .nil) ?_)
    rintro _ _ _ ⟨rfl, rfl, rfl⟩
    refine ⟨rfl, ?_⟩
    refine ⟨(fun _ => wk [0, 0, 0, 0, 0, 0, 0, 0, 0, 0, 0, 0, 0] [0, 1] rfl rfl), ?_⟩
    refine htyUg (o := _) rfl rfl rfl (yF (y_neD23 rfl rfl hm hm) ((decide_eq_false (fun h => h rfl)))) <| htyU (y_pickF rfl rfl) <| htyU (y_move rfl) <| htyUg (o := _) rfl rfl rfl (y_move rfl) <| htyUg (o := _) rfl rfl rfl (yF ((y_not rfl)) (rfl)) <| htyU (y_pickF rfl rfl) <| htyU (y_move rfl) <| htyUg (o := _) rfl rfl rfl (y_move rfl) <| htyUg (o := _) rfl rfl rfl (yF (y_neq rfl rfl) ((decide_eq_false (fun h => h rfl)))) <| htyU (y_pickF rfl rfl) <| htyU (y_move rfl) <| htyUg (o := _) rfl rfl rfl (y_fld rfl fa111_0 (by decide)) <| htyg (o := _) rfl rfl rfl (fun m => y_ld1 rfl ag3 (ld_blk (m.blk 6 rfl) rfl)) <| htyUg (o := _) rfl rfl rfl (yF (y_neq rfl rfl) ((decide_eq_false (fun h => h rfl)))) <| htyU (y_pickF rfl rfl) <| htyU (y_move rfl) <| htyUg (o := _) rfl rfl rfl (y_fld rfl fa111_1 (by decide)) <| htyg (o := _) rfl rfl rfl (fun m => y_ld1 rfl ag3 (ld_blk (m.blk 6 rfl) rfl)) <| htyUg (o := _) rfl rfl rfl (y_move rfl) <| htyUg (o := _) rfl rfl rfl (yF (y_neq rfl rfl) ((decide_eq_false (fun h => h rfl)))) <| htyU (y_pickF rfl rfl) <| htyU (y_move rfl) <| htyUg (o := _) rfl rfl rfl (y_fld rfl fa111_2 (by decide)) <| htyg (o := _) rfl rfl rfl (fun m => y_ldN rfl ag23 sz23 h32 (mc_nm (m.blk 6 rfl))) <| htyg (o := _) rfl rfl rfl (fun m => y_ldN rfl ag23 sz23 h32 ((m.blk 10 rfl).cells0)) <| htyUg (o := _) rfl rfl rfl (yF (y_neD23 rfl rfl hm hm) ((decide_eq_false (fun h => h rfl)))) <| htyU (y_pickF rfl rfl) <| htyU (y_move rfl) <| htyUg (o := _) rfl rfl rfl (y_move rfl) <| htyUg (o := _) rfl rfl rfl (yF (y_neq rfl rfl) ((decide_eq_false (fun h => h rfl)))) <| htyU (y_pickF rfl rfl) <| htyU (y_move rfl) <| htyUg (o := _) rfl rfl rfl (y_move rfl) <| htyg (o := _) rfl rfl rfl (fun m => y_b2s rfl Tryd.underlying32 Tryd.underlying5 Tryd.underlying9 (m.ord 5 rfl)) <| htyUg (o := _) rfl rfl rfl (y_move rfl) <| htyg (o := _) rfl rfl rfl (fun m => y_b2s rfl Tryd.underlying32 Tryd.underlying5 Tryd.underlying9 (m.ord 11 rfl)) <| htyUg (o := _) rfl rfl rfl (yF (y_sne rfl rfl) ((decide_eq_false (fun h => h rfl)))) <| htyU (y_pickF rfl rfl) <| htend <| hsub (ρ' := [(112, _), (21, _), (20, _), (19, _), (18, _), (17, _), (16, _), (15, _), (14, _), (13, _), (12, _), (11, _), (10, _), (9, _), (8, _), (24, _), (7, _), (6, _), (5, _), (0, _), (1, _), (2, _)]) ⟨rfl, rfl, rfl, rfl, rfl, rfl, rfl, rfl, rfl, rfl, rfl, rfl, rfl, rfl, rfl, rfl, rfl, rfl, rfl, rfl, rfl, rfl, trivial⟩ <| hmemQ (X' := [_, _, _, _, _, _, _, _, _, _, _, _, _]) (S' := [_, _]) (fun _ m => m) <| hthen <| ?_
    refine hiff rfl (rfl) ?_
    refine hcskip <| hthen <| hseq <| hdrw [27] [(0, some 1), (1, some 1), (2, some 1), (3, some 1), (4, some 1), (5, some 0), (6, some 1), (7, some 1), (8, some 1), (9, some 1), (10, some 0), (11, some 0), (12, some 1), (13, some 1), (14, some 1), (15, some 0), (16, some 0), (17, some 0), (18, some 1), (19, some 1), (20, some 0), (21, some 1), (22, some 1), (23, some 0), (24, some 0), (25, some 0), (26, some 0), (27, none), (28, some 1), (29, some 1)] (by kernel_rfl) (by kernel_rfl) rfl 99 <| htyU (y_move rfl) <| htyU (y_move rfl) <| htyUg (o := _) rfl rfl rfl (y_move rfl) <| htyUg (o := _) rfl rfl rfl (yT (y_eql rfl rfl) ((decide_eq_true rfl))) <| htyU (y_pickT rfl rfl) <| htyU (y_move rfl) <| htyUg (o := _) rfl rfl rfl (y_fld rfl fa111_1 (by decide)) <| htyg (o := _) rfl rfl rfl (fun m => y_ld1 rfl ag3 (ld_blk (m.blk 0 rfl) rfl)) <| htyUg (o := _) rfl rfl rfl (y_move rfl) <| htyUg (o := _) rfl rfl rfl (yT (y_eql rfl rfl) ((decide_eq_true rfl))) <| htyU (y_pickT rfl rfl) <| htyU (y_move rfl) <| htyUg (o := _) rfl rfl rfl (y_fld rfl fa111_2 (by decide)) <| htyg (o := _) rfl rfl rfl (fun m => y_ldN rfl ag23 sz23 h32b (mc_nm (m.blk 0 rfl))) <| htyg (o := _) rfl rfl rfl (fun m => y_ldN rfl ag23 sz23 h32b ((m.blk 12 rfl).cells0)) <| htyUg (o := _) rfl rfl rfl (yT (y_eqD23 rfl rfl hm2 hm2) ((decide_eq_true rfl))) <| htyU (y_pickT rfl rfl) <| htyU (y_move rfl) <| htyUg (o := _) rfl rfl rfl (y_fld rfl fa111_0 (by decide)) <| htyg (o := _) rfl rfl rfl (fun m => y_ld1 rfl ag3 (ld_blk (m.blk 0 rfl) rfl)) <| htyUg (o := _) rfl rfl rfl (y_eql rfl rfl) <| htyg (o := _) rfl rfl rfl (fun m => y_ldN rfl ag23 sz23 h32b ((m.blk 12 rfl).cells0)) <| htyg (o := _) rfl rfl rfl (fun m => y_ldN rfl ag23 sz23 h32 ((m.blk 10 rfl).cells0)) <| htyUg (o := _) rfl rfl rfl (y_neD23 rfl rfl hm2 hm) <| htyUg (o := _) rfl rfl rfl (yT (y_beq Tryd.underlying4 rfl rfl) ((by rw [decide_eq_true hnn]; rfl))) <| htyU (y_pickT rfl rfl) <| htyU (y_move rfl) <| ?_
    refine htxg (o := _) rfl rfl rfl (xh_call rfl Tryd.call57 (lives20C) [] rfl [] rfl ?_)
    rintro _ _ _ ⟨rfl, rfl, rfl⟩
    refine ⟨(fun _ => wk [0, 0, 0, 0, 0, 0, 0, 0, 0, 0, 0, 0, 0] [0, 1] rfl rfl), ?_⟩
    refine htyU (y_pickT rfl rfl) <| htyU (y_assign rfl) <| htend <| hsub (ρ' := [(6, _), (112, _), (21, _), (20, _), (19, _), (18, _), (17, _), (16, _), (15, _), (14, _), (13, _), (12, _), (11, _), (10, _), (9, _), (8, _), (24, _), (7, _), (5, _), (0, _), (1, _), (2, _)]) ⟨rfl, rfl, rfl, rfl, rfl, rfl, rfl, rfl, rfl, rfl, rfl, rfl, rfl, rfl, rfl, rfl, rfl, rfl, rfl, rfl, rfl, rfl, trivial⟩ <| hmemQ (X' := [_, _, _, _, _, _, _, _, _, _, _, _, _]) (S' := [_, _]) (fun _ m => m) <| hthen <| hret <| ?_
    exact hret1 trivial rfl rfl [] rfl [] rfl ⟨rfl, rfl, rfl⟩
theorem serverGives (A : Option Addr) (n c : Nat) (l : List UInt8) (z : Int) (im : List UInt8) (W : World) (h1 : Rd W 1 A n (b8s l)) (hc : n ≤ c) (hn : n ≤ 140737488351232) (hz : -9223372036854775808 ≤ z ∧ z ≤ 9223372036854775807) (hi : im.length = 32) (hro : RRoots.holds W) :
    Calls Tryd.prog 11 #[.slice A n c, .int .i64 z, .agg (b8s im).toArray] W fun e w' => e = .returned (.bool true) ∧ Fr No W w' :=
  con_calls (serverGivesC hc hn (rdB h1).1 hz hi) (by
    intro s hs
    simp only [List.mem_cons, List.not_mem_nil, or_false] at hs
    rcases hs with rfl | rfl
    · exact h1
    · exact hro)
end Go.Proofs.YtfikjheicjamhaaDoor
end
