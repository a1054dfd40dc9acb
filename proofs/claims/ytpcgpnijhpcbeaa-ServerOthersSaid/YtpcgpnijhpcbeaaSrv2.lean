/- The law ServerOthers, computed. -/
import Derived.Test.YtpcgpnijhpcbeaaSrv1
import Derived.Test.YtpcgpnijhpcbeaaCells2
set_option linter.unusedVariables false
set_option linter.unusedSimpArgs false
set_option maxRecDepth 20000
namespace Go.Proofs.Ytpcgpnijhpcbeaa
open Go.Eng Go.Hx
theorem put_takeE (b : List UInt8) : takeE (putL b) = 0 ∧ takeB (putL b) = b := by
  have hl := putL_length b
  have ht : (putL b).take ((putL b).length - 4) = b := by rw [hl, Nat.add_sub_cancel, putL]; simp
  have he : takeE (putL b) = 0 := by unfold takeE; rw [if_neg (by omega), ht, if_pos rfl]
  exact ⟨he, by rw [takeB, if_pos he, ht]⟩
theorem wb_k {k s : Nat} {nm body : List UInt8} (hk : k < 256) : wkd (wbody k s nm body) = k := by
  have : (wbody k s nm body).getD 0 0 = UInt8.ofNat k := by simp [wbody]
  unfold wkd
  rw [this, UInt8.toNat_ofNat', Nat.mod_eq_of_lt (by omega)]
theorem wb_s {k s : Nat} {nm body : List UInt8} (hs : s < 4294967296) : ws (wbody k s nm body) = s := by
  have : ((wbody k s nm body).drop 1).take 4 = le4 s := by
    simp only [wbody, List.cons_append, List.nil_append, List.drop_succ_cons, List.drop_zero]
    rw [List.append_assoc, List.take_append_of_le_length (by rw [le4_length]; exact Nat.le_refl _), List.take_of_length_le (by rw [le4_length]; exact Nat.le_refl _)]
  unfold ws
  rw [this, num4_le4 hs]
theorem wb_nm {k s : Nat} {nm body : List UInt8} (hm : nm.length = 32) : nmOf (wbody k s nm body) = nm := by
  have : (wbody k s nm body).drop 5 = nm ++ body := by simp [wbody, le4]
  unfold nmOf
  rw [this, List.take_append_of_le_length (by omega), List.take_of_length_le (by omega)]
theorem ask_iff {k s : Nat} {nm body : List UInt8} (hk : k < 256) (hs : s < 4294967296) (hm : nm.length = 32) (hM : WMay k s body.length) : AskOk [] (putL (wbody k s nm body)) ↔ k = 1 := by
  obtain ⟨h1, h2⟩ := put_takeE (wbody k s nm body)
  unfold AskOk
  rw [h1, h2, wb_k hk]
  constructor
  · intro h; have := h.2.2.1; omega
  · intro h
    refine ⟨rfl, ⟨by rw [wbody_len hm]; omega, ?_⟩, by omega, fun r e => by cases e⟩
    rw [wb_k hk, wb_s hs, wbody_len hm, Nat.add_sub_cancel_left]
    exact hM
theorem bad_ask (b : List UInt8) (i : Nat) (y : UInt8) (hi : i < b.length + 4) (hy : y ≠ (putL b).getD i 0) : takeE ((putL b).set i y) ≠ 0 := by
  have hl : ((putL b).set i y).length = b.length + 4 := by rw [List.length_set, putL_length]
  unfold takeE
  rw [if_neg (by omega), hl, Nat.add_sub_cancel, if_neg (putL_one b i y hi hy)]
  decide
theorem frOk_nil : FrOk [] := fun x h => by cases h
theorem z32z : zm.length = 32 := by simp [zm]
theorem lives20C  : Con Try.prog 15 [] [] [] (fun v_ X_ S_ => v_ = (.bool true) ∧ X_ = [] ∧ S_ = []) := by
  refine henter (N := 36) Try.func15 rfl rfl (by simp) fun b => ?_
  refine hseq <| hreg <| hy (fun _ => y_assign rfl) <| hend <| hthen <| hseq <| hreg <| ?_
  refine hx (xh_call rfl Try.call10 (newSC) [] rfl [] rfl ?_)
  rintro _ _ _ ⟨g, gm, rfl, rfl, rfl⟩
  refine hy (fun _ => y_assign rfl) <| hend <| hsub (ρ' := [(1, _), (0, _)]) ⟨rfl, rfl, trivial⟩ <| hmemQ (X' := [_]) (S' := []) (fun _ m => m) <| hthen <| hseq <| hseq <| hreg <| hy (fun _ => y_move rfl) <| hy (fun _ => y_eqPn rfl rfl (by kernel_rfl)) <| hend <| hsub (ρ' := [(8, _), (1, _), (0, _)]) ⟨rfl, rfl, rfl, trivial⟩ <| hthen <| ?_
  refine hiff rfl (rfl) ?_
  have e0 : ([] : List UInt8).length = 0 := rfl
  have hM7 : WMay ((1 : Nat) : Int) ((7 : Nat) : Int) ([] : List UInt8).length := ⟨by omega, .inl rfl⟩
  have hi7 := ask_iff (k := 1) (s := 7) (nm := zm) (body := []) (by decide) (by decide) z32z hM7
  refine hcskip <| hthen <| hseq <| hreg <| hy (fun _ => y_move rfl) <| hy (fun _ => yV (y_build ti25 rfl rfl (by kernel_rfl) (.cons (o := 0) (sz := 1) (by kernel_rfl) rfl rfl (Nat.le_of_ble_eq_true rfl) (.cons (o := 1) (sz := 1) (by kernel_rfl) rfl rfl (Nat.le_of_ble_eq_true rfl) .nil))) ((rfl : _ = Value.agg (mc ((1 : Nat) : Int) ((7 : Nat) : Int) zm (.string (strOf []))).toArray))) <| ?_
  refine hx (xh_call rfl Try.call12 (rwbytesC (by omega) (by omega) z32z (by omega) (body := [])) [] rfl [] rfl ?_)
  rintro _ _ _ ⟨v, rfl, rfl, rfl⟩
  refine hfactL (fun m => (m.own 0 rfl).slice) ?_
  rintro ⟨A_x, c_x, rfl, hc_x⟩
  refine hfactL (fun m => (m.ord 0 rfl).2.1) fun hA_x => ?_
  refine hx (xh_calll rfl Try.call14 (sanswerC (by omega) (by omega) frOk_nil) [1] rfl (.x 0 rfl .own .nil) ?_)
  rintro _ _ _ ⟨v2, bn, body, is, rfl, rfl, rfl, hp⟩
  refine ⟨rfl, ?_⟩
  refine hfactL (fun m => (m.own 1 rfl).slice) ?_
  rintro ⟨A_x2, c_x2, rfl, hc_x2⟩
  refine hfactL (fun m => (m.ord 1 rfl).2.1) fun hA_x2 => ?_
  obtain ⟨hbl, hS⟩ := hp
  have hS' : is = true ∧ body = putL (wbody 3 7 zm []) := by
    rcases hS with h | h
    · refine ⟨h.2.1, h.2.2.trans ?_⟩
      rw [(put_takeE _).2, wb_nm z32z, wb_s (by decide)]; rfl
    · exact absurd (hi7.2 rfl) h.1
  obtain ⟨rfl, rfl⟩ := hS'
  rw [putL_length, wbody_len z32z] at hbl
  refine hy (fun _ => y_move rfl) <| hy (fun _ => y_extract rfl rfl) <| hy (fun _ => y_extract rfl rfl) <| hy (fun _ => y_assign rfl) <| hy (fun _ => y_assign rfl) <| hend <| hsub (ρ' := [(3, _), (2, _), (8, _), (1, _), (0, _)]) ⟨rfl, rfl, rfl, rfl, rfl, trivial⟩ <| hmemQ (X' := [_, _, _]) (S' := []) (fun _ m => m) <| hthen <| hseq <| hreg <| hy (fun _ => y_move rfl) <| ?_
  refine hx (xh_calll rfl Try.call42 (wreadC (by omega) (by omega)) [] rfl (.x 1 rfl .own .nil) ?_)
  rintro _ _ _ ⟨k, s, nm, body2, v3, err, bn2, rfl, rfl, rfl, hp2⟩
  refine ⟨rfl, ?_⟩
  refine hfactL (fun m => (m.own 0 rfl).slice) ?_
  rintro ⟨A_x3, c_x3, rfl, hc_x3⟩
  refine hfactL (fun m => (m.ord 0 rfl).2.1) fun hA_x3 => ?_
  obtain ⟨hnm, hbl2, hR⟩ := hp2
  have h9 := put_takeE (wbody 3 7 zm [])
  have hM9 : OkW (wbody 3 7 zm []) := ⟨by rw [wbody_len z32z]; omega, by rw [wb_k (by decide), wb_s (by decide), wbody_len z32z]; exact ⟨by omega, .inl rfl⟩⟩
  have hR' : k = 3 ∧ s = 7 ∧ err = 0 := by
    rcases hR with h | h | h
    · exact absurd h9.1 h.1
    · rw [h9.2] at h
      exact ⟨h.2.2.1.trans (wb_k (by decide)), h.2.2.2.1.trans (congrArg _ (wb_s (by decide))), h.2.2.2.2.2.2⟩
    · rw [h9.2] at h; exact absurd hM9 h.2.1
  obtain ⟨rfl, rfl, rfl⟩ := hR'
  refine hy (fun _ => y_move rfl) <| hy (fun _ => y_extract rfl rfl) <| hy (fun _ => y_extract rfl rfl) <| ?_
  refine hx (xh_alloc ti93 (fun g4 => ?_))
  refine hx0 (xh_stA 0 rfl rfl rfl sz93 (mc_len hnm) (mc_one rfl) rfl ?_)
  refine hy (fun _ => y_assign rfl) <| hend <| hsub (ρ' := [(5, _), (4, _), (3, _), (2, _), (8, _), (1, _), (0, _)]) ⟨rfl, rfl, rfl, rfl, rfl, rfl, rfl, trivial⟩ <| hmemQ (X' := [_, _, _, _, _]) (S' := []) (fun _ m => m) <| hthen <| hseq <| hreg <| hy (fun _ => y_move rfl) <| hy (fun _ => y_move rfl) <| hyg (o := _) rfl rfl rfl (fun _ => y_move rfl) <| hyg (o := _) rfl rfl rfl (fun _ => yT (y_eql rfl rfl) ((decide_eq_true rfl))) <| hy (fun _ => y_pickT rfl rfl) <| hy (fun _ => y_move rfl) <| hyg (o := _) rfl rfl rfl (fun _ => y_fld rfl fa93_0 (by decide)) <| hyg (o := _) rfl rfl rfl (fun m => y_ld1 rfl ag3 (ld_blk (m.blk 0 rfl) rfl)) <| hyg (o := _) rfl rfl rfl (fun _ => yT (y_eql rfl rfl) ((decide_eq_true rfl))) <| hy (fun _ => y_pickT rfl rfl) <| hy (fun _ => y_move rfl) <| hyg (o := _) rfl rfl rfl (fun _ => y_fld rfl fa93_1 (by decide)) <| hyg (o := _) rfl rfl rfl (fun m => y_ld1 rfl ag3 (ld_blk (m.blk 0 rfl) rfl)) <| hyg (o := _) rfl rfl rfl (fun _ => yT (y_eql rfl rfl) ((decide_eq_true rfl))) <| hy (fun _ => y_pickT rfl rfl) <| hy (fun _ => y_assign rfl) <| hend <| hsub (ρ' := [(0, _), (5, _), (4, _), (3, _), (2, _), (8, _), (1, _)]) ⟨rfl, rfl, rfl, rfl, rfl, rfl, rfl, trivial⟩ <| hthen <| hret <| ?_
  exact hret1 trivial rfl rfl [] rfl [] rfl ⟨rfl, rfl, rfl⟩
theorem xor_b8 (a b : UInt8) : bits .xor .u8 (a.toNat : Int) (b.toNat : Int) = ((a ^^^ b).toNat : Int) := by
  rw [u8_xor_nat _ _ a.toNat_lt b.toNat_lt, UInt8.toNat_xor]
theorem xor_ne {a y : UInt8} (h : y ≠ 0) : a ^^^ y ≠ a := fun e => h (by
  have := congrArg (fun q => a ^^^ q) e
  simpa [← UInt8.xor_assoc] using this)
theorem serverOthersC {k s z : Int} {nm body : List UInt8} {y : UInt8} (hk : -9223372036854775808 ≤ k ∧ k ≤ 9223372036854775807) (hs : -9223372036854775808 ≤ s ∧ s ≤ 9223372036854775807) (hm : nm.length = 32) (hz : -9223372036854775808 ≤ z ∧ z ≤ 9223372036854775807) : Con Try.prog 3 [.agg (mc k s nm (.string (strOf body))).toArray, .int .i64 z, B8 y] [] [] (fun v_ X_ S_ => v_ = (.bool true) ∧ X_ = [] ∧ S_ = []) := by
  have e0 : ([] : List UInt8).length = 0 := rfl
  obtain ⟨K, hK, hK3⟩ : ∃ K : Nat, around k 3 = (K : Int) ∧ K < 3 := by
    have := around_lt k 3 (by decide)
    exact ⟨(around k 3).toNat, by omega, by omega⟩
  obtain ⟨S, hS, hS3⟩ : ∃ S : Nat, around s 4294967296 = (S : Int) ∧ S < 4294967296 := by
    have := around_lt s 4294967296 (by decide)
    exact ⟨(around s 4294967296).toNat, by omega, by omega⟩
  have e1K : (1 : Int) + (K : Int) = ((1 + K : Nat) : Int) := by omega
  have hMay : WMay ((1 + K : Nat) : Int) (S : Int) (if (K : Int) = 1 then body.take 40 else []).length := by
    refine ⟨by omega, ?_⟩
    split
    · right; rw [List.length_take]; omega
    · left; rfl
  have hbl40 : (if (K : Int) = 1 then body.take 40 else []).length ≤ 40 := by
    split
    · rw [List.length_take]; omega
    · exact Nat.zero_le _
  refine henter (N := 78) Try.func3 rfl rfl (by simp) fun b => ?_
  refine hseq <| hreg <| ?_
  refine hx (xh_box rfl (fun g3 => ?_))
  refine hmemL (fun w m => m.eqX 0 rfl (show _ = RBlk g3 25 (mc k s nm (.string (strOf body))) from congrArg (RBlk _ _) (cells_agg _))) ?_
  refine hy (fun _ => y_assign rfl) <| hend <| hmemQ (X' := [_]) (S' := []) (fun _ m => m) <| hthen <| hseq <| hreg <| ?_
  refine hx (xh_call rfl Try.call10 (newSC) [] rfl [] rfl ?_)
  rintro _ _ _ ⟨g, gm, rfl, rfl, rfl⟩
  refine hy (fun _ => y_assign rfl) <| hend <| hsub (ρ' := [(7, _), (6, _), (3, _), (0, _), (1, _), (2, _)]) ⟨rfl, rfl, rfl, rfl, rfl, rfl, trivial⟩ <| hmemQ (X' := [_, _]) (S' := []) (fun _ m => m) <| hthen <| hseq <| hseq <| hreg <| hy (fun _ => y_move rfl) <| hy (fun _ => y_eqPn rfl rfl (by kernel_rfl)) <| hend <| hsub (ρ' := [(17, _), (7, _), (6, _), (3, _), (0, _), (1, _), (2, _)]) ⟨rfl, rfl, rfl, rfl, rfl, rfl, rfl, trivial⟩ <| hthen <| ?_
  refine hiff rfl (rfl) ?_
  refine hcskip <| hthen <| hseq <| hreg <| hy (fun m => y_ldN rfl ag25 sz25 (mc_len hm) ((m.blk 1 rfl).cells0)) <| ?_
  refine hx (xh_call rfl Try.call11 (rwgoodC (by omega) (by omega) (by omega)) [] rfl [] rfl ?_)
  rintro _ _ _ ⟨rfl, rfl, rfl⟩
  rw [hK, hS, e1K]
  generalize (if (K : Int) = 1 then body.take 40 else []) = bd at hMay hbl40 ⊢
  refine hx (xh_alloc ti25 (fun g8 => ?_))
  refine hx0 (xh_stA 0 rfl rfl rfl sz25 (mc_len hm) (mc_one rfl) rfl ?_)
  refine hend <| hsub (ρ' := [(8, _), (17, _), (7, _), (6, _), (3, _), (0, _), (1, _), (2, _)]) ⟨rfl, rfl, rfl, rfl, rfl, rfl, rfl, rfl, trivial⟩ <| hmemQ (X' := [_, _, _]) (S' := []) (fun _ m => m) <| hthen <| hseq <| hreg <| hy (fun _ => y_fld rfl fa25_1 (by decide)) <| hy (fun m => y_ld1 rfl ag3 (ld_blk (m.blk 0 rfl) rfl)) <| hy (fun _ => y_fld rfl fa25_2 (by decide)) <| hy (fun m => yV (y_ldN rfl ag23 sz23 (by rw [b8s_length]; exact hm) (mc_nm (m.blk 0 rfl))) ((rfl : Value.agg _ = .agg (b8s nm).toArray))) <| hy (fun _ => yV (y_build ti25 rfl rfl (by kernel_rfl) (bldM3 (k0 := 0) (s0 := 0) (zi := zm) (z := .string ⟨#[]⟩) pl25_0 pl25_1 pl25_2 z32z hm)) ((rfl : _ = Value.agg (mc ((1 : Nat) : Int) (S : Int) nm (.string (strOf []))).toArray))) <| ?_
  refine hx (xh_call rfl Try.call12 (rwbytesC (by omega) (by omega) hm (by omega) (body := [])) [] rfl [] rfl ?_)
  rintro _ _ _ ⟨v, rfl, rfl, rfl⟩
  refine hfactL (fun m => (m.own 0 rfl).slice) ?_
  rintro ⟨A_x, c_x, rfl, hc_x⟩
  refine hfactL (fun m => (m.ord 0 rfl).2.1) fun hA_x => ?_
  refine hy (fun _ => y_assign rfl) <| hend <| hsub (ρ' := [(9, _), (8, _), (17, _), (7, _), (6, _), (3, _), (0, _), (1, _), (2, _)]) ⟨rfl, rfl, rfl, rfl, rfl, rfl, rfl, rfl, rfl, trivial⟩ <| hmemQ (X' := [_, _, _, _]) (S' := []) (fun _ m => m) <| hthen <| hseq <| hseq <| hreg <| hy (fun _ => y_move rfl) <| hy (fun _ => y_eql rfl rfl) <| hend <| hsub (ρ' := [(27, _), (9, _), (8, _), (17, _), (7, _), (6, _), (3, _), (0, _), (1, _), (2, _)]) ⟨rfl, rfl, rfl, rfl, rfl, rfl, rfl, rfl, rfl, rfl, trivial⟩ <| hthen <| ?_
  have hpl : (putL (wbody 1 S nm [])).length = 41 := by rw [putL_length, wbody_len hm]; rfl
  have hbadA := fun (i : Nat) (q : UInt8) (hi : i < 41) (hq : q ≠ (putL (wbody 1 S nm [])).getD i 0) => bad_ask (wbody 1 S nm []) i q (by rw [wbody_len hm]; omega) hq
  generalize putL (wbody 1 S nm []) = ask at hpl hbadA ⊢
  refine hif rfl (fun hby => ?_) (fun hby => ?_)
  · refine hreg <| hy (fun _ => y_assign rfl) <| hend <| hthen <| hseq <| hreg <| hy (fun _ => y_move rfl) <| hy (fun _ => y_move rfl) <| hy (fun _ => y_lenS rfl Try.underlying29) <| ?_
    refine hx (xh_call rfl Try.call13 (aroundC (by omega) (by omega) (by omega)) [] rfl [] rfl ?_)
    rintro _ _ _ ⟨rfl, rfl, rfl⟩
    obtain ⟨j, hj, hj41⟩ : ∃ j : Nat, around z ((37 + ([] : List UInt8).length + 4 : Nat) : Int) = (j : Int) ∧ j < 41 := by
      have := around_lt z ((37 + ([] : List UInt8).length + 4 : Nat) : Int) (by omega)
      exact ⟨(around z ((37 + ([] : List UInt8).length + 4 : Nat) : Int)).toNat, by omega, by omega⟩
    rw [hj]
    refine hy (fun _ => y_assign rfl) <| hend <| hsub (ρ' := [(10, _), (2, _), (27, _), (9, _), (8, _), (17, _), (7, _), (6, _), (3, _), (0, _), (1, _)]) ⟨rfl, rfl, rfl, rfl, rfl, rfl, rfl, rfl, rfl, rfl, rfl, trivial⟩ <| hmemQ (X' := [_, _, _, _]) (S' := []) (fun _ m => m) <| hthen <| hseq <| hreg <| hy (fun _ => y_move rfl) <| hy (fun _ => y_move rfl) <| hy (fun _ => y_move rfl) <| hy (fun _ => y_move rfl) <| hy (fun _ => y_idxS1 rfl rfl Try.underlying29 sz5 hA_x rfl (by omega)) <| hy (fun m => y_ld1 rfl ag5 ((m.ord 0 rfl).cell (b8s_get (by omega)))) <| hy (fun _ => y_move rfl) <| hy (fun _ => yV (y_bits (by simp) rfl rfl (xor_b8 (ask.getD j 0) 1)) ((rfl : Value.int .u8 _ = B8 (ask.getD j 0 ^^^ 1)))) <| hy (fun _ => y_idxS1 rfl rfl Try.underlying29 sz5 hA_x rfl (by omega)) <| ?_
    refine hx0 (xh_stO 0 rfl rfl rfl sz5 rfl (by omega) ?_)
    refine hmemL (fun w m => m.eqX 0 rfl (show _ = ROwn 5 1 (.slice A_x (37 + ([] : List UInt8).length + 4) c_x) (37 + ([] : List UInt8).length + 4) (b8s (ask.set j (ask.getD j 0 ^^^ 1))) from congrArg (ROwn _ _ _ _) (b8s_set ..).symm)) ?_
    have hbad := hbadA j (ask.getD j 0 ^^^ 1) hj41 (xor_ne (by decide))
    refine hend <| hsub (ρ' := [(10, _), (2, _), (27, _), (9, _), (8, _), (17, _), (7, _), (6, _), (3, _), (0, _), (1, _)]) ⟨rfl, rfl, rfl, rfl, rfl, rfl, rfl, rfl, rfl, rfl, rfl, trivial⟩ <| hmemQ (X' := [_, _, _, _]) (S' := []) (fun _ m => m) <| hthen <| hseq <| hreg <| hy (fun _ => y_move rfl) <| hy (fun _ => y_move rfl) <| ?_
    refine hx (xh_calll rfl Try.call14 (sanswerC (by omega) (by omega) frOk_nil) [2] rfl (.x 0 rfl .own .nil) ?_)
    rintro _ _ _ ⟨v2, bn, body2, is, rfl, rfl, rfl, hp1⟩
    refine ⟨rfl, ?_⟩
    refine hfactL (fun m => (m.own 1 rfl).slice) ?_
    rintro ⟨A_x2, c_x2, rfl, hc_x2⟩
    refine hfactL (fun m => (m.ord 1 rfl).2.1) fun hA_x2 => ?_
    obtain ⟨hb1, hS1⟩ := hp1
    obtain ⟨rfl, rfl⟩ : is = false ∧ body2 = [] := by
      rcases hS1 with h | h
      · exact absurd h.1.1 hbad
      · exact h.2
    refine hy (fun _ => y_move rfl) <| hy (fun _ => y_extract rfl rfl) <| hy (fun _ => y_extract rfl rfl) <| hy (fun _ => y_assign rfl) <| hy (fun _ => y_assign rfl) <| hend <| hsub (ρ' := [(12, _), (11, _), (10, _), (2, _), (27, _), (9, _), (8, _), (17, _), (7, _), (6, _), (3, _), (0, _), (1, _)]) ⟨rfl, rfl, rfl, rfl, rfl, rfl, rfl, rfl, rfl, rfl, rfl, rfl, rfl, trivial⟩ <| hmemQ (X' := [_, _, _, _, _]) (S' := []) (fun _ m => m) <| hthen <| hseq <| hreg <| hy (fun _ => y_move rfl) <| hy (fun m => y_ldN rfl ag25 sz25 (mc_len hm) ((m.blk 3 rfl).cells0)) <| ?_
    refine hx (xh_call rfl Try.call12 (rwbytesC (by omega) (by omega) hm (by omega)) [] rfl [] rfl ?_)
    rintro _ _ _ ⟨v3, rfl, rfl, rfl⟩
    refine hfactL (fun m => (m.own 0 rfl).slice) ?_
    rintro ⟨A_x3, c_x3, rfl, hc_x3⟩
    refine hfactL (fun m => (m.ord 0 rfl).2.1) fun hA_x3 => ?_
    refine hx (xh_calll rfl Try.call14 (sanswerC (by omega) (by omega) frOk_nil) [1] rfl (.x 0 rfl .own .nil) ?_)
    rintro _ _ _ ⟨v4, bn2, body3, is2, rfl, rfl, rfl, hp2⟩
    refine ⟨rfl, ?_⟩
    refine hfactL (fun m => (m.own 1 rfl).slice) ?_
    rintro ⟨A_x4, c_x4, rfl, hc_x4⟩
    refine hfactL (fun m => (m.ord 1 rfl).2.1) fun hA_x4 => ?_
    obtain ⟨hb2, hS2⟩ := hp2
    have hA := ask_iff (k := 1 + K) (body := bd) (by omega) hS3 hm hMay
    have hend : is2 = decide (((1 + K : Nat) : Int) = 1) ∧ (0 < bn2 ↔ ((1 + K : Nat) : Int) = 1) := by
      rcases hS2 with h | h
      · have h1 := hA.1 h.1
        refine ⟨by rw [h.2.1, decide_eq_true (by omega)], fun _ => by omega, fun _ => ?_⟩
        rw [← hb2, h.2.2, putL_length]; omega
      · have h1 : ¬ (1 + K = 1) := fun e => h.1 (hA.2 e)
        refine ⟨by rw [h.2.1, decide_eq_false (by omega)], fun h0 => ?_, fun e => absurd e (by omega)⟩
        rw [← hb2, h.2.2] at h0; exact absurd h0 (by decide)
    obtain ⟨rfl, hbn⟩ := hend
    have hb1' : (bn : Int) = 0 := by rw [← hb1]; rfl
    refine hy (fun _ => y_move rfl) <| hy (fun _ => y_extract rfl rfl) <| hy (fun _ => y_extract rfl rfl) <| hy (fun _ => y_assign rfl) <| hy (fun _ => y_assign rfl) <| hend <| hsub (ρ' := [(14, _), (13, _), (12, _), (11, _), (10, _), (2, _), (27, _), (9, _), (8, _), (17, _), (7, _), (6, _), (3, _), (0, _), (1, _)]) ⟨rfl, rfl, rfl, rfl, rfl, rfl, rfl, rfl, rfl, rfl, rfl, rfl, rfl, rfl, rfl, trivial⟩ <| hmemQ (X' := [_, _, _, _, _, _, _]) (S' := []) (fun _ m => m) <| hthen <| hseq <| hreg <| hy (fun _ => y_move rfl) <| hy (fun _ => yT ((y_not rfl)) (rfl)) <| hy (fun _ => y_move rfl) <| hyg (o := _) rfl rfl rfl (fun _ => y_move rfl) <| hyg (o := _) rfl rfl rfl (fun _ => y_lenS rfl Try.underlying29) <| hyg (o := _) rfl rfl rfl (fun _ => yT (y_eql rfl rfl) ((decide_eq_true hb1'))) <| hy (fun _ => y_pickT rfl rfl) <| hy (fun _ => y_move rfl) <| hyg (o := _) rfl rfl rfl (fun _ => y_move rfl) <| hyg (o := _) rfl rfl rfl (fun _ => y_fld rfl fa25_0 (by decide)) <| hyg (o := _) rfl rfl rfl (fun m => y_ld1 rfl ag3 (ld_blk (m.blk 5 rfl) rfl)) <| hyg (o := _) rfl rfl rfl (fun _ => y_eql rfl rfl) <| hyg (o := _) rfl rfl rfl (fun _ => yT (y_beq Try.underlying4 rfl rfl) ((by simp))) <| hy (fun _ => y_pickT rfl rfl) <| hy (fun _ => y_move rfl) <| hyg (o := _) rfl rfl rfl (fun _ => y_move rfl) <| hyg (o := _) rfl rfl rfl (fun _ => y_lenS rfl Try.underlying29) <| hyg (o := _) rfl rfl rfl (fun _ => y_gtr rfl rfl) <| hyg (o := _) rfl rfl rfl (fun _ => y_move rfl) <| hyg (o := _) rfl rfl rfl (fun _ => yT (y_beq Try.underlying4 rfl rfl) ((by simp only [beq_iff_eq, decide_eq_decide]; omega))) <| hy (fun _ => y_pickT rfl rfl) <| hy (fun _ => y_move rfl) <| ?_
    refine hxg (o := _) rfl rfl rfl (xh_call rfl Try.call15 (lives20C) [] rfl [] rfl ?_)
    rintro _ _ _ ⟨rfl, rfl, rfl⟩
    refine hy (fun _ => y_pickT rfl rfl) <| hy (fun _ => y_assign rfl) <| hend <| hsub (ρ' := [(6, _), (14, _), (13, _), (12, _), (11, _), (10, _), (2, _), (27, _), (9, _), (8, _), (17, _), (7, _), (3, _), (0, _), (1, _)]) ⟨rfl, rfl, rfl, rfl, rfl, rfl, rfl, rfl, rfl, rfl, rfl, rfl, rfl, rfl, rfl, trivial⟩ <| hmemQ (X' := [_, _, _, _, _, _, _]) (S' := []) (fun _ m => m) <| hthen <| hret <| ?_
    exact hret1 trivial rfl rfl [] rfl [] rfl ⟨rfl, rfl, rfl⟩
  · refine hcskip <| hthen <| hseq <| hreg <| hy (fun _ => y_move rfl) <| hy (fun _ => y_move rfl) <| hy (fun _ => y_lenS rfl Try.underlying29) <| ?_
    refine hx (xh_call rfl Try.call13 (aroundC (by omega) (by omega) (by omega)) [] rfl [] rfl ?_)
    rintro _ _ _ ⟨rfl, rfl, rfl⟩
    obtain ⟨j, hj, hj41⟩ : ∃ j : Nat, around z ((37 + ([] : List UInt8).length + 4 : Nat) : Int) = (j : Int) ∧ j < 41 := by
      have := around_lt z ((37 + ([] : List UInt8).length + 4 : Nat) : Int) (by omega)
      exact ⟨(around z ((37 + ([] : List UInt8).length + 4 : Nat) : Int)).toNat, by omega, by omega⟩
    rw [hj]
    refine hy (fun _ => y_assign rfl) <| hend <| hsub (ρ' := [(10, _), (27, _), (9, _), (8, _), (17, _), (7, _), (6, _), (3, _), (0, _), (1, _), (2, _)]) ⟨rfl, rfl, rfl, rfl, rfl, rfl, rfl, rfl, rfl, rfl, rfl, trivial⟩ <| hmemQ (X' := [_, _, _, _]) (S' := []) (fun _ m => m) <| hthen <| hseq <| hreg <| hy (fun _ => y_move rfl) <| hy (fun _ => y_move rfl) <| hy (fun _ => y_move rfl) <| hy (fun _ => y_move rfl) <| hy (fun _ => y_idxS1 rfl rfl Try.underlying29 sz5 hA_x rfl (by omega)) <| hy (fun m => y_ld1 rfl ag5 ((m.ord 0 rfl).cell (b8s_get (by omega)))) <| hy (fun _ => y_move rfl) <| hy (fun _ => yV (y_bits (by simp) rfl rfl (xor_b8 (ask.getD j 0) y)) ((rfl : Value.int .u8 _ = B8 (ask.getD j 0 ^^^ y)))) <| hy (fun _ => y_idxS1 rfl rfl Try.underlying29 sz5 hA_x rfl (by omega)) <| ?_
    refine hx0 (xh_stO 0 rfl rfl rfl sz5 rfl (by omega) ?_)
    refine hmemL (fun w m => m.eqX 0 rfl (show _ = ROwn 5 1 (.slice A_x (37 + ([] : List UInt8).length + 4) c_x) (37 + ([] : List UInt8).length + 4) (b8s (ask.set j (ask.getD j 0 ^^^ y))) from congrArg (ROwn _ _ _ _) (b8s_set ..).symm)) ?_
    have hbad := hbadA j (ask.getD j 0 ^^^ y) hj41 (xor_ne (fun e => hby (by rw [e]; rfl)))
    refine hend <| hsub (ρ' := [(10, _), (27, _), (9, _), (8, _), (17, _), (7, _), (6, _), (3, _), (0, _), (1, _), (2, _)]) ⟨rfl, rfl, rfl, rfl, rfl, rfl, rfl, rfl, rfl, rfl, rfl, trivial⟩ <| hmemQ (X' := [_, _, _, _]) (S' := []) (fun _ m => m) <| hthen <| hseq <| hreg <| hy (fun _ => y_move rfl) <| hy (fun _ => y_move rfl) <| ?_
    refine hx (xh_calll rfl Try.call14 (sanswerC (by omega) (by omega) frOk_nil) [2] rfl (.x 0 rfl .own .nil) ?_)
    rintro _ _ _ ⟨v2, bn, body2, is, rfl, rfl, rfl, hp1⟩
    refine ⟨rfl, ?_⟩
    refine hfactL (fun m => (m.own 1 rfl).slice) ?_
    rintro ⟨A_x2, c_x2, rfl, hc_x2⟩
    refine hfactL (fun m => (m.ord 1 rfl).2.1) fun hA_x2 => ?_
    obtain ⟨hb1, hS1⟩ := hp1
    obtain ⟨rfl, rfl⟩ : is = false ∧ body2 = [] := by
      rcases hS1 with h | h
      · exact absurd h.1.1 hbad
      · exact h.2
    refine hy (fun _ => y_move rfl) <| hy (fun _ => y_extract rfl rfl) <| hy (fun _ => y_extract rfl rfl) <| hy (fun _ => y_assign rfl) <| hy (fun _ => y_assign rfl) <| hend <| hsub (ρ' := [(12, _), (11, _), (10, _), (27, _), (9, _), (8, _), (17, _), (7, _), (6, _), (3, _), (0, _), (1, _), (2, _)]) ⟨rfl, rfl, rfl, rfl, rfl, rfl, rfl, rfl, rfl, rfl, rfl, rfl, rfl, trivial⟩ <| hmemQ (X' := [_, _, _, _, _]) (S' := []) (fun _ m => m) <| hthen <| hseq <| hreg <| hy (fun _ => y_move rfl) <| hy (fun m => y_ldN rfl ag25 sz25 (mc_len hm) ((m.blk 3 rfl).cells0)) <| ?_
    refine hx (xh_call rfl Try.call12 (rwbytesC (by omega) (by omega) hm (by omega)) [] rfl [] rfl ?_)
    rintro _ _ _ ⟨v3, rfl, rfl, rfl⟩
    refine hfactL (fun m => (m.own 0 rfl).slice) ?_
    rintro ⟨A_x3, c_x3, rfl, hc_x3⟩
    refine hfactL (fun m => (m.ord 0 rfl).2.1) fun hA_x3 => ?_
    refine hx (xh_calll rfl Try.call14 (sanswerC (by omega) (by omega) frOk_nil) [1] rfl (.x 0 rfl .own .nil) ?_)
    rintro _ _ _ ⟨v4, bn2, body3, is2, rfl, rfl, rfl, hp2⟩
    refine ⟨rfl, ?_⟩
    refine hfactL (fun m => (m.own 1 rfl).slice) ?_
    rintro ⟨A_x4, c_x4, rfl, hc_x4⟩
    refine hfactL (fun m => (m.ord 1 rfl).2.1) fun hA_x4 => ?_
    obtain ⟨hb2, hS2⟩ := hp2
    have hA := ask_iff (k := 1 + K) (body := bd) (by omega) hS3 hm hMay
    have hend : is2 = decide (((1 + K : Nat) : Int) = 1) ∧ (0 < bn2 ↔ ((1 + K : Nat) : Int) = 1) := by
      rcases hS2 with h | h
      · have h1 := hA.1 h.1
        refine ⟨by rw [h.2.1, decide_eq_true (by omega)], fun _ => by omega, fun _ => ?_⟩
        rw [← hb2, h.2.2, putL_length]; omega
      · have h1 : ¬ (1 + K = 1) := fun e => h.1 (hA.2 e)
        refine ⟨by rw [h.2.1, decide_eq_false (by omega)], fun h0 => ?_, fun e => absurd e (by omega)⟩
        rw [← hb2, h.2.2] at h0; exact absurd h0 (by decide)
    obtain ⟨rfl, hbn⟩ := hend
    have hb1' : (bn : Int) = 0 := by rw [← hb1]; rfl
    refine hy (fun _ => y_move rfl) <| hy (fun _ => y_extract rfl rfl) <| hy (fun _ => y_extract rfl rfl) <| hy (fun _ => y_assign rfl) <| hy (fun _ => y_assign rfl) <| hend <| hsub (ρ' := [(14, _), (13, _), (12, _), (11, _), (10, _), (27, _), (9, _), (8, _), (17, _), (7, _), (6, _), (3, _), (0, _), (1, _), (2, _)]) ⟨rfl, rfl, rfl, rfl, rfl, rfl, rfl, rfl, rfl, rfl, rfl, rfl, rfl, rfl, rfl, trivial⟩ <| hmemQ (X' := [_, _, _, _, _, _, _]) (S' := []) (fun _ m => m) <| hthen <| hseq <| hreg <| hy (fun _ => y_move rfl) <| hy (fun _ => yT ((y_not rfl)) (rfl)) <| hy (fun _ => y_move rfl) <| hyg (o := _) rfl rfl rfl (fun _ => y_move rfl) <| hyg (o := _) rfl rfl rfl (fun _ => y_lenS rfl Try.underlying29) <| hyg (o := _) rfl rfl rfl (fun _ => yT (y_eql rfl rfl) ((decide_eq_true hb1'))) <| hy (fun _ => y_pickT rfl rfl) <| hy (fun _ => y_move rfl) <| hyg (o := _) rfl rfl rfl (fun _ => y_move rfl) <| hyg (o := _) rfl rfl rfl (fun _ => y_fld rfl fa25_0 (by decide)) <| hyg (o := _) rfl rfl rfl (fun m => y_ld1 rfl ag3 (ld_blk (m.blk 5 rfl) rfl)) <| hyg (o := _) rfl rfl rfl (fun _ => y_eql rfl rfl) <| hyg (o := _) rfl rfl rfl (fun _ => yT (y_beq Try.underlying4 rfl rfl) ((by simp))) <| hy (fun _ => y_pickT rfl rfl) <| hy (fun _ => y_move rfl) <| hyg (o := _) rfl rfl rfl (fun _ => y_move rfl) <| hyg (o := _) rfl rfl rfl (fun _ => y_lenS rfl Try.underlying29) <| hyg (o := _) rfl rfl rfl (fun _ => y_gtr rfl rfl) <| hyg (o := _) rfl rfl rfl (fun _ => y_move rfl) <| hyg (o := _) rfl rfl rfl (fun _ => yT (y_beq Try.underlying4 rfl rfl) ((by simp only [beq_iff_eq, decide_eq_decide]; omega))) <| hy (fun _ => y_pickT rfl rfl) <| hy (fun _ => y_move rfl) <| ?_
    refine hxg (o := _) rfl rfl rfl (xh_call rfl Try.call15 (lives20C) [] rfl [] rfl ?_)
    rintro _ _ _ ⟨rfl, rfl, rfl⟩
    refine hy (fun _ => y_pickT rfl rfl) <| hy (fun _ => y_assign rfl) <| hend <| hsub (ρ' := [(6, _), (14, _), (13, _), (12, _), (11, _), (10, _), (27, _), (9, _), (8, _), (17, _), (7, _), (3, _), (0, _), (1, _), (2, _)]) ⟨rfl, rfl, rfl, rfl, rfl, rfl, rfl, rfl, rfl, rfl, rfl, rfl, rfl, rfl, rfl, trivial⟩ <| hmemQ (X' := [_, _, _, _, _, _, _]) (S' := []) (fun _ m => m) <| hthen <| hret <| ?_
    exact hret1 trivial rfl rfl [] rfl [] rfl ⟨rfl, rfl, rfl⟩
theorem ty_M {xs : List Cell} (h : Ty Try.prog 25 xs) : ∃ (k s : Int) (nm body : List UInt8), xs.map Cell.val = mc k s nm (.string (strOf body)) ∧ (-9223372036854775808 ≤ k ∧ k ≤ 9223372036854775807) ∧ (-9223372036854775808 ≤ s ∧ s ≤ 9223372036854775807) ∧ nm.length = 32 := by
  obtain ⟨hl, hf⟩ := ty_struct Try.underlying25 h
  have hl35 : xs.length = 1 + 1 + 32 + 1 := hl.trans (by kernel_rfl)
  obtain ⟨k, e0, hk⟩ := ty_i64 Try.underlying3 (hf 0 _ rfl)
  obtain ⟨s, e1, hs⟩ := ty_i64 Try.underlying3 (hf 1 _ rfl)
  obtain ⟨nm, e2, hm⟩ := ty_dig Try.underlying23 Try.underlying5 (by kernel_rfl) (by kernel_rfl) (hf 2 _ rfl)
  obtain ⟨body, e3, _⟩ := ty_str Try.underlying9 (hf 3 _ rfl)
  refine ⟨k, s, nm, body, ?_, hk, hs, hm⟩
  have d0 : (xs.drop 0).take 1 = [.v (.int .i64 k)] := e0
  have d1 : (xs.drop 1).take 1 = [.v (.int .i64 s)] := e1
  have d2 : ((xs.drop (1 + 1)).take 32).map Cell.val = b8s nm := e2
  have d3 : (xs.drop (1 + 1 + 32)).take 1 = [.v (.string (strOf body))] := e3
  rw [row4 hl35, List.map_append, List.map_append, List.map_append, d0, d1, d2, d3]
  rfl
theorem serverOthers (xs : List Cell) (z : Int) (y : UInt8) (W : World) (_ : holdC W xs) (hT : Ty Try.prog 25 xs) (hz : -9223372036854775808 ≤ z ∧ z ≤ 9223372036854775807) :
    Calls Try.prog 3 #[.agg (xs.map Cell.val).toArray, .int .i64 z, B8 y] W fun e w' => e = .returned (.bool true) ∧ Fr No W w' := by
  obtain ⟨k, s, nm, body, e, hk, hs, hm⟩ := ty_M hT
  rw [e]
  exact con_calls (serverOthersC hk hs hm hz) (by
    intro s hs
    cases hs)
end Go.Proofs.Ytpcgpnijhpcbeaa
