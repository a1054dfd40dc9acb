import Derived.Test.YtfikjheicjamhaaDoorG8
section
/- Contract: slots.Read. -/
set_option linter.unusedVariables false
set_option linter.unusedSimpArgs false
set_option maxRecDepth 20000
namespace Go.Proofs.YtfikjheicjamhaaDoor
open Go.Eng Go.Hx
theorem readSupC {A : Option Addr} {n c : Nat} {l : List UInt8} (hc : n ≤ c) (hn : n ≤ 1000000000) : Con Tryd.prog 23 [.slice A n c] [] [RRd 1 A n (b8s l)] (fun v_ X_ S_ => v_ = (.tuple #[.agg (rdSup l).1.cs.toArray, .int .i64 (rdSup l).2]) ∧ X_ = [] ∧ S_ = []) := by
  refine henter (N := 72) Tryd.func23 rfl rfl (by simp) fun b => ?_
  refine hfactC (fun m => rdB (m.rd 0 rfl)) ?_
  rintro ⟨hl_r, hA_r⟩
  refine hseq <| hreg <| ?_
  refine hx (xh_alloc ti39 (fun g2 => ?_))
  refine hy (fun _ => y_assign rfl) <| hend <| hmemQ (X' := [_]) (S' := [_]) (fun _ m => m) <| hthen <| hseq <| hreg <| hy (fun _ => y_move rfl) <| ?_
  refine hx (xh_call rfl Tryd.call67 (crcTakeC (by omega) (by omega)) [] rfl [0] rfl ?_)
  rintro _ _ _ ⟨v, rfl, rfl, rfl⟩
  refine hfactL (fun m => (m.own 0 rfl).slice) ?_
  rintro ⟨A_x, c_x, rfl, hc_x⟩
  refine hfactL (fun m => (m.ord 0 rfl).2.1) fun hA_x => ?_
  refine hy (fun _ => y_move rfl) <| hy (fun _ => y_extract rfl rfl) <| hy (fun _ => y_extract rfl rfl) <| hy (fun _ => y_assign rfl) <| hy (fun _ => y_assign rfl) <| hend <| hsub (ρ' := [(5, _), (4, _), (3, _), (2, _), (0, _)]) ⟨rfl, rfl, rfl, rfl, rfl, trivial⟩ <| hmemQ (X' := [_, _]) (S' := [_]) (fun _ m => m) <| hthen <| hseq <| hseq <| hreg <| hy (fun _ => y_move rfl) <| hy (fun _ => y_neq rfl rfl) <| hend <| hsub (ρ' := [(16, _), (5, _), (4, _), (3, _), (2, _), (0, _)]) ⟨rfl, rfl, rfl, rfl, rfl, rfl, trivial⟩ <| hthen <| ?_
  refine hif rfl (fun h => ?_) (fun h => ?_)
  · rw [show rdSup l = (Sup.zero, takeE l) by rw [rdSup, if_pos h]]
    refine hseq <| hreg <| hy (fun _ => y_build0 ti39 rfl (by kernel_rfl)) <| hy (fun _ => y_move rfl) <| ?_
    refine hx0 (xh_stA 1 rfl rfl rfl sz39 (Sup.cs_len Sup.zero_wf) (Sup.cs_one (s := Sup.zero)) rfl ?_)
    refine hy (fun _ => y_assign rfl) <| hend <| hsub (ρ' := [(3, _), (16, _), (5, _), (4, _), (2, _), (0, _)]) ⟨rfl, rfl, rfl, rfl, rfl, rfl, trivial⟩ <| hmemQ (X' := [_, _]) (S' := [_]) (fun _ m => m) <| hthen <| hret <| hthen_ret <| ?_
    exact hretN1 trivial rfl rfl rfl ag39 sz39 (Sup.cs_len Sup.zero_wf) (fun m => (m.blk 0 rfl).cells0) [] rfl [] rfl ⟨rfl, rfl, rfl⟩
  · have h0 := Decidable.not_not.1 h
    have hn4 : 4 ≤ n := by
      rcases Nat.lt_or_ge l.length 4 with hlt | hge
      · rw [(takeE_2 hlt).1] at h0; omega
      · omega
    have hB : takeB l = l.take (l.length - 4) := by rw [takeB, if_pos h0]
    have hbl := takeB_len h0
    generalize takeB l = B at hB hbl
    have hbad : ¬ rdOk B → rdSup l = (Sup.zero, 2) := fun hb => by rw [rdSup, if_neg h, ← hB, if_neg hb]
    have hok : rdOk B → rdSup l = (rdBody B, 0) := fun hb => by rw [rdSup, if_neg h, ← hB, if_pos hb]
    refine hcskip <| hthen <| hseq <| hreg <| hy (fun _ => y_move rfl) <| hy (fun m => y_b2s rfl Tryd.underlying32 Tryd.underlying5 Tryd.underlying9 (m.ord 0 rfl)) <| ?_
    refine hx (xh_call rfl Tryd.call68 (cutPrefixC (by omega) (by decide)) [] rfl [] rfl ?_)
    rintro _ _ _ ⟨rfl, rfl, rfl⟩
    refine hy (fun _ => y_move rfl) <| hy (fun _ => y_extract rfl rfl) <| hy (fun _ => y_extract rfl rfl) <| hy (fun _ => y_assign rfl) <| hy (fun _ => y_assign rfl) <| hend <| hsub (ρ' := [(7, _), (6, _), (16, _), (5, _), (4, _), (3, _), (2, _), (0, _)]) ⟨rfl, rfl, rfl, rfl, rfl, rfl, rfl, rfl, trivial⟩ <| hmemQ (X' := [_, _]) (S' := [_]) (fun _ m => m) <| hthen <| hseq <| hseq <| hreg <| hy (fun _ => y_move rfl) <| hy (fun _ => y_notp rfl) <| hy (fun _ => y_move rfl) <| ?_
    refine hsplit 27 rfl (fun hp => ?_) (fun hp => ?_)
    · refine hskip rfl rfl rfl (by decide) <| hskip rfl rfl rfl (by decide) <| hskip rfl rfl rfl (by decide) <| hy (fun _ => y_pickT rfl rfl) <| hend <| hsub (ρ' := [(31, _), (7, _), (6, _), (16, _), (5, _), (4, _), (3, _), (2, _), (0, _)]) ⟨rfl, rfl, rfl, rfl, rfl, rfl, rfl, rfl, rfl, trivial⟩ <| hthen <| ?_
      refine hift rfl (rfl) ?_
      refine hseq <| hreg <| hy (fun _ => y_build0 ti39 rfl (by kernel_rfl)) <| ?_
      rw [hbad (fun hb => hp hb.2.1)]
      refine hx0 (xh_stA 1 rfl rfl rfl sz39 (Sup.cs_len Sup.zero_wf) (Sup.cs_one (s := Sup.zero)) rfl ?_)
      refine hy (fun _ => y_assign rfl) <| hend <| hsub (ρ' := [(3, _), (31, _), (7, _), (6, _), (16, _), (5, _), (4, _), (2, _), (0, _)]) ⟨rfl, rfl, rfl, rfl, rfl, rfl, rfl, rfl, rfl, trivial⟩ <| hmemQ (X' := [_, _]) (S' := [_]) (fun _ m => m) <| hthen <| hret <| hthen_ret <| ?_
      exact hretN1 trivial rfl rfl rfl ag39 sz39 (Sup.cs_len Sup.zero_wf) (fun m => (m.blk 0 rfl).cells0) [] rfl [] rfl ⟨rfl, rfl, rfl⟩
    · have hp := Decidable.not_not.1 hp
      have hp' : B.take 4 = [76, 84, 83, 49] := hp
      rw [if_pos hp]
      show HL _ _ _ _ _ _ ((27, Value.bool false) :: _) _ _ _
      rw [show ([76, 84, 83, 49] : List UInt8).length = 4 from rfl]
      have hsz := strOf_size (B.drop 4)
      have hdl : (B.drop 4).length = n - 4 - 4 := by rw [List.length_drop, hbl, hl_r]
      refine hyg (o := _) rfl rfl rfl (fun _ => y_move rfl) <| hyg (o := _) rfl rfl rfl (fun _ => y_lenStr rfl Tryd.underlying9) <| hyg (o := _) rfl rfl rfl (fun _ => y_neq rfl rfl) <| hy (fun _ => y_pickF rfl rfl) <| hend <| hsub (ρ' := [(31, _), (7, _), (6, _), (16, _), (5, _), (4, _), (3, _), (2, _), (0, _)]) ⟨rfl, rfl, rfl, rfl, rfl, rfl, rfl, rfl, rfl, trivial⟩ <| hthen <| ?_
      refine hif rfl (fun h5 => ?_) (fun h5 => ?_)
      · refine hseq <| hreg <| hy (fun _ => y_build0 ti39 rfl (by kernel_rfl)) <| ?_
        rw [hbad (fun hb => by have := hb.1; omega)]
        refine hx0 (xh_stA 1 rfl rfl rfl sz39 (Sup.cs_len Sup.zero_wf) (Sup.cs_one (s := Sup.zero)) rfl ?_)
        refine hy (fun _ => y_assign rfl) <| hend <| hsub (ρ' := [(3, _), (31, _), (7, _), (6, _), (16, _), (5, _), (4, _), (2, _), (0, _)]) ⟨rfl, rfl, rfl, rfl, rfl, rfl, rfl, rfl, rfl, trivial⟩ <| hmemQ (X' := [_, _]) (S' := [_]) (fun _ m => m) <| hthen <| hret <| hthen_ret <| ?_
        exact hretN1 trivial rfl rfl rfl ag39 sz39 (Sup.cs_len Sup.zero_wf) (fun m => (m.blk 0 rfl).cells0) [] rfl [] rfl ⟨rfl, rfl, rfl⟩
      · have h83 : B.length = 83 := by omega
        have hb4 := ((B.drop 4).getD 0 0).toNat_lt
        have e4 : (B.drop 4).getD 0 0 = B.getD 4 0 := by simp [List.getD]
        have e5 : (B.drop 4).drop 1 = B.drop 5 := by rw [List.drop_drop]
        refine hcskip <| hthen <| hseq <| hdrwP [5, 7, 8] (.take 0 2 <| .take 1 2 <| .take 2 2 <| .take 3 2 <| .take 4 2 <| .alt 5 (.take 6 2 <| .alt 7 (.alt 8 (.done) (.stop)) (.stop)) (.alt 7 (.alt 5 (.take 6 2 <| .alt 8 (.done) (.stop)) (.stop)) (.stop))) (by kernel_rfl) (by kernel_rfl) rfl 2 <| hpyU (y_move rfl) <| hpyU (y_idxStr rfl rfl Tryd.underlying9 (show ((0 : Nat) : Int) = 0 from rfl) (strOf_at (by omega))) <| hpyU (yV (y_conv rfl Tryd.underlying5 Tryd.underlying3 (w64 (by omega) (by omega))) ((show Value.int .i64 (((B.drop 4).getD 0 0).toNat : Int) = .int .i64 (rpart B 0).active by rw [e4]; rfl))) <| hpyU (y_move rfl) <| hpyU (yV (y_strFrom rfl rfl Tryd.underlying9 (show ((1 : Nat) : Int) = 1 from rfl) (by rw [bytesOf_strOf]; omega)) ((show Value.string (strOf ((bytesOf (strOf (B.drop 4))).drop 1)) = .string (strOf (B.drop 5)) by rw [bytesOf_strOf, e5]))) <| ?_
        refine hpfork ?_ ?_
        · refine hpx (xh_call rfl Tryd.call69 (valueC (by rw [List.length_drop]; omega) (l := (B.drop 5))) [] rfl [] rfl ?_)
          rintro _ _ _ ⟨rfl, rfl, rfl⟩
          refine ⟨(fun _ => wk [0, 0] [0] rfl rfl), ?_⟩
          refine hpyU (yV (y_build ti39 rfl rfl (by kernel_rfl) (.cons (o := 0) (sz := 1) (by kernel_rfl) rfl rfl (Nat.le_of_ble_eq_true rfl) (.cons (o := 1) (sz := 1) (by kernel_rfl) rfl rfl (Nat.le_of_ble_eq_true rfl) .nil))) ((rfl : _ = Value.agg (rpart B 0).cs.toArray))) <| ?_
          refine hpx (xh_alloc ti39 (fun g8 => ⟨(fun _ => wk [1, 1] [0] rfl rfl), ?_⟩))
          refine hpx0 (xh_stA 0 rfl rfl rfl sz39 (Sup.cs_len (rpart_wf h83 0)) (Sup.cs_one (s := rpart B 0)) rfl ⟨(fun h => absurd h (by decide)), ?_⟩)
          refine hpend <| hsub (ρ' := [(8, _), (31, _), (7, _), (6, _), (16, _), (5, _), (4, _), (3, _), (2, _), (0, _)]) ⟨rfl, rfl, rfl, rfl, rfl, rfl, rfl, rfl, rfl, rfl, trivial⟩ <| hmemQ (X' := [_, _, _]) (S' := [_]) (fun _ m => m) <| hthen <| hseq <| hreg <| hy (fun _ => y_move rfl) <| hy (fun _ => yV (y_strFrom rfl rfl Tryd.underlying9 (show ((5 : Nat) : Int) = 5 from rfl) (by rw [bytesOf_strOf]; omega)) ((show Value.string (strOf ((bytesOf (strOf (B.drop 4))).drop 5)) = .string (strOf (B.drop (9 + 37 * 0))) by rw [bytesOf_strOf, List.drop_drop]))) <| hy (fun _ => y_assign rfl) <| hend <| hsub (ρ' := [(6, _), (8, _), (31, _), (7, _), (16, _), (5, _), (4, _), (3, _), (2, _), (0, _)]) ⟨rfl, rfl, rfl, rfl, rfl, rfl, rfl, rfl, rfl, rfl, trivial⟩ <| hthen <| hseq <| hseq <| hreg <| hy (fun _ => y_move rfl) <| hend <| hthen <| hblock <| ?_
          refine hloop1 (fun i => 2 - i) (fun i => [(6, .string (strOf (B.drop (9 + 37 * i)))), (42, .int .i64 (i : Nat))]) (fun i => [RBlk g8 39 (rpart B i).cs]) (fun i => []) (fun i => i ≤ 2 ∧ ∀ j, j < i → (B.getD (9 + 37 * j) 0).toNat ≤ 1) 0 [(8, _), (31, _), (7, _), (16, _), (5, _), (4, _), (2, _), (0, _)] ⟨rfl, rfl, rfl, rfl, rfl, rfl, rfl, rfl, trivial⟩ [0] rfl [] rfl (⟨Nat.zero_le _, fun j hj => absurd hj (Nat.not_lt_zero _)⟩) ⟨rfl, rfl, trivial⟩ (fun i ⟨hi2, hbs⟩ => ?_)
          refine hseq <| hreg <| hy (fun _ => y_lss rfl rfl) <| hend <| hthen <| hseq <| ?_
          refine hif rfl (fun hlt => ?_) (fun hlt => ?_)
          · have hi : i < 2 := by omega
            have hput := rpart_put h83 hi
            have hRl : (B.drop (9 + 37 * i)).length = 74 - 37 * i := by rw [List.length_drop]; omega
            have hR0 : (B.drop (9 + 37 * i)).getD 0 0 = B.getD (9 + 37 * i) 0 := by simp [List.getD]
            have hRn : (B.drop (9 + 37 * i)).drop 37 = B.drop (9 + 37 * (i + 1)) := by rw [List.drop_drop]; congr 1
            generalize B.drop (9 + 37 * i) = R at hput hRl hR0 hRn ⊢
            have hsR := strOf_size R
            have hbR := (R.getD 0 0).toNat_lt
            refine hcskip <| hthen <| hseq <| hblock <| hseq <| hreg <| hy (fun _ => y_move rfl) <| hy (fun _ => y_assign rfl) <| hend <| hsub (ρ' := [(9, _), (43, _), (6, _), (42, _), (8, _), (31, _), (7, _), (16, _), (5, _), (4, _), (2, _), (0, _)]) ⟨rfl, rfl, rfl, rfl, rfl, rfl, rfl, rfl, rfl, rfl, rfl, rfl, trivial⟩ <| hthen <| hseq <| hseq <| hreg <| hy (fun _ => y_move rfl) <| hy (fun _ => y_idxStr rfl rfl Tryd.underlying9 (show ((0 : Nat) : Int) = 0 from rfl) (strOf_at (by omega))) <| hy (fun _ => y_gtr rfl rfl) <| hend <| hsub (ρ' := [(47, _), (9, _), (43, _), (6, _), (42, _), (8, _), (31, _), (7, _), (16, _), (5, _), (4, _), (2, _), (0, _)]) ⟨rfl, rfl, rfl, rfl, rfl, rfl, rfl, rfl, rfl, rfl, rfl, rfl, rfl, trivial⟩ <| hthen <| ?_
            refine hif rfl (fun hbig => ?_) (fun hbig => ?_)
            · refine hseq <| hreg <| hy (fun _ => y_build0 ti39 rfl (by kernel_rfl)) <| ?_
              have hno : ¬ rdOk B := fun hb => by
                have h1 := hb.2.2.1
                have h2 := hb.2.2.2.1
                have h3 : (B.getD (9 + 37 * i) 0).toNat ≤ 1 := match i, hi with | 0, _ => h1 | 1, _ => h2
                rw [← hR0] at h3
                omega
              rw [hbad hno]
              refine hx0 (xh_stA 2 rfl rfl rfl sz39 (Sup.cs_len Sup.zero_wf) (Sup.cs_one (s := Sup.zero)) rfl ?_)
              refine hy (fun _ => y_assign rfl) <| hend <| hsub (ρ' := [(3, _), (47, _), (9, _), (43, _), (6, _), (42, _), (8, _), (31, _), (7, _), (16, _), (5, _), (4, _), (2, _), (0, _)]) ⟨rfl, rfl, rfl, rfl, rfl, rfl, rfl, rfl, rfl, rfl, rfl, rfl, rfl, rfl, trivial⟩ <| hmemQ (X' := [_, _, _]) (S' := [_]) (fun _ m => m) <| hthen <| hret <| hthen_ret <| hqblock_ret <| hthen_ret <| hthen_ret <| hqblock_ret <| hthen_ret <| ?_
              exact hretN1 trivial rfl rfl rfl ag39 sz39 (Sup.cs_len Sup.zero_wf) (fun m => (m.blk 0 rfl).cells0) [] rfl [] rfl ⟨rfl, rfl, rfl⟩
            · have eb : (((R.getD 0 0).toNat : Int) = 1) ↔ R.getD 0 0 = 1 := by
                constructor
                · intro h; exact UInt8.toNat_inj.1 (by rw [show (1 : UInt8).toNat = 1 from rfl]; omega)
                · intro h; rw [h]; rfl
              have hwR : (rdSl R).wf := rdSl_wf (by omega)
              have hiL := hwR.len
              have e55 : bytesOf (strOf (rdSl R).image) = (rdSl R).image := bytesOf_strOf _
              have l55 : (bytesOf (strOf (rdSl R).image)).length = 32 := by rw [e55, hiL]
              refine hcskip <| hthen <| hseq <| hdrwP [6, 8, 11, 15] (.take 0 3 <| .take 1 3 <| .take 2 3 <| .take 3 3 <| .take 4 3 <| .take 5 3 <| .take 9 2 <| .take 10 2 <| .take 13 3 <| .alt 6 (.take 7 3 <| .alt 8 (.alt 11 (.take 12 3 <| .take 14 3 <| .alt 15 (.done) (.stop)) (.stop)) (.alt 11 (.alt 8 (.take 12 3 <| .take 14 3 <| .alt 15 (.done) (.stop)) (.stop)) (.stop))) (.alt 11 (.alt 6 (.take 7 3 <| .alt 8 (.take 12 3 <| .take 14 3 <| .alt 15 (.done) (.stop)) (.stop)) (.stop)) (.stop))) (by kernel_rfl) (by kernel_rfl) rfl 3 <| hpyU (y_move rfl) <| hpyU (y_move rfl) <| hpyU (y_idxStr rfl rfl Tryd.underlying9 (show ((0 : Nat) : Int) = 0 from rfl) (strOf_at (by omega))) <| hpyU (yV (y_eql rfl rfl) ((show Value.bool (decide (((R.getD 0 0).toNat : Int) = 1)) = .bool (rdSl R).full from congrArg Value.bool (decide_eq_decide.2 eb)))) <| hpyU (y_move rfl) <| hpyU (yV (y_strBoth rfl rfl rfl Tryd.underlying9 (show ((1 : Nat) : Int) = 1 from rfl) (show ((33 : Nat) : Int) = 33 from rfl) (by decide) (by rw [bytesOf_strOf]; omega)) ((show Value.string (strOf (((bytesOf (strOf R)).take 33).drop 1)) = .string (strOf (rdSl R).image) by rw [bytesOf_strOf, List.drop_take]; rfl))) <| hpyU (y_move rfl) <| hpyU (yV (y_strFrom rfl rfl Tryd.underlying9 (show ((33 : Nat) : Int) = 33 from rfl) (by rw [bytesOf_strOf]; omega)) ((show Value.string (strOf ((bytesOf (strOf R)).drop 33)) = .string (strOf (R.drop 33)) by rw [bytesOf_strOf]))) <| hpyU (y_fld rfl fa39_2 (by decide)) <| ?_
              have hbs' : ∀ j, j < i + 1 → (B.getD (9 + 37 * j) 0).toNat ≤ 1 := fun j hj => by
                rcases Nat.lt_succ_iff_lt_or_eq.1 hj with h1 | h1
                · exact hbs j h1
                · rw [h1, ← hR0]; omega
              refine hpfork ?_ ?_
              · refine hpx (xh_s2b rfl Tryd.underlying9 Tryd.underlying32 Tryd.underlying5 (by rw [bytesOf_strOf, hiL]; decide) (fun v55 => ⟨(fun _ => wk [1, 1, 1] [0] rfl rfl), ?_⟩))
                refine hpfact (fun m => (m.own 0 rfl).slice) ?_
                rintro ⟨A_b55, c_b55, rfl, hc_b55⟩
                refine hpfact (fun m => (m.ord 0 rfl).2.1) fun hA_b55 => ?_
                refine hpfact (fun m => (m.ord 0 rfl).some (by rw [e55, hiL]; decide)) fun h_ => ?_
                obtain ⟨a55, rfl⟩ : ∃ a_, A_b55 = some a_ := ⟨_, h_⟩
                clear h_
                refine hpyU (y_arrAt rfl Tryd.underlying23 (by omega)) <| ?_
                refine hpfork ?_ ?_
                · refine hpx <| xh_y (fun m => yV (y_ldN rfl ag23 sz23 (by rw [b8s_length]; exact hiL) ((m.ord 0 rfl).2.2)) ((rfl : Value.agg _ = .agg (b8s (rdSl R).image).toArray))) <| And.intro (fun _ => wk [1, 1, 1] [0] rfl rfl) <| ?_
                  refine hpx (xh_call rfl Tryd.call69 (valueC (by rw [List.length_drop]; omega) (l := (R.drop 33))) [] rfl [] rfl ?_)
                  rintro _ _ _ ⟨rfl, rfl, rfl⟩
                  refine ⟨(fun _ => wk [1, 1, 1] [0] rfl rfl), ?_⟩
                  refine hpyU (y_build ti36 rfl rfl (by kernel_rfl) (bld_sl (x := rdSl R) hiL rfl pl36_0 pl36_1 pl36_2)) <| hpyU (y_idxA rfl rfl Tryd.underlying37 sz36 (show ((i : Nat) : Int) = _ by omega) (by omega)) <| ?_
                  refine hpx0 (xh_stNa 1 rfl rfl rfl sz36 (Sl.cs_len hwR) Sl.cs_one (by rw [Sup.cs_len (rpart_wf h83 i)]; dsimp only; omega) ⟨(fun h => absurd h (by decide)), ?_⟩)
                  refine hpmem (fun w m => m.eqX 0 rfl (show _ = RBlk g8 39 (rpart B (i + 1)).cs from by rw [hput])) ?_
                  refine hpend <| hsub (ρ' := [(47, _), (9, _), (43, _), (6, _), (42, _), (8, _), (31, _), (7, _), (16, _), (5, _), (4, _), (2, _), (0, _)]) ⟨rfl, rfl, rfl, rfl, rfl, rfl, rfl, rfl, rfl, rfl, rfl, rfl, rfl, trivial⟩ <| hmemQ (X' := [_, _, _, _]) (S' := [_]) (fun _ m => m) <| hthen <| hreg <| hy (fun _ => y_move rfl) <| hy (fun _ => yV (y_strFrom rfl rfl Tryd.underlying9 (show ((37 : Nat) : Int) = 37 from rfl) (by rw [bytesOf_strOf]; omega)) ((show Value.string (strOf ((bytesOf (strOf R)).drop 37)) = .string (strOf (B.drop (9 + 37 * (i + 1)))) by rw [bytesOf_strOf, hRn]))) <| hy (fun _ => y_assign rfl) <| hend <| hsub (ρ' := [(6, _), (47, _), (9, _), (43, _), (42, _), (8, _), (31, _), (7, _), (16, _), (5, _), (4, _), (2, _), (0, _)]) ⟨rfl, rfl, rfl, rfl, rfl, rfl, rfl, rfl, rfl, rfl, rfl, rfl, rfl, trivial⟩ <| hqblock <| hthen <| hreg <| hy (fun _ => y_add rfl rfl (w64 (by omega) (by omega))) <| hy (fun _ => y_move rfl) <| hend <| hsub (ρ' := [(42, _), (6, _), (47, _), (9, _), (43, _), (8, _), (31, _), (7, _), (16, _), (5, _), (4, _), (2, _), (0, _)]) ⟨rfl, rfl, rfl, rfl, rfl, rfl, rfl, rfl, rfl, rfl, rfl, rfl, rfl, trivial⟩ <| ?_
                  refine hnext1 (i + 1) ⟨rfl, rfl, rfl, rfl, rfl, rfl, rfl, rfl, rfl, rfl, trivial⟩ [0, 1, 1] rfl [0] rfl (⟨by omega, hbs'⟩) (by omega)
                · refine hpx (xh_call rfl Tryd.call69 (valueC (by rw [List.length_drop]; omega) (l := (R.drop 33))) [] rfl [] rfl ?_)
                  rintro _ _ _ ⟨rfl, rfl, rfl⟩
                  refine ⟨(fun _ => wk [1, 1, 1] [0] rfl rfl), ?_⟩
                  refine hpx <| xh_y (fun m => yV (y_ldN rfl ag23 sz23 (by rw [b8s_length]; exact hiL) ((m.ord 0 rfl).2.2)) ((rfl : Value.agg _ = .agg (b8s (rdSl R).image).toArray))) <| And.intro (fun _ => wk [1, 1, 1] [0] rfl rfl) <| hpyU (y_build ti36 rfl rfl (by kernel_rfl) (bld_sl (x := rdSl R) hiL rfl pl36_0 pl36_1 pl36_2)) <| hpyU (y_idxA rfl rfl Tryd.underlying37 sz36 (show ((i : Nat) : Int) = _ by omega) (by omega)) <| ?_
                  refine hpx0 (xh_stNa 1 rfl rfl rfl sz36 (Sl.cs_len hwR) Sl.cs_one (by rw [Sup.cs_len (rpart_wf h83 i)]; dsimp only; omega) ⟨(fun h => absurd h (by decide)), ?_⟩)
                  refine hpmem (fun w m => m.eqX 0 rfl (show _ = RBlk g8 39 (rpart B (i + 1)).cs from by rw [hput])) ?_
                  refine hpend <| hsub (ρ' := [(47, _), (9, _), (43, _), (6, _), (42, _), (8, _), (31, _), (7, _), (16, _), (5, _), (4, _), (2, _), (0, _)]) ⟨rfl, rfl, rfl, rfl, rfl, rfl, rfl, rfl, rfl, rfl, rfl, rfl, rfl, trivial⟩ <| hmemQ (X' := [_, _, _, _]) (S' := [_]) (fun _ m => m) <| hthen <| hreg <| hy (fun _ => y_move rfl) <| hy (fun _ => yV (y_strFrom rfl rfl Tryd.underlying9 (show ((37 : Nat) : Int) = 37 from rfl) (by rw [bytesOf_strOf]; omega)) ((show Value.string (strOf ((bytesOf (strOf R)).drop 37)) = .string (strOf (B.drop (9 + 37 * (i + 1)))) by rw [bytesOf_strOf, hRn]))) <| hy (fun _ => y_assign rfl) <| hend <| hsub (ρ' := [(6, _), (47, _), (9, _), (43, _), (42, _), (8, _), (31, _), (7, _), (16, _), (5, _), (4, _), (2, _), (0, _)]) ⟨rfl, rfl, rfl, rfl, rfl, rfl, rfl, rfl, rfl, rfl, rfl, rfl, rfl, trivial⟩ <| hqblock <| hthen <| hreg <| hy (fun _ => y_add rfl rfl (w64 (by omega) (by omega))) <| hy (fun _ => y_move rfl) <| hend <| hsub (ρ' := [(42, _), (6, _), (47, _), (9, _), (43, _), (8, _), (31, _), (7, _), (16, _), (5, _), (4, _), (2, _), (0, _)]) ⟨rfl, rfl, rfl, rfl, rfl, rfl, rfl, rfl, rfl, rfl, rfl, rfl, rfl, trivial⟩ <| ?_
                  refine hnext1 (i + 1) ⟨rfl, rfl, rfl, rfl, rfl, rfl, rfl, rfl, rfl, rfl, trivial⟩ [0, 1, 1] rfl [0] rfl (⟨by omega, hbs'⟩) (by omega)
              · refine hpx (xh_call rfl Tryd.call69 (valueC (by rw [List.length_drop]; omega) (l := (R.drop 33))) [] rfl [] rfl ?_)
                rintro _ _ _ ⟨rfl, rfl, rfl⟩
                refine ⟨(fun _ => wk [0, 0, 0] [0] rfl rfl), ?_⟩
                refine hpx (xh_s2b rfl Tryd.underlying9 Tryd.underlying32 Tryd.underlying5 (by rw [bytesOf_strOf, hiL]; decide) (fun v55 => ⟨(fun _ => wk [1, 1, 1] [0] rfl rfl), ?_⟩))
                refine hpfact (fun m => (m.own 0 rfl).slice) ?_
                rintro ⟨A_b55, c_b55, rfl, hc_b55⟩
                refine hpfact (fun m => (m.ord 0 rfl).2.1) fun hA_b55 => ?_
                refine hpfact (fun m => (m.ord 0 rfl).some (by rw [e55, hiL]; decide)) fun h_ => ?_
                obtain ⟨a55, rfl⟩ : ∃ a_, A_b55 = some a_ := ⟨_, h_⟩
                clear h_
                refine hpyU (y_arrAt rfl Tryd.underlying23 (by omega)) <| hpx <| xh_y (fun m => yV (y_ldN rfl ag23 sz23 (by rw [b8s_length]; exact hiL) ((m.ord 0 rfl).2.2)) ((rfl : Value.agg _ = .agg (b8s (rdSl R).image).toArray))) <| And.intro (fun _ => wk [1, 1, 1] [0] rfl rfl) <| hpyU (y_build ti36 rfl rfl (by kernel_rfl) (bld_sl (x := rdSl R) hiL rfl pl36_0 pl36_1 pl36_2)) <| hpyU (y_idxA rfl rfl Tryd.underlying37 sz36 (show ((i : Nat) : Int) = _ by omega) (by omega)) <| ?_
                refine hpx0 (xh_stNa 1 rfl rfl rfl sz36 (Sl.cs_len hwR) Sl.cs_one (by rw [Sup.cs_len (rpart_wf h83 i)]; dsimp only; omega) ⟨(fun h => absurd h (by decide)), ?_⟩)
                refine hpmem (fun w m => m.eqX 0 rfl (show _ = RBlk g8 39 (rpart B (i + 1)).cs from by rw [hput])) ?_
                refine hpend <| hsub (ρ' := [(47, _), (9, _), (43, _), (6, _), (42, _), (8, _), (31, _), (7, _), (16, _), (5, _), (4, _), (2, _), (0, _)]) ⟨rfl, rfl, rfl, rfl, rfl, rfl, rfl, rfl, rfl, rfl, rfl, rfl, rfl, trivial⟩ <| hmemQ (X' := [_, _, _, _]) (S' := [_]) (fun _ m => m) <| hthen <| hreg <| hy (fun _ => y_move rfl) <| hy (fun _ => yV (y_strFrom rfl rfl Tryd.underlying9 (show ((37 : Nat) : Int) = 37 from rfl) (by rw [bytesOf_strOf]; omega)) ((show Value.string (strOf ((bytesOf (strOf R)).drop 37)) = .string (strOf (B.drop (9 + 37 * (i + 1)))) by rw [bytesOf_strOf, hRn]))) <| hy (fun _ => y_assign rfl) <| hend <| hsub (ρ' := [(6, _), (47, _), (9, _), (43, _), (42, _), (8, _), (31, _), (7, _), (16, _), (5, _), (4, _), (2, _), (0, _)]) ⟨rfl, rfl, rfl, rfl, rfl, rfl, rfl, rfl, rfl, rfl, rfl, rfl, rfl, trivial⟩ <| hqblock <| hthen <| hreg <| hy (fun _ => y_add rfl rfl (w64 (by omega) (by omega))) <| hy (fun _ => y_move rfl) <| hend <| hsub (ρ' := [(42, _), (6, _), (47, _), (9, _), (43, _), (8, _), (31, _), (7, _), (16, _), (5, _), (4, _), (2, _), (0, _)]) ⟨rfl, rfl, rfl, rfl, rfl, rfl, rfl, rfl, rfl, rfl, rfl, rfl, rfl, trivial⟩ <| ?_
                refine hnext1 (i + 1) ⟨rfl, rfl, rfl, rfl, rfl, rfl, rfl, rfl, rfl, rfl, trivial⟩ [0, 1, 1] rfl [0] rfl (⟨by omega, hbs'⟩) (by omega)
          · obtain rfl : i = 2 := by omega
            refine hmemC (fun w m => m.eqX 0 rfl (show _ = RBlk g8 39 (rdBody B).cs from rfl)) ?_
            refine hexit <| hthen_exit <| hthen_exit <| hqblock_exit <| hthen <| hseq <| hseq <| hreg <| hy (fun m => yV (y_ldN rfl ag39 sz39 (Sup.cs_len (rdBody_wf h83)) ((m.blk 0 rfl).cells0)) ((rfl : _ = Value.agg (rdBody B).cs.toArray))) <| ?_
            refine hx (xh_call rfl Tryd.call18 (maySC (rdBody_wf h83)) [] rfl [] rfl ?_)
            rintro _ _ _ ⟨rfl, rfl, rfl⟩
            refine hy (fun _ => y_notp rfl) <| hend <| hsub (ρ' := [(69, _), (43, _), (6, _), (42, _), (8, _), (31, _), (7, _), (16, _), (5, _), (4, _), (2, _), (0, _)]) ⟨rfl, rfl, rfl, rfl, rfl, rfl, rfl, rfl, rfl, rfl, rfl, rfl, trivial⟩ <| hmemQ (X' := [_, _, _]) (S' := [_]) (fun _ m => m) <| hthen <| ?_
            refine hif rfl (fun hm => ?_) (fun hm => ?_)
            · refine hseq <| hreg <| hy (fun _ => y_build0 ti39 rfl (by kernel_rfl)) <| ?_
              rw [hbad (fun hb => hm hb.2.2.2.2)]
              refine hx0 (xh_stA 2 rfl rfl rfl sz39 (Sup.cs_len Sup.zero_wf) (Sup.cs_one (s := Sup.zero)) rfl ?_)
              refine hy (fun _ => y_assign rfl) <| hend <| hsub (ρ' := [(3, _), (69, _), (43, _), (6, _), (42, _), (8, _), (31, _), (7, _), (16, _), (5, _), (4, _), (2, _), (0, _)]) ⟨rfl, rfl, rfl, rfl, rfl, rfl, rfl, rfl, rfl, rfl, rfl, rfl, rfl, trivial⟩ <| hmemQ (X' := [_, _, _]) (S' := [_]) (fun _ m => m) <| hthen <| hret <| hthen_ret <| ?_
              exact hretN1 trivial rfl rfl rfl ag39 sz39 (Sup.cs_len Sup.zero_wf) (fun m => (m.blk 0 rfl).cells0) [] rfl [] rfl ⟨rfl, rfl, rfl⟩
            · have hm := Decidable.not_not.1 hm
              rw [hok ⟨h83, hp', hbs 0 (by decide), hbs 1 (by decide), hm⟩]
              refine hcskip <| hthen <| hseq <| hreg <| hy (fun m => yV (y_ldN rfl ag39 sz39 (Sup.cs_len (rdBody_wf h83)) ((m.blk 0 rfl).cells0)) ((rfl : _ = Value.agg (rdBody B).cs.toArray))) <| ?_
              refine hx0 (xh_stA 2 rfl rfl rfl sz39 (Sup.cs_len (rdBody_wf h83)) (Sup.cs_one (s := rdBody B)) rfl ?_)
              refine hy (fun _ => y_assign rfl) <| hend <| hsub (ρ' := [(3, _), (69, _), (43, _), (6, _), (42, _), (8, _), (31, _), (7, _), (16, _), (5, _), (4, _), (2, _), (0, _)]) ⟨rfl, rfl, rfl, rfl, rfl, rfl, rfl, rfl, rfl, rfl, rfl, rfl, rfl, trivial⟩ <| hmemQ (X' := [_, _, _]) (S' := [_]) (fun _ m => m) <| hthen <| hret <| ?_
              exact hretN1 trivial rfl rfl rfl ag39 sz39 (Sup.cs_len (rdBody_wf h83)) (fun m => (m.blk 0 rfl).cells0) [] rfl [] rfl ⟨rfl, rfl, rfl⟩
        · refine hpx (xh_alloc ti39 (fun g8 => ⟨(fun _ => wk [1, 1] [0] rfl rfl), ?_⟩))
          refine hpx (xh_call rfl Tryd.call69 (valueC (by rw [List.length_drop]; omega) (l := (B.drop 5))) [] rfl [] rfl ?_)
          rintro _ _ _ ⟨rfl, rfl, rfl⟩
          refine ⟨(fun _ => wk [1, 1] [0] rfl rfl), ?_⟩
          refine hpyU (yV (y_build ti39 rfl rfl (by kernel_rfl) (.cons (o := 0) (sz := 1) (by kernel_rfl) rfl rfl (Nat.le_of_ble_eq_true rfl) (.cons (o := 1) (sz := 1) (by kernel_rfl) rfl rfl (Nat.le_of_ble_eq_true rfl) .nil))) ((rfl : _ = Value.agg (rpart B 0).cs.toArray))) <| ?_
          refine hpx0 (xh_stA 0 rfl rfl rfl sz39 (Sup.cs_len (rpart_wf h83 0)) (Sup.cs_one (s := rpart B 0)) rfl ⟨(fun h => absurd h (by decide)), ?_⟩)
          refine hpend <| hsub (ρ' := [(8, _), (31, _), (7, _), (6, _), (16, _), (5, _), (4, _), (3, _), (2, _), (0, _)]) ⟨rfl, rfl, rfl, rfl, rfl, rfl, rfl, rfl, rfl, rfl, trivial⟩ <| hmemQ (X' := [_, _, _]) (S' := [_]) (fun _ m => m) <| hthen <| hseq <| hreg <| hy (fun _ => y_move rfl) <| hy (fun _ => yV (y_strFrom rfl rfl Tryd.underlying9 (show ((5 : Nat) : Int) = 5 from rfl) (by rw [bytesOf_strOf]; omega)) ((show Value.string (strOf ((bytesOf (strOf (B.drop 4))).drop 5)) = .string (strOf (B.drop (9 + 37 * 0))) by rw [bytesOf_strOf, List.drop_drop]))) <| hy (fun _ => y_assign rfl) <| hend <| hsub (ρ' := [(6, _), (8, _), (31, _), (7, _), (16, _), (5, _), (4, _), (3, _), (2, _), (0, _)]) ⟨rfl, rfl, rfl, rfl, rfl, rfl, rfl, rfl, rfl, rfl, trivial⟩ <| hthen <| hseq <| hseq <| hreg <| hy (fun _ => y_move rfl) <| hend <| hthen <| hblock <| ?_
          refine hloop1 (fun i => 2 - i) (fun i => [(6, .string (strOf (B.drop (9 + 37 * i)))), (42, .int .i64 (i : Nat))]) (fun i => [RBlk g8 39 (rpart B i).cs]) (fun i => []) (fun i => i ≤ 2 ∧ ∀ j, j < i → (B.getD (9 + 37 * j) 0).toNat ≤ 1) 0 [(8, _), (31, _), (7, _), (16, _), (5, _), (4, _), (2, _), (0, _)] ⟨rfl, rfl, rfl, rfl, rfl, rfl, rfl, rfl, trivial⟩ [0] rfl [] rfl (⟨Nat.zero_le _, fun j hj => absurd hj (Nat.not_lt_zero _)⟩) ⟨rfl, rfl, trivial⟩ (fun i ⟨hi2, hbs⟩ => ?_)
          refine hseq <| hreg <| hy (fun _ => y_lss rfl rfl) <| hend <| hthen <| hseq <| ?_
          refine hif rfl (fun hlt => ?_) (fun hlt => ?_)
          · have hi : i < 2 := by omega
            have hput := rpart_put h83 hi
            have hRl : (B.drop (9 + 37 * i)).length = 74 - 37 * i := by rw [List.length_drop]; omega
            have hR0 : (B.drop (9 + 37 * i)).getD 0 0 = B.getD (9 + 37 * i) 0 := by simp [List.getD]
            have hRn : (B.drop (9 + 37 * i)).drop 37 = B.drop (9 + 37 * (i + 1)) := by rw [List.drop_drop]; congr 1
            generalize B.drop (9 + 37 * i) = R at hput hRl hR0 hRn ⊢
            have hsR := strOf_size R
            have hbR := (R.getD 0 0).toNat_lt
            refine hcskip <| hthen <| hseq <| hblock <| hseq <| hreg <| hy (fun _ => y_move rfl) <| hy (fun _ => y_assign rfl) <| hend <| hsub (ρ' := [(9, _), (43, _), (6, _), (42, _), (8, _), (31, _), (7, _), (16, _), (5, _), (4, _), (2, _), (0, _)]) ⟨rfl, rfl, rfl, rfl, rfl, rfl, rfl, rfl, rfl, rfl, rfl, rfl, trivial⟩ <| hthen <| hseq <| hseq <| hreg <| hy (fun _ => y_move rfl) <| hy (fun _ => y_idxStr rfl rfl Tryd.underlying9 (show ((0 : Nat) : Int) = 0 from rfl) (strOf_at (by omega))) <| hy (fun _ => y_gtr rfl rfl) <| hend <| hsub (ρ' := [(47, _), (9, _), (43, _), (6, _), (42, _), (8, _), (31, _), (7, _), (16, _), (5, _), (4, _), (2, _), (0, _)]) ⟨rfl, rfl, rfl, rfl, rfl, rfl, rfl, rfl, rfl, rfl, rfl, rfl, rfl, trivial⟩ <| hthen <| ?_
            refine hif rfl (fun hbig => ?_) (fun hbig => ?_)
            · refine hseq <| hreg <| hy (fun _ => y_build0 ti39 rfl (by kernel_rfl)) <| ?_
              have hno : ¬ rdOk B := fun hb => by
                have h1 := hb.2.2.1
                have h2 := hb.2.2.2.1
                have h3 : (B.getD (9 + 37 * i) 0).toNat ≤ 1 := match i, hi with | 0, _ => h1 | 1, _ => h2
                rw [← hR0] at h3
                omega
              rw [hbad hno]
              refine hx0 (xh_stA 2 rfl rfl rfl sz39 (Sup.cs_len Sup.zero_wf) (Sup.cs_one (s := Sup.zero)) rfl ?_)
              refine hy (fun _ => y_assign rfl) <| hend <| hsub (ρ' := [(3, _), (47, _), (9, _), (43, _), (6, _), (42, _), (8, _), (31, _), (7, _), (16, _), (5, _), (4, _), (2, _), (0, _)]) ⟨rfl, rfl, rfl, rfl, rfl, rfl, rfl, rfl, rfl, rfl, rfl, rfl, rfl, rfl, trivial⟩ <| hmemQ (X' := [_, _, _]) (S' := [_]) (fun _ m => m) <| hthen <| hret <| hthen_ret <| hqblock_ret <| hthen_ret <| hthen_ret <| hqblock_ret <| hthen_ret <| ?_
              exact hretN1 trivial rfl rfl rfl ag39 sz39 (Sup.cs_len Sup.zero_wf) (fun m => (m.blk 0 rfl).cells0) [] rfl [] rfl ⟨rfl, rfl, rfl⟩
            · have eb : (((R.getD 0 0).toNat : Int) = 1) ↔ R.getD 0 0 = 1 := by
                constructor
                · intro h; exact UInt8.toNat_inj.1 (by rw [show (1 : UInt8).toNat = 1 from rfl]; omega)
                · intro h; rw [h]; rfl
              have hwR : (rdSl R).wf := rdSl_wf (by omega)
              have hiL := hwR.len
              have e55 : bytesOf (strOf (rdSl R).image) = (rdSl R).image := bytesOf_strOf _
              have l55 : (bytesOf (strOf (rdSl R).image)).length = 32 := by rw [e55, hiL]
              refine hcskip <| hthen <| hseq <| hdrwP [6, 8, 11, 15] (.take 0 3 <| .take 1 3 <| .take 2 3 <| .take 3 3 <| .take 4 3 <| .take 5 3 <| .take 9 2 <| .take 10 2 <| .take 13 3 <| .alt 6 (.take 7 3 <| .alt 8 (.alt 11 (.take 12 3 <| .take 14 3 <| .alt 15 (.done) (.stop)) (.stop)) (.alt 11 (.alt 8 (.take 12 3 <| .take 14 3 <| .alt 15 (.done) (.stop)) (.stop)) (.stop))) (.alt 11 (.alt 6 (.take 7 3 <| .alt 8 (.take 12 3 <| .take 14 3 <| .alt 15 (.done) (.stop)) (.stop)) (.stop)) (.stop))) (by kernel_rfl) (by kernel_rfl) rfl 3 <| hpyU (y_move rfl) <| hpyU (y_move rfl) <| hpyU (y_idxStr rfl rfl Tryd.underlying9 (show ((0 : Nat) : Int) = 0 from rfl) (strOf_at (by omega))) <| hpyU (yV (y_eql rfl rfl) ((show Value.bool (decide (((R.getD 0 0).toNat : Int) = 1)) = .bool (rdSl R).full from congrArg Value.bool (decide_eq_decide.2 eb)))) <| hpyU (y_move rfl) <| hpyU (yV (y_strBoth rfl rfl rfl Tryd.underlying9 (show ((1 : Nat) : Int) = 1 from rfl) (show ((33 : Nat) : Int) = 33 from rfl) (by decide) (by rw [bytesOf_strOf]; omega)) ((show Value.string (strOf (((bytesOf (strOf R)).take 33).drop 1)) = .string (strOf (rdSl R).image) by rw [bytesOf_strOf, List.drop_take]; rfl))) <| hpyU (y_move rfl) <| hpyU (yV (y_strFrom rfl rfl Tryd.underlying9 (show ((33 : Nat) : Int) = 33 from rfl) (by rw [bytesOf_strOf]; omega)) ((show Value.string (strOf ((bytesOf (strOf R)).drop 33)) = .string (strOf (R.drop 33)) by rw [bytesOf_strOf]))) <| hpyU (y_fld rfl fa39_2 (by decide)) <| ?_
              have hbs' : ∀ j, j < i + 1 → (B.getD (9 + 37 * j) 0).toNat ≤ 1 := fun j hj => by
                rcases Nat.lt_succ_iff_lt_or_eq.1 hj with h1 | h1
                · exact hbs j h1
                · rw [h1, ← hR0]; omega
              refine hpfork ?_ ?_
              · refine hpx (xh_s2b rfl Tryd.underlying9 Tryd.underlying32 Tryd.underlying5 (by rw [bytesOf_strOf, hiL]; decide) (fun v55 => ⟨(fun _ => wk [1, 1, 1] [0] rfl rfl), ?_⟩))
                refine hpfact (fun m => (m.own 0 rfl).slice) ?_
                rintro ⟨A_b55, c_b55, rfl, hc_b55⟩
                refine hpfact (fun m => (m.ord 0 rfl).2.1) fun hA_b55 => ?_
                refine hpfact (fun m => (m.ord 0 rfl).some (by rw [e55, hiL]; decide)) fun h_ => ?_
                obtain ⟨a55, rfl⟩ : ∃ a_, A_b55 = some a_ := ⟨_, h_⟩
                clear h_
                refine hpyU (y_arrAt rfl Tryd.underlying23 (by omega)) <| ?_
                refine hpfork ?_ ?_
                · refine hpx <| xh_y (fun m => yV (y_ldN rfl ag23 sz23 (by rw [b8s_length]; exact hiL) ((m.ord 0 rfl).2.2)) ((rfl : Value.agg _ = .agg (b8s (rdSl R).image).toArray))) <| And.intro (fun _ => wk [1, 1, 1] [0] rfl rfl) <| ?_
                  refine hpx (xh_call rfl Tryd.call69 (valueC (by rw [List.length_drop]; omega) (l := (R.drop 33))) [] rfl [] rfl ?_)
                  rintro _ _ _ ⟨rfl, rfl, rfl⟩
                  refine ⟨(fun _ => wk [1, 1, 1] [0] rfl rfl), ?_⟩
                  refine hpyU (y_build ti36 rfl rfl (by kernel_rfl) (bld_sl (x := rdSl R) hiL rfl pl36_0 pl36_1 pl36_2)) <| hpyU (y_idxA rfl rfl Tryd.underlying37 sz36 (show ((i : Nat) : Int) = _ by omega) (by omega)) <| ?_
                  refine hpx0 (xh_stNa 1 rfl rfl rfl sz36 (Sl.cs_len hwR) Sl.cs_one (by rw [Sup.cs_len (rpart_wf h83 i)]; dsimp only; omega) ⟨(fun h => absurd h (by decide)), ?_⟩)
                  refine hpmem (fun w m => m.eqX 0 rfl (show _ = RBlk g8 39 (rpart B (i + 1)).cs from by rw [hput])) ?_
                  refine hpend <| hsub (ρ' := [(47, _), (9, _), (43, _), (6, _), (42, _), (8, _), (31, _), (7, _), (16, _), (5, _), (4, _), (2, _), (0, _)]) ⟨rfl, rfl, rfl, rfl, rfl, rfl, rfl, rfl, rfl, rfl, rfl, rfl, rfl, trivial⟩ <| hmemQ (X' := [_, _, _, _]) (S' := [_]) (fun _ m => m) <| hthen <| hreg <| hy (fun _ => y_move rfl) <| hy (fun _ => yV (y_strFrom rfl rfl Tryd.underlying9 (show ((37 : Nat) : Int) = 37 from rfl) (by rw [bytesOf_strOf]; omega)) ((show Value.string (strOf ((bytesOf (strOf R)).drop 37)) = .string (strOf (B.drop (9 + 37 * (i + 1)))) by rw [bytesOf_strOf, hRn]))) <| hy (fun _ => y_assign rfl) <| hend <| hsub (ρ' := [(6, _), (47, _), (9, _), (43, _), (42, _), (8, _), (31, _), (7, _), (16, _), (5, _), (4, _), (2, _), (0, _)]) ⟨rfl, rfl, rfl, rfl, rfl, rfl, rfl, rfl, rfl, rfl, rfl, rfl, rfl, trivial⟩ <| hqblock <| hthen <| hreg <| hy (fun _ => y_add rfl rfl (w64 (by omega) (by omega))) <| hy (fun _ => y_move rfl) <| hend <| hsub (ρ' := [(42, _), (6, _), (47, _), (9, _), (43, _), (8, _), (31, _), (7, _), (16, _), (5, _), (4, _), (2, _), (0, _)]) ⟨rfl, rfl, rfl, rfl, rfl, rfl, rfl, rfl, rfl, rfl, rfl, rfl, rfl, trivial⟩ <| ?_
                  refine hnext1 (i + 1) ⟨rfl, rfl, rfl, rfl, rfl, rfl, rfl, rfl, rfl, rfl, trivial⟩ [0, 1, 1] rfl [0] rfl (⟨by omega, hbs'⟩) (by omega)
                · refine hpx (xh_call rfl Tryd.call69 (valueC (by rw [List.length_drop]; omega) (l := (R.drop 33))) [] rfl [] rfl ?_)
                  rintro _ _ _ ⟨rfl, rfl, rfl⟩
                  refine ⟨(fun _ => wk [1, 1, 1] [0] rfl rfl), ?_⟩
                  refine hpx <| xh_y (fun m => yV (y_ldN rfl ag23 sz23 (by rw [b8s_length]; exact hiL) ((m.ord 0 rfl).2.2)) ((rfl : Value.agg _ = .agg (b8s (rdSl R).image).toArray))) <| And.intro (fun _ => wk [1, 1, 1] [0] rfl rfl) <| hpyU (y_build ti36 rfl rfl (by kernel_rfl) (bld_sl (x := rdSl R) hiL rfl pl36_0 pl36_1 pl36_2)) <| hpyU (y_idxA rfl rfl Tryd.underlying37 sz36 (show ((i : Nat) : Int) = _ by omega) (by omega)) <| ?_
                  refine hpx0 (xh_stNa 1 rfl rfl rfl sz36 (Sl.cs_len hwR) Sl.cs_one (by rw [Sup.cs_len (rpart_wf h83 i)]; dsimp only; omega) ⟨(fun h => absurd h (by decide)), ?_⟩)
                  refine hpmem (fun w m => m.eqX 0 rfl (show _ = RBlk g8 39 (rpart B (i + 1)).cs from by rw [hput])) ?_
                  refine hpend <| hsub (ρ' := [(47, _), (9, _), (43, _), (6, _), (42, _), (8, _), (31, _), (7, _), (16, _), (5, _), (4, _), (2, _), (0, _)]) ⟨rfl, rfl, rfl, rfl, rfl, rfl, rfl, rfl, rfl, rfl, rfl, rfl, rfl, trivial⟩ <| hmemQ (X' := [_, _, _, _]) (S' := [_]) (fun _ m => m) <| hthen <| hreg <| hy (fun _ => y_move rfl) <| hy (fun _ => yV (y_strFrom rfl rfl Tryd.underlying9 (show ((37 : Nat) : Int) = 37 from rfl) (by rw [bytesOf_strOf]; omega)) ((show Value.string (strOf ((bytesOf (strOf R)).drop 37)) = .string (strOf (B.drop (9 + 37 * (i + 1)))) by rw [bytesOf_strOf, hRn]))) <| hy (fun _ => y_assign rfl) <| hend <| hsub (ρ' := [(6, _), (47, _), (9, _), (43, _), (42, _), (8, _), (31, _), (7, _), (16, _), (5, _), (4, _), (2, _), (0, _)]) ⟨rfl, rfl, rfl, rfl, rfl, rfl, rfl, rfl, rfl, rfl, rfl, rfl, rfl, trivial⟩ <| hqblock <| hthen <| hreg <| hy (fun _ => y_add rfl rfl (w64 (by omega) (by omega))) <| hy (fun _ => y_move rfl) <| hend <| hsub (ρ' := [(42, _), (6, _), (47, _), (9, _), (43, _), (8, _), (31, _), (7, _), (16, _), (5, _), (4, _), (2, _), (0, _)]) ⟨rfl, rfl, rfl, rfl, rfl, rfl, rfl, rfl, rfl, rfl, rfl, rfl, rfl, trivial⟩ <| ?_
                  refine hnext1 (i + 1) ⟨rfl, rfl, rfl, rfl, rfl, rfl, rfl, rfl, rfl, rfl, trivial⟩ [0, 1, 1] rfl [0] rfl (⟨by omega, hbs'⟩) (by omega)
              · refine hpx (xh_call rfl Tryd.call69 (valueC (by rw [List.length_drop]; omega) (l := (R.drop 33))) [] rfl [] rfl ?_)
                rintro _ _ _ ⟨rfl, rfl, rfl⟩
                refine ⟨(fun _ => wk [0, 0, 0] [0] rfl rfl), ?_⟩
                refine hpx (xh_s2b rfl Tryd.underlying9 Tryd.underlying32 Tryd.underlying5 (by rw [bytesOf_strOf, hiL]; decide) (fun v55 => ⟨(fun _ => wk [1, 1, 1] [0] rfl rfl), ?_⟩))
                refine hpfact (fun m => (m.own 0 rfl).slice) ?_
                rintro ⟨A_b55, c_b55, rfl, hc_b55⟩
                refine hpfact (fun m => (m.ord 0 rfl).2.1) fun hA_b55 => ?_
                refine hpfact (fun m => (m.ord 0 rfl).some (by rw [e55, hiL]; decide)) fun h_ => ?_
                obtain ⟨a55, rfl⟩ : ∃ a_, A_b55 = some a_ := ⟨_, h_⟩
                clear h_
                refine hpyU (y_arrAt rfl Tryd.underlying23 (by omega)) <| hpx <| xh_y (fun m => yV (y_ldN rfl ag23 sz23 (by rw [b8s_length]; exact hiL) ((m.ord 0 rfl).2.2)) ((rfl : Value.agg _ = .agg (b8s (rdSl R).image).toArray))) <| And.intro (fun _ => wk [1, 1, 1] [0] rfl rfl) <| hpyU (y_build ti36 rfl rfl (by kernel_rfl) (bld_sl (x := rdSl R) hiL rfl pl36_0 pl36_1 pl36_2)) <| hpyU (y_idxA rfl rfl Tryd.underlying37 sz36 (show ((i : Nat) : Int) = _ by omega) (by omega)) <| ?_
                refine hpx0 (xh_stNa 1 rfl rfl rfl sz36 (Sl.cs_len hwR) Sl.cs_one (by rw [Sup.cs_len (rpart_wf h83 i)]; dsimp only; omega) ⟨(fun h => absurd h (by decide)), ?_⟩)
                refine hpmem (fun w m => m.eqX 0 rfl (show _ = RBlk g8 39 (rpart B (i + 1)).cs from by rw [hput])) ?_
                refine hpend <| hsub (ρ' := [(47, _), (9, _), (43, _), (6, _), (42, _), (8, _), (31, _), (7, _), (16, _), (5, _), (4, _), (2, _), (0, _)]) ⟨rfl, rfl, rfl, rfl, rfl, rfl, rfl, rfl, rfl, rfl, rfl, rfl, rfl, trivial⟩ <| hmemQ (X' := [_, _, _, _]) (S' := [_]) (fun _ m => m) <| hthen <| hreg <| hy (fun _ => y_move rfl) <| hy (fun _ => yV (y_strFrom rfl rfl Tryd.underlying9 (show ((37 : Nat) : Int) = 37 from rfl) (by rw [bytesOf_strOf]; omega)) ((show Value.string (strOf ((bytesOf (strOf R)).drop 37)) = .string (strOf (B.drop (9 + 37 * (i + 1)))) by rw [bytesOf_strOf, hRn]))) <| hy (fun _ => y_assign rfl) <| hend <| hsub (ρ' := [(6, _), (47, _), (9, _), (43, _), (42, _), (8, _), (31, _), (7, _), (16, _), (5, _), (4, _), (2, _), (0, _)]) ⟨rfl, rfl, rfl, rfl, rfl, rfl, rfl, rfl, rfl, rfl, rfl, rfl, rfl, trivial⟩ <| hqblock <| hthen <| hreg <| hy (fun _ => y_add rfl rfl (w64 (by omega) (by omega))) <| hy (fun _ => y_move rfl) <| hend <| hsub (ρ' := [(42, _), (6, _), (47, _), (9, _), (43, _), (8, _), (31, _), (7, _), (16, _), (5, _), (4, _), (2, _), (0, _)]) ⟨rfl, rfl, rfl, rfl, rfl, rfl, rfl, rfl, rfl, rfl, rfl, rfl, rfl, trivial⟩ <| ?_
                refine hnext1 (i + 1) ⟨rfl, rfl, rfl, rfl, rfl, rfl, rfl, rfl, rfl, rfl, trivial⟩ [0, 1, 1] rfl [0] rfl (⟨by omega, hbs'⟩) (by omega)
          · obtain rfl : i = 2 := by omega
            refine hmemC (fun w m => m.eqX 0 rfl (show _ = RBlk g8 39 (rdBody B).cs from rfl)) ?_
            refine hexit <| hthen_exit <| hthen_exit <| hqblock_exit <| hthen <| hseq <| hseq <| hreg <| hy (fun m => yV (y_ldN rfl ag39 sz39 (Sup.cs_len (rdBody_wf h83)) ((m.blk 0 rfl).cells0)) ((rfl : _ = Value.agg (rdBody B).cs.toArray))) <| ?_
            refine hx (xh_call rfl Tryd.call18 (maySC (rdBody_wf h83)) [] rfl [] rfl ?_)
            rintro _ _ _ ⟨rfl, rfl, rfl⟩
            refine hy (fun _ => y_notp rfl) <| hend <| hsub (ρ' := [(69, _), (43, _), (6, _), (42, _), (8, _), (31, _), (7, _), (16, _), (5, _), (4, _), (2, _), (0, _)]) ⟨rfl, rfl, rfl, rfl, rfl, rfl, rfl, rfl, rfl, rfl, rfl, rfl, trivial⟩ <| hmemQ (X' := [_, _, _]) (S' := [_]) (fun _ m => m) <| hthen <| ?_
            refine hif rfl (fun hm => ?_) (fun hm => ?_)
            · refine hseq <| hreg <| hy (fun _ => y_build0 ti39 rfl (by kernel_rfl)) <| ?_
              rw [hbad (fun hb => hm hb.2.2.2.2)]
              refine hx0 (xh_stA 2 rfl rfl rfl sz39 (Sup.cs_len Sup.zero_wf) (Sup.cs_one (s := Sup.zero)) rfl ?_)
              refine hy (fun _ => y_assign rfl) <| hend <| hsub (ρ' := [(3, _), (69, _), (43, _), (6, _), (42, _), (8, _), (31, _), (7, _), (16, _), (5, _), (4, _), (2, _), (0, _)]) ⟨rfl, rfl, rfl, rfl, rfl, rfl, rfl, rfl, rfl, rfl, rfl, rfl, rfl, trivial⟩ <| hmemQ (X' := [_, _, _]) (S' := [_]) (fun _ m => m) <| hthen <| hret <| hthen_ret <| ?_
              exact hretN1 trivial rfl rfl rfl ag39 sz39 (Sup.cs_len Sup.zero_wf) (fun m => (m.blk 0 rfl).cells0) [] rfl [] rfl ⟨rfl, rfl, rfl⟩
            · have hm := Decidable.not_not.1 hm
              rw [hok ⟨h83, hp', hbs 0 (by decide), hbs 1 (by decide), hm⟩]
              refine hcskip <| hthen <| hseq <| hreg <| hy (fun m => yV (y_ldN rfl ag39 sz39 (Sup.cs_len (rdBody_wf h83)) ((m.blk 0 rfl).cells0)) ((rfl : _ = Value.agg (rdBody B).cs.toArray))) <| ?_
              refine hx0 (xh_stA 2 rfl rfl rfl sz39 (Sup.cs_len (rdBody_wf h83)) (Sup.cs_one (s := rdBody B)) rfl ?_)
              refine hy (fun _ => y_assign rfl) <| hend <| hsub (ρ' := [(3, _), (69, _), (43, _), (6, _), (42, _), (8, _), (31, _), (7, _), (16, _), (5, _), (4, _), (2, _), (0, _)]) ⟨rfl, rfl, rfl, rfl, rfl, rfl, rfl, rfl, rfl, rfl, rfl, rfl, rfl, trivial⟩ <| hmemQ (X' := [_, _, _]) (S' := [_]) (fun _ m => m) <| hthen <| hret <| ?_
              exact hretN1 trivial rfl rfl rfl ag39 sz39 (Sup.cs_len (rdBody_wf h83)) (fun m => (m.blk 0 rfl).cells0) [] rfl [] rfl ⟨rfl, rfl, rfl⟩
end Go.Proofs.YtfikjheicjamhaaDoor
end
section
/- Contracts: disks of the program as the document's; superblocks loaded and saved by the program (layer 22). -/
set_option linter.unusedVariables false
set_option linter.unusedSimpArgs false
set_option maxRecDepth 20000
namespace Go.Proofs.YtfikjheicjamhaaDoor
open Go.Eng Go.Hx
theorem dreadC {g : Nat} {st : DSt} {d : RD} {kk : Nat} {p : List UInt8} (hD : DS st d kk) : Con Tryd.prog 65 [.pointer (some ⟨g, 0, none⟩), .string (strOf p)] [RDisk g st] [] (fun v_ X_ S_ => ∃ v, v_ = (.tuple #[v, .int .i64 (d.readE p)]) ∧ X_ = [RDisk g st, ROwn 5 1 v (d.readB p).length (b8s (d.readB p))] ∧ S_ = []) := by
  rw [hD.readE, hD.readB]
  exact readC hD.ok.sm
theorem dwriteC {g : Nat} {st : DSt} {d : RD} {kk : Nat} {p : List UInt8} {A : Option Addr} {n c : Nat} {l : List UInt8} (hD : DS st d kk) (hkk : kk ≤ 99000) (hl : l.length = n) (hn : n ≤ 1048576) : Con Tryd.prog 79 [.pointer (some ⟨g, 0, none⟩), .string (strOf p), .slice A n c] [RDisk g st] [RRd 1 A n (b8s l)] (fun v_ X_ S_ => ∃ st1, v_ = (.int .i64 (d.writeE p l)) ∧ X_ = [RDisk g st1] ∧ S_ = [] ∧ (DS st1 (d.write p l) (kk + 1))) := by
  exact Con.mono (writeC hD.ok (by omega) hn) (fun v X S h => by
    obtain ⟨st1, B, c1, A1, c2, h1, h2, h3, hw⟩ := h
    have hW := hD.write hl hn hw
    exact ⟨st1, by rw [hW.2]; exact h1, h2, h3, hW.1⟩)
theorem dsyncC {g : Nat} {st : DSt} {d : RD} {kk : Nat} (hD : DS st d kk) : Con Tryd.prog 81 [.pointer (some ⟨g, 0, none⟩)] [RDisk g st] [] (fun v_ X_ S_ => ∃ st1, v_ = (.int .i64 d.syncE) ∧ X_ = [RDisk g st1] ∧ S_ = [] ∧ (DS st1 d.sync kk)) := by
  exact Con.mono (syncC hD.ok) (fun v X S h => by
    obtain ⟨st1, gl, h1, h2, h3, hw⟩ := h
    have hW := hD.sync hw
    exact ⟨st1, by rw [hW.2]; exact h1, h2, h3, hW.1⟩)
theorem drenameC {g : Nat} {st : DSt} {d : RD} {kk : Nat} {a c : List UInt8} (hD : DS st d kk) (hkk : kk ≤ 99000) : Con Tryd.prog 97 [.pointer (some ⟨g, 0, none⟩), .string (strOf a), .string (strOf c)] [RDisk g st] [] (fun v_ X_ S_ => ∃ st1, v_ = (.int .i64 (d.renameE a c)) ∧ X_ = [RDisk g st1] ∧ S_ = [] ∧ (DS st1 (d.rename a c) (kk + 1))) := by
  exact Con.mono (renameC hD.ok (by omega)) (fun v X S h => by
    obtain ⟨st1, A, j, h1, h2, h3, hw⟩ := h
    have hW := hD.rename hw
    exact ⟨st1, by rw [hW.2]; exact h1, h2, h3, hW.1⟩)
theorem DS.rd_len {st : DSt} {d : RD} {kk : Nat} (h : DS st d kk) (p : List UInt8) : (d.readB p).length ≤ 1048576 := by
  rw [h.readB]
  by_cases he : foundE st p = 0
  · obtain ⟨r, hr⟩ := found_ok he
    rw [readB_ok he hr]
    have h1 := h.ok.small r (List.mem_append_left _ (List.mem_append_left _ (List.mem_map.2 ⟨_, aget_mem hr, rfl⟩)))
    have h2 : r.n = r.l.length := h.sim.files.len _ (aget_mem hr)
    omega
  · rw [readB_no he]; exact Nat.zero_le _
theorem loadSC {g : Nat} {st : DSt} {d : RD} {kk : Nat} (hD : DS st d kk) : Con Tryd.prog 77 [.pointer (some ⟨g, 0, none⟩)] [RDisk g st] [] (fun v_ X_ S_ => v_ = (.tuple #[.agg d.loadS.1.cs.toArray, .int .i64 d.loadS.2]) ∧ X_ = [RDisk g st] ∧ S_ = []) := by
  have hlen := hD.rd_len nSup
  refine henter (N := 19) Tryd.func77 rfl rfl (by simp) fun b => ?_
  refine hseq <| hreg <| ?_
  refine hx (xh_alloc ti39 (fun g2 => ?_))
  refine hy (fun _ => y_assign rfl) <| hend <| hmemQ (X' := [_, _]) (S' := []) (fun _ m => m) <| hthen <| hseq <| hreg <| hy (fun _ => y_move rfl) <| ?_
  refine hx (xh_call rfl Tryd.call65 (dreadC hD (p := nSup)) [1] rfl [] rfl ?_)
  rintro _ _ _ ⟨v, rfl, rfl, rfl⟩
  refine hfactL (fun m => (m.own 1 rfl).slice) ?_
  rintro ⟨A_x, c_x, rfl, hc_x⟩
  refine hfactL (fun m => (m.ord 1 rfl).2.1) fun hA_x => ?_
  refine hy (fun _ => y_move rfl) <| hy (fun _ => y_extract rfl rfl) <| hy (fun _ => y_extract rfl rfl) <| hy (fun _ => y_assign rfl) <| hy (fun _ => y_assign rfl) <| hend <| hsub (ρ' := [(5, _), (4, _), (3, _), (2, _), (0, _)]) ⟨rfl, rfl, rfl, rfl, rfl, trivial⟩ <| hmemQ (X' := [_, _, _]) (S' := []) (fun _ m => m) <| hthen <| hseq <| hseq <| hreg <| hy (fun _ => y_move rfl) <| hy (fun _ => y_neq rfl rfl) <| hend <| hsub (ρ' := [(12, _), (5, _), (4, _), (3, _), (2, _), (0, _)]) ⟨rfl, rfl, rfl, rfl, rfl, rfl, trivial⟩ <| hthen <| ?_
  refine hif rfl (fun h1 => ?_) (fun h1 => ?_)
  · rw [show d.loadS = (Sup.zero, d.readE nSup) by rw [RD.loadS, if_pos h1]]
    refine hseq <| hreg <| hy (fun _ => y_build0 ti39 rfl (by kernel_rfl)) <| hy (fun _ => y_move rfl) <| ?_
    refine hx0 (xh_stA 2 rfl rfl rfl sz39 (Sup.cs_len Sup.zero_wf) (Sup.cs_one (s := Sup.zero)) rfl ?_)
    refine hy (fun _ => y_assign rfl) <| hend <| hsub (ρ' := [(3, _), (12, _), (5, _), (4, _), (2, _), (0, _)]) ⟨rfl, rfl, rfl, rfl, rfl, rfl, trivial⟩ <| hmemQ (X' := [_, _, _]) (S' := []) (fun _ m => m) <| hthen <| hret <| hthen_ret <| ?_
    exact hretN1 trivial rfl rfl rfl ag39 sz39 (Sup.cs_len Sup.zero_wf) (fun m => (m.blk 0 rfl).cells0) [1] rfl [] rfl ⟨rfl, rfl, rfl⟩
  · rw [show d.loadS = rdSup (d.readB nSup) by rw [RD.loadS, if_neg h1]]
    have hw := rdSup_wf (d.readB nSup)
    refine hcskip <| hthen <| hseq <| hreg <| hy (fun _ => y_move rfl) <| ?_
    refine hx (xh_calll rfl Tryd.call23 (readSupC (by omega) (by omega)) [] rfl (.x 1 rfl .own .nil) ?_)
    rintro _ _ _ ⟨rfl, rfl, rfl⟩
    refine ⟨rfl, ?_⟩
    refine hy (fun _ => y_extract rfl rfl) <| hy (fun _ => y_extract rfl rfl) <| ?_
    refine hx0 (xh_stA 2 rfl rfl rfl sz39 (Sup.cs_len hw) Sup.cs_one rfl ?_)
    refine hy (fun _ => y_assign rfl) <| hend <| hsub (ρ' := [(3, _), (12, _), (5, _), (4, _), (2, _), (0, _)]) ⟨rfl, rfl, rfl, rfl, rfl, rfl, trivial⟩ <| hmemQ (X' := [_, _, _]) (S' := []) (fun _ m => m) <| hthen <| hret <| ?_
    exact hretN1 trivial rfl rfl rfl ag39 sz39 (Sup.cs_len hw) (fun m => (m.blk 0 rfl).cells0) [1] rfl [] rfl ⟨rfl, rfl, rfl⟩
theorem saveSC {g : Nat} {st : DSt} {d : RD} {kk : Nat} {s : Sup} (h : s.wf) (hD : DS st d kk) (hkk : kk ≤ 90000) : Con Tryd.prog 78 [.pointer (some ⟨g, 0, none⟩), .agg s.cs.toArray] [RDisk g st] [] (fun v_ X_ S_ => ∃ st1, v_ = (.int .i64 (d.saveSup s).2) ∧ X_ = [RDisk g st1] ∧ S_ = [] ∧ (DS st1 (d.saveSup s).1 (kk + 2))) := by
  refine henter (N := 36) Tryd.func78 rfl rfl (by simp) fun b => ?_
  refine hseq <| hreg <| ?_
  refine hx (xh_box rfl (fun g3 => ?_))
  refine hmemL (fun w m => m.eqX 0 rfl (show _ = RBlk g3 39 s.cs from congrArg (RBlk _ _) (cells_agg _))) ?_
  refine hy (fun _ => y_assign rfl) <| hend <| hmemQ (X' := [_, _]) (S' := []) (fun _ m => m) <| hthen <| hseq <| hreg <| hy (fun m => yV (y_ldN rfl ag39 sz39 (Sup.cs_len h) ((m.blk 0 rfl).cells0)) ((rfl : _ = Value.agg s.cs.toArray))) <| ?_
  refine hx (xh_call rfl Tryd.call16 (writeSupC h) [] rfl [] rfl ?_)
  rintro _ _ _ ⟨v, rfl, rfl, rfl⟩
  refine hfactL (fun m => (m.own 0 rfl).slice) ?_
  rintro ⟨A_x, c_x, rfl, hc_x⟩
  refine hfactL (fun m => (m.ord 0 rfl).2.1) fun hA_x => ?_
  refine hy (fun _ => y_move rfl) <| hy (fun _ => y_extract rfl rfl) <| hy (fun _ => y_extract rfl rfl) <| hy (fun _ => y_assign rfl) <| hy (fun _ => y_assign rfl) <| hend <| hsub (ρ' := [(6, _), (5, _), (4, _), (3, _), (0, _), (1, _)]) ⟨rfl, rfl, rfl, rfl, rfl, rfl, trivial⟩ <| hmemQ (X' := [_, _, _]) (S' := []) (fun _ m => m) <| hthen <| hseq <| hseq <| hreg <| hy (fun _ => y_move rfl) <| hy (fun _ => y_neq rfl rfl) <| hend <| hsub (ρ' := [(16, _), (6, _), (5, _), (4, _), (3, _), (0, _), (1, _)]) ⟨rfl, rfl, rfl, rfl, rfl, rfl, rfl, trivial⟩ <| hthen <| ?_
  refine hif rfl (fun h1 => ?_) (fun h1 => ?_)
  · have hm : ¬ s.may := fun hm => h1 (by rw [if_pos hm])
    rw [if_neg hm, if_neg hm]
    rw [show d.saveSup s = (d, 1) by rw [RD.saveSup, if_neg hm]]
    refine hseq <| hreg <| hy (fun _ => y_move rfl) <| hy (fun _ => y_assign rfl) <| hend <| hsub (ρ' := [(4, _), (16, _), (6, _), (5, _), (3, _), (0, _), (1, _)]) ⟨rfl, rfl, rfl, rfl, rfl, rfl, rfl, trivial⟩ <| hthen <| hret <| hthen_ret <| ?_
    exact hret1 trivial rfl rfl [2] rfl [] rfl ⟨st, rfl, rfl, rfl, hD.le (by omega)⟩
  · have hm : s.may := Decidable.byContradiction fun hm => h1 (by rw [if_neg hm]; decide)
    have hbl := Sup.bytes_len h
    rw [if_pos hm, if_pos hm]
    rw [show d.saveSup s = d.saveS nNew nSup s.bytes by rw [RD.saveSup, if_pos hm]]
    refine hcskip <| hthen <| hseq <| hseq <| hreg <| hy (fun _ => y_move rfl) <| hy (fun _ => y_move rfl) <| ?_
    refine hx (xh_calll rfl Tryd.call79 (dwriteC hD (by omega) rfl (by omega) (p := nNew) (l := s.bytes)) [2] rfl (.x 0 rfl .own .nil) ?_)
    rintro _ _ _ ⟨st1, rfl, rfl, rfl, h2⟩
    refine ⟨rfl, ?_⟩
    refine hy (fun _ => y_assign rfl) <| hend <| hsub (ρ' := [(7, _), (16, _), (6, _), (5, _), (4, _), (3, _), (0, _), (1, _)]) ⟨rfl, rfl, rfl, rfl, rfl, rfl, rfl, rfl, trivial⟩ <| hmemQ (X' := [_, _, _]) (S' := []) (fun _ m => m) <| hthen <| hseq <| hreg <| hy (fun _ => y_move rfl) <| hy (fun _ => y_neq rfl rfl) <| hend <| hsub (ρ' := [(22, _), (7, _), (16, _), (6, _), (5, _), (4, _), (3, _), (0, _), (1, _)]) ⟨rfl, rfl, rfl, rfl, rfl, rfl, rfl, rfl, rfl, trivial⟩ <| hthen <| ?_
    refine hif rfl (fun h3 => ?_) (fun h3 => ?_)
    · rw [show d.saveS nNew nSup s.bytes = (d, d.writeE nNew s.bytes) by rw [RD.saveS, if_pos h3]]
      have h4 : DS st1 d (kk + 2) := by
        have := h2.le (show kk + 1 ≤ kk + 2 by omega)
        rwa [RD.write, if_neg h3] at this
      refine hseq <| hreg <| hy (fun _ => y_move rfl) <| hy (fun _ => y_assign rfl) <| hend <| hsub (ρ' := [(4, _), (22, _), (7, _), (16, _), (6, _), (5, _), (3, _), (0, _), (1, _)]) ⟨rfl, rfl, rfl, rfl, rfl, rfl, rfl, rfl, rfl, trivial⟩ <| hthen <| hret <| hthen_ret <| ?_
      exact hret1 trivial rfl rfl [0] rfl [] rfl ⟨st1, rfl, rfl, rfl, h4⟩
    · refine hcskip <| hthen <| hseq <| hseq <| hreg <| hy (fun _ => y_move rfl) <| ?_
      refine hx (xh_call rfl Tryd.call81 (dsyncC h2) [0] rfl [] rfl ?_)
      rintro _ _ _ ⟨st12, rfl, rfl, rfl, h4⟩
      refine hy (fun _ => y_assign rfl) <| hend <| hsub (ρ' := [(8, _), (22, _), (7, _), (16, _), (6, _), (5, _), (4, _), (3, _), (0, _), (1, _)]) ⟨rfl, rfl, rfl, rfl, rfl, rfl, rfl, rfl, rfl, rfl, trivial⟩ <| hmemQ (X' := [_, _, _]) (S' := []) (fun _ m => m) <| hthen <| hseq <| hreg <| hy (fun _ => y_move rfl) <| hy (fun _ => y_neq rfl rfl) <| hend <| hsub (ρ' := [(27, _), (8, _), (22, _), (7, _), (16, _), (6, _), (5, _), (4, _), (3, _), (0, _), (1, _)]) ⟨rfl, rfl, rfl, rfl, rfl, rfl, rfl, rfl, rfl, rfl, rfl, trivial⟩ <| hthen <| ?_
      refine hif rfl (fun h5 => ?_) (fun h5 => ?_)
      · rw [show d.saveS nNew nSup s.bytes = (d.write nNew s.bytes, (d.write nNew s.bytes).syncE) by rw [RD.saveS, if_neg h3, if_pos h5]]
        have h9 : DS st12 (d.write nNew s.bytes) (kk + 2) := by
          have h10 : (d.write nNew s.bytes).pw = 0 := by
            unfold RD.syncE at h5
            split at h5
            · assumption
            · exact absurd rfl h5
          rw [RD.sync, if_pos h10] at h4
          exact h4.le (by omega)
        refine hseq <| hreg <| hy (fun _ => y_move rfl) <| hy (fun _ => y_assign rfl) <| hend <| hsub (ρ' := [(4, _), (27, _), (8, _), (22, _), (7, _), (16, _), (6, _), (5, _), (3, _), (0, _), (1, _)]) ⟨rfl, rfl, rfl, rfl, rfl, rfl, rfl, rfl, rfl, rfl, rfl, trivial⟩ <| hthen <| hret <| hthen_ret <| ?_
        exact hret1 trivial rfl rfl [0] rfl [] rfl ⟨st12, rfl, rfl, rfl, h9⟩
      · refine hcskip <| hthen <| hseq <| hseq <| hreg <| hy (fun _ => y_move rfl) <| ?_
        refine hx (xh_call rfl Tryd.call97 (drenameC h4 (by omega) (a := nNew) (c := nSup)) [0] rfl [] rfl ?_)
        rintro _ _ _ ⟨st13, rfl, rfl, rfl, h6⟩
        refine hy (fun _ => y_assign rfl) <| hend <| hsub (ρ' := [(9, _), (27, _), (8, _), (22, _), (7, _), (16, _), (6, _), (5, _), (4, _), (3, _), (0, _), (1, _)]) ⟨rfl, rfl, rfl, rfl, rfl, rfl, rfl, rfl, rfl, rfl, rfl, rfl, trivial⟩ <| hmemQ (X' := [_, _, _]) (S' := []) (fun _ m => m) <| hthen <| hseq <| hreg <| hy (fun _ => y_move rfl) <| hy (fun _ => y_neq rfl rfl) <| hend <| hsub (ρ' := [(32, _), (9, _), (27, _), (8, _), (22, _), (7, _), (16, _), (6, _), (5, _), (4, _), (3, _), (0, _), (1, _)]) ⟨rfl, rfl, rfl, rfl, rfl, rfl, rfl, rfl, rfl, rfl, rfl, rfl, rfl, trivial⟩ <| hthen <| ?_
        refine hif rfl (fun h7 => ?_) (fun h7 => ?_)
        · rw [show d.saveS nNew nSup s.bytes = ((d.write nNew s.bytes).sync, (d.write nNew s.bytes).sync.renameE nNew nSup) by rw [RD.saveS, if_neg h3, if_neg h5, if_pos h7]]
          have h9 : DS st13 (d.write nNew s.bytes).sync (kk + 2) := by
            rwa [RD.rename, if_neg h7] at h6
          refine hseq <| hreg <| hy (fun _ => y_move rfl) <| hy (fun _ => y_assign rfl) <| hend <| hsub (ρ' := [(4, _), (32, _), (9, _), (27, _), (8, _), (22, _), (7, _), (16, _), (6, _), (5, _), (3, _), (0, _), (1, _)]) ⟨rfl, rfl, rfl, rfl, rfl, rfl, rfl, rfl, rfl, rfl, rfl, rfl, rfl, trivial⟩ <| hthen <| hret <| hthen_ret <| ?_
          exact hret1 trivial rfl rfl [0] rfl [] rfl ⟨st13, rfl, rfl, rfl, h9⟩
        · rw [show d.saveS nNew nSup s.bytes = (((d.write nNew s.bytes).sync.rename nNew nSup).sync, ((d.write nNew s.bytes).sync.rename nNew nSup).syncE) by rw [RD.saveS, if_neg h3, if_neg h5, if_neg h7]]
          refine hcskip <| hthen <| hseq <| hreg <| hy (fun _ => y_move rfl) <| ?_
          refine hx (xh_call rfl Tryd.call81 (dsyncC h6) [0] rfl [] rfl ?_)
          rintro _ _ _ ⟨st14, rfl, rfl, rfl, h8⟩
          refine hy (fun _ => y_assign rfl) <| hend <| hsub (ρ' := [(4, _), (32, _), (9, _), (27, _), (8, _), (22, _), (7, _), (16, _), (6, _), (5, _), (3, _), (0, _), (1, _)]) ⟨rfl, rfl, rfl, rfl, rfl, rfl, rfl, rfl, rfl, rfl, rfl, rfl, rfl, trivial⟩ <| hmemQ (X' := [_, _, _]) (S' := []) (fun _ m => m) <| hthen <| hret <| ?_
          exact hret1 trivial rfl rfl [0] rfl [] rfl ⟨st14, rfl, rfl, rfl, h8⟩
end Go.Proofs.YtfikjheicjamhaaDoor
end
section
/- Contracts: an image of a slot, Active, Format, by the program (layer 22). -/
set_option linter.unusedVariables false
set_option linter.unusedSimpArgs false
set_option maxRecDepth 20000
namespace Go.Proofs.YtfikjheicjamhaaDoor
open Go.Eng Go.Hx
def nm2 : List Value := [SV [115, 47, 48], SV [115, 47, 49]]
theorem nm2_get : ∀ {i : Nat}, i < 2 → nm2[i]? = some (SV (nSlot i))
  | 0, _ => rfl
  | 1, _ => rfl
theorem fileC {i : Nat} (hi : i < 2) : Con Tryd.prog 80 [.int .i64 (i : Nat)] [] [] (fun v_ X_ S_ => v_ = (.string (strOf (nSlot i))) ∧ X_ = [] ∧ S_ = []) := by
  refine henter (N := 7) Tryd.func80 rfl rfl (by simp) fun b => ?_
  refine hseq <| hreg <| hy (fun _ => y_assign rfl) <| hend <| hthen <| hseq <| hreg <| ?_
  refine hx (xh_bsl Tryd.underlying70 ti9 rfl rfl rfl (by simp [Value.cells, B8]) (by decide) (by decide) (fun g3 => ?_))
  have hA_b3 : 0 < 2 → (some (⟨g3, 0, none⟩ : Addr)) ≠ none := fun _ h => by cases h
  refine hmemL (fun w m => m.eqX 0 rfl (show _ = ROwn 9 1 (.slice (some ⟨g3, 0, none⟩) 2 2) 2 nm2 from rfl)) ?_
  refine hy (fun _ => y_move rfl) <| hy (fun _ => y_idxS1 rfl rfl Tryd.underlying70 sz9 hA_b3 (show ((i : Nat) : Int) = _ by omega) (by omega)) <| hy (fun m => yV (y_ld1 rfl ag9 ((m.ord 0 rfl).cell (nm2_get hi))) ((rfl : _ = Value.string (strOf (nSlot i))))) <| hy (fun _ => y_assign rfl) <| hend <| hsub (ρ' := [(2, _), (0, _)]) ⟨rfl, rfl, trivial⟩ <| hmemQ (X' := [_]) (S' := []) (fun _ m => m) <| hthen <| hret <| ?_
  exact hret1 trivial rfl rfl [] rfl [] rfl ⟨rfl, rfl, rfl⟩
theorem formatSC {g : Nat} {st : DSt} {d : RD} {kk : Nat} (hD : DS st d kk) (hkk : kk ≤ 90000) : Con Tryd.prog 74 [.pointer (some ⟨g, 0, none⟩)] [RDisk g st] [] (fun v_ X_ S_ => ∃ st1, v_ = (.int .i64 (d.saveSup Sup.zero).2) ∧ X_ = [RDisk g st1] ∧ S_ = [] ∧ (DS st1 (d.saveSup Sup.zero).1 (kk + 2))) := by
  refine henter (N := 6) Tryd.func74 rfl rfl (by simp) fun b => ?_
  refine hseq <| hreg <| hy (fun _ => y_assign rfl) <| hend <| hthen <| hseq <| hreg <| hy (fun _ => y_move rfl) <| hy (fun _ => yV (y_build0 ti39 rfl (by kernel_rfl)) ((rfl : _ = Value.agg Sup.zero.cs.toArray))) <| ?_
  refine hx (xh_call rfl Tryd.call78 (saveSC Sup.zero_wf hD hkk) [0] rfl [] rfl ?_)
  rintro _ _ _ ⟨st1, rfl, rfl, rfl, h2⟩
  refine hy (fun _ => y_assign rfl) <| hend <| hsub (ρ' := [(2, _), (0, _)]) ⟨rfl, rfl, trivial⟩ <| hmemQ (X' := [_]) (S' := []) (fun _ m => m) <| hthen <| hret <| ?_
  exact hret1 trivial rfl rfl [0] rfl [] rfl ⟨st1, rfl, rfl, rfl, h2⟩
theorem sup_at {s : Sup} (h : s.wf) {i : Nat} (hi : i < 2) {j : Nat} {u : Value} (hu : (s.at i).cs[j]? = some u) : s.cs[2 + i * 34 + j]? = some u := by
  match i, hi with
  | 0, _ => exact sup_s0 hu
  | 1, _ => exact sup_s1 h hu
theorem imageSC {g : Nat} {st : DSt} {d : RD} {kk : Nat} {s : Sup} {i : Nat} (h : s.wf) (hi : i < 2) (hD : DS st d kk) : Con Tryd.prog 86 [.pointer (some ⟨g, 0, none⟩), .agg s.cs.toArray, .int .i64 (i : Nat)] [RDisk g st] [RRoots] (fun v_ X_ S_ => ∃ v, v_ = (.tuple #[v, .int .i64 (d.imageS s i).2]) ∧ X_ = [RDisk g st, ROwn 5 1 v (d.imageS s i).1.length (b8s (d.imageS s i).1)] ∧ S_ = []) := by
  have hlen := hD.rd_len (nSlot i)
  have hs := Sup.at_wf h i
  have hxl := hs.lo
  have hxh := hs.hi
  refine henter (N := 41) Tryd.func86 rfl rfl (by simp) fun b => ?_
  refine hseq <| hreg <| ?_
  refine hx (xh_box rfl (fun g4 => ?_))
  refine hmemL (fun w m => m.eqX 0 rfl (show _ = RBlk g4 39 s.cs from congrArg (RBlk _ _) (cells_agg _))) ?_
  refine hy (fun _ => y_assign rfl) <| hy (fun _ => y_assign rfl) <| hend <| hmemQ (X' := [_, _]) (S' := [_]) (fun _ m => m) <| hthen <| hseq <| hreg <| hy (fun _ => y_move rfl) <| hy (fun _ => y_fld rfl fa39_2 (by decide)) <| hy (fun _ => y_idxA rfl rfl Tryd.underlying37 sz36 (show ((i : Nat) : Int) = _ by omega) (by omega)) <| hy (fun m => yV (y_ldN rfl ag36 sz36 (Sl.cs_len hs) (fun j u hu => by rw [add_add, add_add]; rw [← Nat.add_assoc]; exact (m.blk 0 rfl).cells0 (2 + i * 34 + j) u (sup_at h hi hu))) ((rfl : _ = Value.agg (s.at i).cs.toArray))) <| ?_
  refine hx (xh_alloc ti36 (fun g8 => ?_))
  refine hx0 (xh_stA 0 rfl rfl rfl sz36 (Sl.cs_len hs) Sl.cs_one rfl ?_)
  refine hend <| hsub (ρ' := [(8, _), (7, _), (6, _), (4, _), (0, _), (1, _), (2, _)]) ⟨rfl, rfl, rfl, rfl, rfl, rfl, rfl, trivial⟩ <| hmemQ (X' := [_, _, _]) (S' := [_]) (fun _ m => m) <| hthen <| hseq <| hseq <| hreg <| hy (fun _ => y_fld rfl fa36_0 (by decide)) <| hy (fun m => y_ld1 rfl ag4 ((m.blk 0 rfl).cells0 0 _ sl0)) <| hy (fun _ => (y_not rfl)) <| hend <| hsub (ρ' := [(17, _), (8, _), (7, _), (6, _), (4, _), (0, _), (1, _), (2, _)]) ⟨rfl, rfl, rfl, rfl, rfl, rfl, rfl, rfl, trivial⟩ <| hthen <| ?_
  refine hifb rfl (fun hf => ?_) (fun hf => ?_)
  · have hf' : (s.at i).full = false := by simpa using hf
    rw [show d.imageS s i = ([], 4) by rw [RD.imageS, if_pos hf']]
    refine hseq <| hreg <| hy (fun _ => y_assign rfl) <| hy (fun _ => y_assign rfl) <| hend <| hthen <| hret <| hthen_ret <| ?_
    refine hmemQ (fun w m => m.addX (r' := ROwn 5 1 (.slice none 0 0) 0 []) (.refl _ _) (Own.nil _ _ _ _) (fun k hk => hk.elim)) ?_
    exact hret2 trivial rfl rfl rfl [3, 0] rfl [] rfl ⟨_, rfl, rfl, rfl⟩
  · have hf' : (s.at i).full ≠ false := by simpa using hf
    refine hcskip <| hthen <| hseq <| hreg <| hy (fun _ => y_move rfl) <| hy (fun _ => y_move rfl) <| ?_
    refine hx (xh_call rfl Tryd.call80 (fileC hi) [] rfl [] rfl ?_)
    rintro _ _ _ ⟨rfl, rfl, rfl⟩
    refine hx (xh_call rfl Tryd.call65 (dreadC hD (p := (nSlot i))) [2] rfl [] rfl ?_)
    rintro _ _ _ ⟨v, rfl, rfl, rfl⟩
    refine hfactL (fun m => (m.own 1 rfl).slice) ?_
    rintro ⟨A_x, c_x, rfl, hc_x⟩
    refine hfactL (fun m => (m.ord 1 rfl).2.1) fun hA_x => ?_
    refine hy (fun _ => y_move rfl) <| hy (fun _ => y_extract rfl rfl) <| hy (fun _ => y_extract rfl rfl) <| hy (fun _ => y_assign rfl) <| hy (fun _ => y_assign rfl) <| hend <| hsub (ρ' := [(10, _), (9, _), (17, _), (8, _), (7, _), (6, _), (4, _), (0, _), (1, _), (2, _)]) ⟨rfl, rfl, rfl, rfl, rfl, rfl, rfl, rfl, rfl, rfl, trivial⟩ <| hmemQ (X' := [_, _, _, _]) (S' := [_]) (fun _ m => m) <| hthen <| hseq <| hseq <| hreg <| hy (fun _ => y_move rfl) <| hy (fun _ => y_neq rfl rfl) <| hend <| hsub (ρ' := [(26, _), (10, _), (9, _), (17, _), (8, _), (7, _), (6, _), (4, _), (0, _), (1, _), (2, _)]) ⟨rfl, rfl, rfl, rfl, rfl, rfl, rfl, rfl, rfl, rfl, rfl, trivial⟩ <| hthen <| ?_
    refine hif rfl (fun h1 => ?_) (fun h1 => ?_)
    · rw [show d.imageS s i = ([], d.readE (nSlot i)) by rw [RD.imageS, if_neg hf', if_pos h1]]
      refine hseq <| hreg <| hy (fun _ => y_move rfl) <| hy (fun _ => y_assign rfl) <| hy (fun _ => y_assign rfl) <| hend <| hsub (ρ' := [(7, _), (6, _), (26, _), (10, _), (9, _), (17, _), (8, _), (4, _), (0, _), (1, _), (2, _)]) ⟨rfl, rfl, rfl, rfl, rfl, rfl, rfl, rfl, rfl, rfl, rfl, trivial⟩ <| hthen <| hret <| hthen_ret <| ?_
      refine hmemQ (fun w m => m.addX (r' := ROwn 5 1 (.slice none 0 0) 0 []) (.refl _ _) (Own.nil _ _ _ _) (fun k hk => hk.elim)) ?_
      exact hret2 trivial rfl rfl rfl [1, 0] rfl [] rfl ⟨_, rfl, rfl, rfl⟩
    · refine hcskip <| hthen <| hseq <| hseq <| hdrw [7] [(0, some 0), (1, some 0), (2, some 0), (3, some 0), (4, some 0), (5, some 0), (6, some 0), (8, some 1), (9, some 1), (7, none), (10, some 1), (11, some 1)] (by kernel_rfl) (by kernel_rfl) rfl 99 <| htyU (y_move rfl) <| htyU (y_lenS rfl Tryd.underlying32) <| htyU (y_fld rfl fa36_2 (by decide)) <| hty (fun m => y_ld1 rfl ag3 ((m.blk 2 rfl).cells0 33 _ (sl33 hs))) <| htyU (y_neq rfl rfl) <| htyU (y_move rfl) <| ?_
      refine htsplit 33 rfl (fun hz => ?_) (fun hz => ?_)
      · rw [show d.imageS s i = ([], 7) by rw [RD.imageS, if_neg hf', if_neg h1, if_pos (.inl hz)]]
        refine htskip rfl rfl rfl (by decide) <| htskip rfl rfl rfl (by decide) <| htskip rfl rfl rfl (by decide) <| htskipx rfl rfl rfl (by decide) (fun _ => wk [0, 0, 0, 0] [0] rfl rfl) <| htskip rfl rfl rfl (by decide) <| htyU (y_pickT rfl rfl) <| htend <| hsub (ρ' := [(39, _), (26, _), (10, _), (9, _), (17, _), (8, _), (7, _), (6, _), (4, _), (0, _), (1, _), (2, _)]) ⟨rfl, rfl, rfl, rfl, rfl, rfl, rfl, rfl, rfl, rfl, rfl, rfl, trivial⟩ <| hthen <| ?_
        refine hift rfl (rfl) ?_
        refine hseq <| hreg <| hy (fun _ => y_assign rfl) <| hy (fun _ => y_assign rfl) <| hend <| hthen <| hret <| hthen_ret <| ?_
        refine hmemQ (fun w m => m.addX (r' := ROwn 5 1 (.slice none 0 0) 0 []) (.refl _ _) (Own.nil _ _ _ _) (fun k hk => hk.elim)) ?_
        exact hret2 trivial rfl rfl rfl [1, 0] rfl [] rfl ⟨_, rfl, rfl, rfl⟩
      · refine htyUg (o := _) rfl rfl rfl (y_move rfl) <| htyUg (o := _) rfl rfl rfl (y_fld rfl fa36_1 (by decide)) <| htyg (o := _) rfl rfl rfl (fun m => yV (y_ldN rfl ag23 sz23 (by rw [b8s_length, hs.len]) (fun j u hu => by rw [add_add]; exact (m.blk 2 rfl).cells0 (1 + j) u (sl_im hu))) ((rfl : _ = Value.agg (b8s (s.at i).image).toArray))) <| ?_
        refine htxg (o := _) rfl rfl rfl (xh_calll rfl Tryd.call82 (shaSumC (by omega)) [] rfl (.x 1 rfl .own (.s 0 rfl .nil)) ?_)
        rintro _ _ _ ⟨rfl, rfl, rfl⟩
        refine ⟨rfl, ?_⟩
        refine ⟨(fun _ => wk [0, 0, 0, 0] [0] rfl rfl), ?_⟩
        refine htyUg (o := _) rfl rfl rfl (y_neD23 rfl rfl (shaL_length _) hs.len) <| htyU (y_pickF rfl rfl) <| htend <| hsub (ρ' := [(39, _), (26, _), (10, _), (9, _), (17, _), (8, _), (7, _), (6, _), (4, _), (0, _), (1, _), (2, _)]) ⟨rfl, rfl, rfl, rfl, rfl, rfl, rfl, rfl, rfl, rfl, rfl, rfl, trivial⟩ <| hmemQ (X' := [_, _, _, _]) (S' := [_]) (fun _ m => m) <| hthen <| ?_
        refine hif rfl (fun hy2 => ?_) (fun hy2 => ?_)
        · rw [show d.imageS s i = ([], 7) by rw [RD.imageS, if_neg hf', if_neg h1, if_pos (.inr hy2)]]
          refine hseq <| hreg <| hy (fun _ => y_assign rfl) <| hy (fun _ => y_assign rfl) <| hend <| hthen <| hret <| hthen_ret <| ?_
          refine hmemQ (fun w m => m.addX (r' := ROwn 5 1 (.slice none 0 0) 0 []) (.refl _ _) (Own.nil _ _ _ _) (fun k hk => hk.elim)) ?_
          exact hret2 trivial rfl rfl rfl [1, 0] rfl [] rfl ⟨_, rfl, rfl, rfl⟩
        · rw [show d.imageS s i = (d.readB (nSlot i), 0) by rw [RD.imageS, if_neg hf', if_neg h1, if_neg (fun h => h.elim hz hy2)]]
          refine hcskip <| hthen <| hseq <| hreg <| hy (fun _ => y_move rfl) <| hy (fun _ => y_assign rfl) <| hy (fun _ => y_assign rfl) <| hend <| hsub (ρ' := [(7, _), (6, _), (39, _), (26, _), (10, _), (9, _), (17, _), (8, _), (4, _), (0, _), (1, _), (2, _)]) ⟨rfl, rfl, rfl, rfl, rfl, rfl, rfl, rfl, rfl, rfl, rfl, rfl, trivial⟩ <| hthen <| hret <| ?_
          exact hret2 trivial rfl rfl rfl [0, 0] rfl [] rfl ⟨_, rfl, rfl, rfl⟩
theorem activeSC {g : Nat} {st : DSt} {d : RD} {kk : Nat} (hD : DS st d kk) : Con Tryd.prog 30 [.pointer (some ⟨g, 0, none⟩)] [RDisk g st] [RRoots] (fun v_ X_ S_ => ∃ v, v_ = (.tuple #[v, .int .i64 d.activeS.2]) ∧ X_ = [RDisk g st, ROwn 5 1 v d.activeS.1.length (b8s d.activeS.1)] ∧ S_ = []) := by
  have hw := d.loadS_wf
  refine henter (N := 21) Tryd.func30 rfl rfl (by simp) fun b => ?_
  refine hseq <| hreg <| hy (fun _ => y_assign rfl) <| hy (fun _ => y_assign rfl) <| hend <| hthen <| hseq <| hreg <| hy (fun _ => y_move rfl) <| ?_
  refine hx (xh_call rfl Tryd.call77 (loadSC hD) [0] rfl [] rfl ?_)
  rintro _ _ _ ⟨rfl, rfl, rfl⟩
  refine hy (fun _ => y_move rfl) <| hy (fun _ => y_extract rfl rfl) <| hy (fun _ => y_extract rfl rfl) <| ?_
  refine hx (xh_alloc ti39 (fun g4 => ?_))
  refine hx0 (xh_stA 0 rfl rfl rfl sz39 (Sup.cs_len hw) Sup.cs_one rfl ?_)
  refine hy (fun _ => y_assign rfl) <| hend <| hsub (ρ' := [(5, _), (4, _), (3, _), (2, _), (0, _)]) ⟨rfl, rfl, rfl, rfl, rfl, trivial⟩ <| hmemQ (X' := [_, _]) (S' := [_]) (fun _ m => m) <| hthen <| hseq <| hseq <| hreg <| hy (fun _ => y_move rfl) <| hy (fun _ => y_neq rfl rfl) <| hend <| hsub (ρ' := [(12, _), (5, _), (4, _), (3, _), (2, _), (0, _)]) ⟨rfl, rfl, rfl, rfl, rfl, rfl, trivial⟩ <| hthen <| ?_
  refine hif rfl (fun h1 => ?_) (fun h1 => ?_)
  · rw [show d.activeS = ([], d.loadS.2) by rw [RD.activeS, if_pos h1]]
    refine hseq <| hreg <| hy (fun _ => y_move rfl) <| hy (fun _ => y_assign rfl) <| hy (fun _ => y_assign rfl) <| hend <| hsub (ρ' := [(3, _), (2, _), (12, _), (5, _), (4, _), (0, _)]) ⟨rfl, rfl, rfl, rfl, rfl, rfl, trivial⟩ <| hthen <| hret <| hthen_ret <| ?_
    refine hmemQ (fun w m => m.addX (r' := ROwn 5 1 (.slice none 0 0) 0 []) (.refl _ _) (Own.nil _ _ _ _) (fun k hk => hk.elim)) ?_
    exact hret2 trivial rfl rfl rfl [2, 0] rfl [] rfl ⟨_, rfl, rfl, rfl⟩
  · rw [show d.activeS = d.imageS d.loadS.1 d.loadS.1.active.toNat by rw [RD.activeS, if_neg h1]]
    obtain ⟨_, _, ha, ha2⟩ := Sup.may_other (RD.loadS_may (Decidable.not_not.1 h1))
    refine hcskip <| hthen <| hseq <| hreg <| hy (fun _ => y_move rfl) <| hy (fun m => yV (y_ldN rfl ag39 sz39 (Sup.cs_len hw) ((m.blk 0 rfl).cells0)) ((rfl : _ = Value.agg d.loadS.1.cs.toArray))) <| hy (fun _ => y_fld rfl fa39_0 (by decide)) <| hy (fun m => yV (y_ld1 rfl ag3 ((m.blk 0 rfl).cells0 0 _ sup0)) ((show Value.int .i64 d.loadS.1.active = .int .i64 (d.loadS.1.active.toNat : Nat) by rw [← ha]))) <| ?_
    refine hx (xh_call rfl Tryd.call86 (imageSC hw ha2 hD) [1] rfl [0] rfl ?_)
    rintro _ _ _ ⟨v, rfl, rfl, rfl⟩
    refine hfactL (fun m => (m.own 1 rfl).slice) ?_
    rintro ⟨A_x, c_x, rfl, hc_x⟩
    refine hfactL (fun m => (m.ord 1 rfl).2.1) fun hA_x => ?_
    refine hy (fun _ => y_extract rfl rfl) <| hy (fun _ => y_extract rfl rfl) <| hy (fun _ => y_assign rfl) <| hy (fun _ => y_assign rfl) <| hend <| hsub (ρ' := [(3, _), (2, _), (12, _), (5, _), (4, _), (0, _)]) ⟨rfl, rfl, rfl, rfl, rfl, rfl, trivial⟩ <| hmemQ (X' := [_, _, _]) (S' := [_]) (fun _ m => m) <| hthen <| hret <| ?_
    exact hret2 trivial rfl rfl rfl [0, 0] rfl [] rfl ⟨_, rfl, rfl, rfl⟩
end Go.Proofs.YtfikjheicjamhaaDoor
end
section
/- Contracts: Stage, Flip, Back, by the program (layer 22). -/
set_option linter.unusedVariables false
set_option linter.unusedSimpArgs false
set_option maxRecDepth 20000
namespace Go.Proofs.YtfikjheicjamhaaDoor
open Go.Eng Go.Hx
theorem sup_put {s : Sup} (h : s.wf) {i : Nat} (hi : i < 2) {x : Sl} (hx : x.wf) : splice s.cs (2 + i * 34) x.cs = (s.put i x).cs := by
  have h0 := Sl.cs_len h.w0
  have h1 := Sl.cs_len h.w1
  have h2 := Sl.cs_len hx
  match i, hi with
  | 0, _ =>
    have e1 : s.cs = [Value.int .i64 s.active, .int .i64 s.gen] ++ s.s0.cs ++ s.s1.cs := rfl
    have e2 : (s.put 0 x).cs = [Value.int .i64 s.active, .int .i64 s.gen] ++ x.cs ++ s.s1.cs := rfl
    rw [e1, e2]
    exact splice_app rfl (by rw [h2, h0])
  | 1, _ =>
    have e1 : s.cs = ([Value.int .i64 s.active, .int .i64 s.gen] ++ s.s0.cs) ++ s.s1.cs ++ [] := by rw [List.append_nil]; rfl
    have e2 : (s.put 1 x).cs = ([Value.int .i64 s.active, .int .i64 s.gen] ++ s.s0.cs) ++ x.cs ++ [] := by rw [List.append_nil]; rfl
    rw [e1, e2]
    exact splice_app (by rw [List.length_append, h0]; rfl) (by rw [h2, h1])
theorem turned_wf {s : Sup} (h : s.wf) (ha : s.active = 0 ∨ s.active = 1) (hg : s.gen < 2147483647) : s.turned.wf := by
  have := h.g0
  exact ⟨by show _ ≤ 1 - s.active; omega, by show 1 - s.active ≤ _; omega, by show _ ≤ s.gen + 1; omega, by show s.gen + 1 ≤ _; omega, h.w0, h.w1⟩
theorem turnSC {g : Nat} {st : DSt} {d : RD} {kk : Nat} {s : Sup} (h : s.wf) (ha : s.active = 0 ∨ s.active = 1) (hD : DS st d kk) (hkk : kk ≤ 90000) : Con Tryd.prog 83 [.pointer (some ⟨g, 0, none⟩), .agg s.cs.toArray] [RDisk g st] [] (fun v_ X_ S_ => ∃ st1, v_ = (.tuple #[.int .i64 (d.turnS s).2.1, .int .i64 (d.turnS s).2.2]) ∧ X_ = [RDisk g st1] ∧ S_ = [] ∧ (DS st1 (d.turnS s).1 (kk + 2))) := by
  have hg0 := h.g0
  have hg1 := h.g1
  refine henter (N := 26) Tryd.func83 rfl rfl (by simp) fun b => ?_
  refine hseq <| hreg <| ?_
  refine hx (xh_box rfl (fun g3 => ?_))
  refine hmemL (fun w m => m.eqX 0 rfl (show _ = RBlk g3 39 s.cs from congrArg (RBlk _ _) (cells_agg _))) ?_
  refine hy (fun _ => y_assign rfl) <| hy (fun _ => y_assign rfl) <| hend <| hmemQ (X' := [_, _]) (S' := []) (fun _ m => m) <| hthen <| hseq <| hseq <| hreg <| hy (fun _ => y_fld rfl fa39_1 (by decide)) <| hy (fun m => y_ld1 rfl ag3 ((m.blk 0 rfl).cells0 1 _ sup1)) <| hy (fun _ => y_geq rfl rfl) <| hend <| hsub (ρ' := [(9, _), (5, _), (4, _), (3, _), (0, _), (1, _)]) ⟨rfl, rfl, rfl, rfl, rfl, rfl, trivial⟩ <| hthen <| ?_
  refine hif rfl (fun hg => ?_) (fun hg => ?_)
  · rw [show d.turnS s = (d, 0, 5) by rw [RD.turnS, if_pos hg]]
    refine hseq <| hreg <| hy (fun _ => y_assign rfl) <| hy (fun _ => y_assign rfl) <| hend <| hthen <| hret <| hthen_ret <| ?_
    exact hret2 trivial rfl rfl rfl [1] rfl [] rfl ⟨st, rfl, rfl, rfl, hD.le (by omega)⟩
  · have hw := turned_wf h ha (by omega)
    refine hcskip <| hthen <| hseq <| hreg <| hy (fun _ => y_fld rfl fa39_0 (by decide)) <| hy (fun m => y_ld1 rfl ag3 ((m.blk 0 rfl).cells0 0 _ sup0)) <| hy (fun _ => y_sub rfl rfl (w64 (by omega) (by omega))) <| hy (fun _ => y_fld rfl fa39_0 (by decide)) <| ?_
    refine hx0 (xh_st1a 0 rfl rfl rfl sz3 rfl (by first | exact Nat.le_of_ble_eq_true rfl | simp) ?_)
    refine hend <| hsub (ρ' := [(9, _), (5, _), (4, _), (3, _), (0, _), (1, _)]) ⟨rfl, rfl, rfl, rfl, rfl, rfl, trivial⟩ <| hmemQ (X' := [_, _]) (S' := []) (fun _ m => m) <| hthen <| hseq <| hreg <| hy (fun _ => y_fld rfl fa39_1 (by decide)) <| hy (fun m => y_ld1 rfl ag3 ((m.blk 0 rfl).cells0 1 _ rfl)) <| hy (fun _ => y_add rfl rfl (w64 (by omega) (by omega))) <| hy (fun _ => y_fld rfl fa39_1 (by decide)) <| ?_
    refine hx0 (xh_st1a 0 rfl rfl rfl sz3 rfl (by first | exact Nat.le_of_ble_eq_true rfl | simp) ?_)
    refine hend <| hsub (ρ' := [(9, _), (5, _), (4, _), (3, _), (0, _), (1, _)]) ⟨rfl, rfl, rfl, rfl, rfl, rfl, trivial⟩ <| hmemQ (X' := [_, _]) (S' := []) (fun _ m => m) <| hthen <| hseq <| hseq <| hreg <| hy (fun _ => y_move rfl) <| ?_
    refine hmemL (fun w m => m.eqX 0 rfl (show _ = RBlk g3 39 s.turned.cs from rfl)) ?_
    refine hy (fun m => yV (y_ldN rfl ag39 sz39 (Sup.cs_len hw) ((m.blk 0 rfl).cells0)) ((rfl : _ = Value.agg s.turned.cs.toArray))) <| ?_
    refine hx (xh_call rfl Tryd.call78 (saveSC hw hD hkk) [1] rfl [] rfl ?_)
    rintro _ _ _ ⟨st1, rfl, rfl, rfl, h2⟩
    refine hy (fun _ => y_assign rfl) <| hend <| hsub (ρ' := [(6, _), (9, _), (5, _), (4, _), (3, _), (0, _), (1, _)]) ⟨rfl, rfl, rfl, rfl, rfl, rfl, rfl, trivial⟩ <| hmemQ (X' := [_, _]) (S' := []) (fun _ m => m) <| hthen <| hseq <| hreg <| hy (fun _ => y_move rfl) <| hy (fun _ => y_neq rfl rfl) <| hend <| hsub (ρ' := [(22, _), (6, _), (9, _), (5, _), (4, _), (3, _), (0, _), (1, _)]) ⟨rfl, rfl, rfl, rfl, rfl, rfl, rfl, rfl, trivial⟩ <| hthen <| ?_
    refine hif rfl (fun h3 => ?_) (fun h3 => ?_)
    · rw [show d.turnS s = ((d.saveSup s.turned).1, 0, (d.saveSup s.turned).2) by rw [RD.turnS, if_neg hg]; exact if_pos h3]
      refine hseq <| hreg <| hy (fun _ => y_move rfl) <| hy (fun _ => y_assign rfl) <| hy (fun _ => y_assign rfl) <| hend <| hsub (ρ' := [(5, _), (4, _), (22, _), (6, _), (9, _), (3, _), (0, _), (1, _)]) ⟨rfl, rfl, rfl, rfl, rfl, rfl, rfl, rfl, trivial⟩ <| hthen <| hret <| hthen_ret <| ?_
      exact hret2 trivial rfl rfl rfl [0] rfl [] rfl ⟨st1, rfl, rfl, rfl, h2⟩
    · rw [show d.turnS s = ((d.saveSup s.turned).1, s.gen + 1, 0) by rw [RD.turnS, if_neg hg]; exact if_neg h3]
      refine hcskip <| hthen <| hseq <| hreg <| hy (fun _ => y_fld rfl fa39_1 (by decide)) <| hy (fun m => y_ld1 rfl ag3 ((m.blk 1 rfl).cells0 1 _ sup1)) <| hy (fun _ => y_assign rfl) <| hy (fun _ => y_assign rfl) <| hend <| hsub (ρ' := [(5, _), (4, _), (22, _), (6, _), (9, _), (3, _), (0, _), (1, _)]) ⟨rfl, rfl, rfl, rfl, rfl, rfl, rfl, rfl, trivial⟩ <| hthen <| hret <| ?_
      exact hret2 trivial rfl rfl rfl [0] rfl [] rfl ⟨st1, rfl, rfl, rfl, h2⟩
theorem backSC {g : Nat} {st : DSt} {d : RD} {kk : Nat} (hD : DS st d kk) (hkk : kk ≤ 90000) : Con Tryd.prog 31 [.pointer (some ⟨g, 0, none⟩)] [RDisk g st] [RRoots] (fun v_ X_ S_ => ∃ st1, v_ = (.tuple #[.int .i64 d.backS.2.1, .int .i64 d.backS.2.2]) ∧ X_ = [RDisk g st1] ∧ S_ = [] ∧ (DS st1 d.backS.1 (kk + 2))) := by
  have hw := d.loadS_wf
  refine henter (N := 33) Tryd.func31 rfl rfl (by simp) fun b => ?_
  refine hseq <| hreg <| hy (fun _ => y_assign rfl) <| hy (fun _ => y_assign rfl) <| hend <| hthen <| hseq <| hreg <| hy (fun _ => y_move rfl) <| ?_
  refine hx (xh_call rfl Tryd.call77 (loadSC hD) [0] rfl [] rfl ?_)
  rintro _ _ _ ⟨rfl, rfl, rfl⟩
  refine hy (fun _ => y_move rfl) <| hy (fun _ => y_extract rfl rfl) <| hy (fun _ => y_extract rfl rfl) <| ?_
  refine hx (xh_alloc ti39 (fun g4 => ?_))
  refine hx0 (xh_stA 0 rfl rfl rfl sz39 (Sup.cs_len hw) Sup.cs_one rfl ?_)
  refine hy (fun _ => y_assign rfl) <| hend <| hsub (ρ' := [(5, _), (4, _), (3, _), (2, _), (0, _)]) ⟨rfl, rfl, rfl, rfl, rfl, trivial⟩ <| hmemQ (X' := [_, _]) (S' := [_]) (fun _ m => m) <| hthen <| hseq <| hseq <| hreg <| hy (fun _ => y_move rfl) <| hy (fun _ => y_neq rfl rfl) <| hend <| hsub (ρ' := [(14, _), (5, _), (4, _), (3, _), (2, _), (0, _)]) ⟨rfl, rfl, rfl, rfl, rfl, rfl, trivial⟩ <| hthen <| ?_
  refine hif rfl (fun h1 => ?_) (fun h1 => ?_)
  · rw [show d.backS = (d, 0, d.loadS.2) by rw [RD.backS, if_pos h1]]
    refine hseq <| hreg <| hy (fun _ => y_move rfl) <| hy (fun _ => y_assign rfl) <| hy (fun _ => y_assign rfl) <| hend <| hsub (ρ' := [(3, _), (2, _), (14, _), (5, _), (4, _), (0, _)]) ⟨rfl, rfl, rfl, rfl, rfl, rfl, trivial⟩ <| hthen <| hret <| hthen_ret <| ?_
    exact hret2 trivial rfl rfl rfl [1] rfl [] rfl ⟨st, rfl, rfl, rfl, hD.le (by omega)⟩
  · have hm := RD.loadS_may (Decidable.not_not.1 h1)
    obtain ⟨ho, ho2, ha, ha2⟩ := Sup.may_other hm
    have ha3 := hm.1
    refine hcskip <| hthen <| hseq <| hseq <| hreg <| hy (fun _ => y_move rfl) <| hy (fun m => yV (y_ldN rfl ag39 sz39 (Sup.cs_len hw) ((m.blk 0 rfl).cells0)) ((rfl : _ = Value.agg d.loadS.1.cs.toArray))) <| hy (fun _ => y_fld rfl fa39_0 (by decide)) <| hy (fun m => y_ld1 rfl ag3 ((m.blk 0 rfl).cells0 0 _ sup0)) <| hy (fun _ => yV (y_sub rfl rfl (w64 (by omega) (by omega))) ((show Value.int .i64 (1 - d.loadS.1.active) = .int .i64 (d.loadS.1.other : Nat) by rw [ho2]))) <| ?_
    refine hx (xh_call rfl Tryd.call86 (imageSC hw ho hD) [1] rfl [0] rfl ?_)
    rintro _ _ _ ⟨v, rfl, rfl, rfl⟩
    refine hfactL (fun m => (m.own 1 rfl).slice) ?_
    rintro ⟨A_x, c_x, rfl, hc_x⟩
    refine hfactL (fun m => (m.ord 1 rfl).2.1) fun hA_x => ?_
    refine hy (fun _ => y_move rfl) <| hy (fun _ => y_extract rfl rfl) <| hy (fun _ => y_extract rfl rfl) <| hy (fun _ => y_assign rfl) <| hy (fun _ => y_assign rfl) <| hend <| hsub (ρ' := [(7, _), (14, _), (5, _), (4, _), (3, _), (2, _), (0, _)]) ⟨rfl, rfl, rfl, rfl, rfl, rfl, rfl, trivial⟩ <| hmemQ (X' := [_, _, _]) (S' := [_]) (fun _ m => m) <| hthen <| hseq <| hreg <| hy (fun _ => y_move rfl) <| hy (fun _ => y_neq rfl rfl) <| hend <| hsub (ρ' := [(26, _), (7, _), (14, _), (5, _), (4, _), (3, _), (2, _), (0, _)]) ⟨rfl, rfl, rfl, rfl, rfl, rfl, rfl, rfl, trivial⟩ <| hthen <| ?_
    refine hif rfl (fun h2 => ?_) (fun h2 => ?_)
    · rw [show d.backS = (d, 0, (d.imageS d.loadS.1 d.loadS.1.other).2) by rw [RD.backS, if_neg h1]; exact if_pos h2]
      refine hseq <| hreg <| hy (fun _ => y_move rfl) <| hy (fun _ => y_assign rfl) <| hy (fun _ => y_assign rfl) <| hend <| hsub (ρ' := [(3, _), (2, _), (26, _), (7, _), (14, _), (5, _), (4, _), (0, _)]) ⟨rfl, rfl, rfl, rfl, rfl, rfl, rfl, rfl, trivial⟩ <| hthen <| hret <| hthen_ret <| ?_
      exact hret2 trivial rfl rfl rfl [0] rfl [] rfl ⟨st, rfl, rfl, rfl, hD.le (by omega)⟩
    · rw [show d.backS = d.turnS d.loadS.1 by rw [RD.backS, if_neg h1]; exact if_neg h2]
      refine hcskip <| hthen <| hseq <| hreg <| hy (fun _ => y_move rfl) <| hy (fun m => yV (y_ldN rfl ag39 sz39 (Sup.cs_len hw) ((m.blk 2 rfl).cells0)) ((rfl : _ = Value.agg d.loadS.1.cs.toArray))) <| ?_
      refine hx (xh_call rfl Tryd.call83 (turnSC hw ha3 hD hkk) [0] rfl [] rfl ?_)
      rintro _ _ _ ⟨st1, rfl, rfl, rfl, h3⟩
      refine hy (fun _ => y_extract rfl rfl) <| hy (fun _ => y_extract rfl rfl) <| hy (fun _ => y_assign rfl) <| hy (fun _ => y_assign rfl) <| hend <| hsub (ρ' := [(3, _), (2, _), (26, _), (7, _), (14, _), (5, _), (4, _), (0, _)]) ⟨rfl, rfl, rfl, rfl, rfl, rfl, rfl, rfl, trivial⟩ <| hmemQ (X' := [_, _, _]) (S' := [_]) (fun _ m => m) <| hthen <| hret <| ?_
      exact hret2 trivial rfl rfl rfl [0] rfl [] rfl ⟨st1, rfl, rfl, rfl, h3⟩
end Go.Proofs.YtfikjheicjamhaaDoor
end
section
/- Contracts: Stage and Flip, by the program (layer 22). -/
set_option linter.unusedVariables false
set_option linter.unusedSimpArgs false
set_option maxRecDepth 20000
namespace Go.Proofs.YtfikjheicjamhaaDoor
open Go.Eng Go.Hx
theorem sl_len2 {x : Sl} (h : x.wf) : x.cs.length = 34 := Sl.cs_len h
theorem flipSC {g : Nat} {st : DSt} {d : RD} {kk : Nat} {im : List UInt8} (hi : im.length = 32) (hD : DS st d kk) (hkk : kk ≤ 90000) : Con Tryd.prog 28 [.pointer (some ⟨g, 0, none⟩), .agg (b8s im).toArray] [RDisk g st] [RRoots] (fun v_ X_ S_ => ∃ st1, v_ = (.tuple #[.int .i64 (d.flipS im).2.1, .int .i64 (d.flipS im).2.2]) ∧ X_ = [RDisk g st1] ∧ S_ = [] ∧ (DS st1 (d.flipS im).1 (kk + 2))) := by
  have hw := d.loadS_wf
  refine henter (N := 53) Tryd.func28 rfl rfl (by simp) fun b => ?_
  refine hseq <| hreg <| ?_
  refine hx (xh_box rfl (fun g3 => ?_))
  refine hmemL (fun w m => m.eqX 0 rfl (show _ = RBlk g3 23 (b8s im) from congrArg (RBlk _ _) (cells_agg _))) ?_
  refine hy (fun _ => y_assign rfl) <| hy (fun _ => y_assign rfl) <| hend <| hmemQ (X' := [_, _]) (S' := [_]) (fun _ m => m) <| hthen <| hseq <| hreg <| hy (fun _ => y_move rfl) <| ?_
  refine hx (xh_call rfl Tryd.call77 (loadSC hD) [1] rfl [] rfl ?_)
  rintro _ _ _ ⟨rfl, rfl, rfl⟩
  refine hy (fun _ => y_move rfl) <| hy (fun _ => y_extract rfl rfl) <| hy (fun _ => y_extract rfl rfl) <| ?_
  refine hx (xh_alloc ti39 (fun g6 => ?_))
  refine hx0 (xh_stA 0 rfl rfl rfl sz39 (Sup.cs_len hw) Sup.cs_one rfl ?_)
  refine hy (fun _ => y_assign rfl) <| hend <| hsub (ρ' := [(7, _), (6, _), (5, _), (4, _), (3, _), (0, _), (1, _)]) ⟨rfl, rfl, rfl, rfl, rfl, rfl, rfl, trivial⟩ <| hmemQ (X' := [_, _, _]) (S' := [_]) (fun _ m => m) <| hthen <| hseq <| hseq <| hreg <| hy (fun _ => y_move rfl) <| hy (fun _ => y_neq rfl rfl) <| hend <| hsub (ρ' := [(16, _), (7, _), (6, _), (5, _), (4, _), (3, _), (0, _), (1, _)]) ⟨rfl, rfl, rfl, rfl, rfl, rfl, rfl, rfl, trivial⟩ <| hthen <| ?_
  refine hif rfl (fun h1 => ?_) (fun h1 => ?_)
  · rw [show d.flipS im = (d, 0, d.loadS.2) by rw [RD.flipS, if_pos h1]]
    refine hseq <| hreg <| hy (fun _ => y_move rfl) <| hy (fun _ => y_assign rfl) <| hy (fun _ => y_assign rfl) <| hend <| hsub (ρ' := [(5, _), (4, _), (16, _), (7, _), (6, _), (3, _), (0, _), (1, _)]) ⟨rfl, rfl, rfl, rfl, rfl, rfl, rfl, rfl, trivial⟩ <| hthen <| hret <| hthen_ret <| ?_
    exact hret2 trivial rfl rfl rfl [1] rfl [] rfl ⟨st, rfl, rfl, rfl, hD.le (by omega)⟩
  · have hm := RD.loadS_may (Decidable.not_not.1 h1)
    obtain ⟨ho, ho2, ha, ha2⟩ := Sup.may_other hm
    have ha3 := hm.1
    have hlen := hD.rd_len (nSlot d.loadS.1.other)
    refine hcskip <| hthen <| hseq <| hreg <| hy (fun _ => y_fld rfl fa39_0 (by decide)) <| hy (fun m => y_ld1 rfl ag3 ((m.blk 0 rfl).cells0 0 _ sup0)) <| hy (fun _ => yV (y_sub rfl rfl (w64 (by omega) (by omega))) ((show Value.int .i64 (1 - d.loadS.1.active) = .int .i64 (d.loadS.1.other : Nat) by rw [ho2]))) <| hy (fun _ => y_assign rfl) <| hend <| hsub (ρ' := [(8, _), (16, _), (7, _), (6, _), (5, _), (4, _), (3, _), (0, _), (1, _)]) ⟨rfl, rfl, rfl, rfl, rfl, rfl, rfl, rfl, rfl, trivial⟩ <| hthen <| hseq <| hreg <| hy (fun _ => y_move rfl) <| hy (fun _ => y_move rfl) <| ?_
    refine hx (xh_call rfl Tryd.call80 (fileC ho) [] rfl [] rfl ?_)
    rintro _ _ _ ⟨rfl, rfl, rfl⟩
    refine hx (xh_call rfl Tryd.call65 (dreadC hD (p := (nSlot d.loadS.1.other))) [1] rfl [] rfl ?_)
    rintro _ _ _ ⟨v, rfl, rfl, rfl⟩
    refine hfactL (fun m => (m.own 1 rfl).slice) ?_
    rintro ⟨A_x, c_x, rfl, hc_x⟩
    refine hfactL (fun m => (m.ord 1 rfl).2.1) fun hA_x => ?_
    refine hy (fun _ => y_move rfl) <| hy (fun _ => y_extract rfl rfl) <| hy (fun _ => y_extract rfl rfl) <| hy (fun _ => y_assign rfl) <| hy (fun _ => y_assign rfl) <| hend <| hsub (ρ' := [(7, _), (9, _), (8, _), (16, _), (6, _), (5, _), (4, _), (3, _), (0, _), (1, _)]) ⟨rfl, rfl, rfl, rfl, rfl, rfl, rfl, rfl, rfl, rfl, trivial⟩ <| hmemQ (X' := [_, _, _, _]) (S' := [_]) (fun _ m => m) <| hthen <| hseq <| hblock <| hseq <| hreg <| hy (fun _ => y_move rfl) <| hy (fun _ => y_neq rfl rfl) <| hy (fun _ => y_assign rfl) <| hend <| hsub (ρ' := [(28, _), (7, _), (9, _), (8, _), (16, _), (6, _), (5, _), (4, _), (3, _), (0, _), (1, _)]) ⟨rfl, rfl, rfl, rfl, rfl, rfl, rfl, rfl, rfl, rfl, rfl, trivial⟩ <| hthen <| ?_
    generalize hse : d.loadS.1 = s at hw hm ho ho2 ha ha2 ha3 hlen ⊢
    generalize hie : s.other = i at ho ho2 hlen ⊢
    refine hif rfl (fun h2 => ?_) (fun h2 => ?_)
    · rw [show d.flipS im = (d, 0, d.readE (nSlot i)) by rw [← hie, ← hse, RD.flipS, if_neg h1]; exact if_pos (by rw [hse, hie]; exact h2)]
      refine hseq <| hreg <| hy (fun _ => y_move rfl) <| hy (fun _ => y_assign rfl) <| hy (fun _ => y_assign rfl) <| hend <| hsub (ρ' := [(5, _), (4, _), (28, _), (7, _), (9, _), (8, _), (16, _), (6, _), (3, _), (0, _), (1, _)]) ⟨rfl, rfl, rfl, rfl, rfl, rfl, rfl, rfl, rfl, rfl, rfl, trivial⟩ <| hthen <| hret <| hqblock_ret <| hthen_ret <| ?_
      exact hret2 trivial rfl rfl rfl [0] rfl [] rfl ⟨st, rfl, rfl, rfl, hD.le (by omega)⟩
    · refine hseq <| hreg <| hy (fun _ => y_move rfl) <| hy (fun _ => y_lenS rfl Tryd.underlying32) <| hy (fun _ => y_gtr rfl rfl) <| hy (fun _ => y_assign rfl) <| hend <| hsub (ρ' := [(32, _), (28, _), (7, _), (9, _), (8, _), (16, _), (6, _), (5, _), (4, _), (3, _), (0, _), (1, _)]) ⟨rfl, rfl, rfl, rfl, rfl, rfl, rfl, rfl, rfl, rfl, rfl, rfl, trivial⟩ <| hthen <| ?_
      refine hif rfl (fun h3 => ?_) (fun h3 => ?_)
      · rw [show d.flipS im = (d, 0, 3) by rw [RD.flipS, if_neg h1]; simp only [hse, hie]; rw [if_neg h2]; exact if_pos (by omega)]
        refine hseq <| hreg <| hy (fun _ => y_assign rfl) <| hy (fun _ => y_assign rfl) <| hend <| hthen <| hret <| hqblock_ret <| hthen_ret <| ?_
        exact hret2 trivial rfl rfl rfl [0] rfl [] rfl ⟨st, rfl, rfl, rfl, hD.le (by omega)⟩
      · refine hseq <| hdrw [1] [(0, some 0), (2, some 1), (1, none), (3, some 1), (4, some 1)] (by kernel_rfl) (by kernel_rfl) rfl 99 <| htyU (y_move rfl) <| hty (fun m => yV (y_ldN rfl ag23 sz23 (by rw [b8s_length, hi]) ((m.blk 3 rfl).cells0)) ((rfl : _ = Value.agg (b8s im).toArray))) <| ?_
        refine htx (xh_calll rfl Tryd.call82 (shaSumC (by omega)) [] rfl (.x 1 rfl .own (.s 0 rfl .nil)) ?_)
        rintro _ _ _ ⟨rfl, rfl, rfl⟩
        refine ⟨rfl, ?_⟩
        refine ⟨(fun _ => wk [0, 0, 0, 0] [0] rfl rfl), ?_⟩
        refine htyU (y_neD23 rfl rfl (shaL_length _) hi) <| htyU (y_assign rfl) <| htend <| hsub (ρ' := [(36, _), (32, _), (28, _), (7, _), (9, _), (8, _), (16, _), (6, _), (5, _), (4, _), (3, _), (0, _), (1, _)]) ⟨rfl, rfl, rfl, rfl, rfl, rfl, rfl, rfl, rfl, rfl, rfl, rfl, rfl, trivial⟩ <| hmemQ (X' := [_, _, _, _]) (S' := [_]) (fun _ m => m) <| hthen <| ?_
        refine hif rfl (fun h4 => ?_) (fun h4 => ?_)
        · rw [show d.flipS im = (d, 0, 7) by rw [RD.flipS, if_neg h1]; simp only [hse, hie]; rw [if_neg h2, if_neg (by omega)]; exact if_pos h4]
          refine hseq <| hreg <| hy (fun _ => y_assign rfl) <| hy (fun _ => y_assign rfl) <| hend <| hthen <| hret <| hqblock_ret <| hthen_ret <| ?_
          exact hret2 trivial rfl rfl rfl [0] rfl [] rfl ⟨st, rfl, rfl, rfl, hD.le (by omega)⟩
        · generalize hq : d.readB (nSlot i) = q at *
          rw [show d.flipS im = d.turnS (s.put i ⟨true, im, (q.length : Int)⟩) by rw [RD.flipS, if_neg h1]; simp only [hse, hie, hq]; rw [if_neg h2, if_neg (by omega)]; exact if_neg h4]
          have hxw : (Sl.mk true im (q.length : Int)).wf := ⟨hi, by show _ ≤ ((q.length : Nat) : Int); omega, by show ((q.length : Nat) : Int) ≤ _; omega⟩
          have hpw : (s.put i ⟨true, im, (q.length : Int)⟩).wf := Sup.put_wf hw hxw
          have hpa : (s.put i ⟨true, im, (q.length : Int)⟩).active = 0 ∨ (s.put i ⟨true, im, (q.length : Int)⟩).active = 1 := by unfold Sup.put; split <;> exact ha3
          refine hcskip <| hqblock <| hthen <| hseq <| hreg <| hy (fun _ => y_move rfl) <| hy (fun m => yV (y_ldN rfl ag23 sz23 (by rw [b8s_length, hi]) ((m.blk 3 rfl).cells0)) ((rfl : _ = Value.agg (b8s im).toArray))) <| hy (fun _ => y_move rfl) <| hy (fun _ => y_lenS rfl Tryd.underlying32) <| hy (fun _ => y_build ti36 rfl rfl (by kernel_rfl) (bld_sl (x := ⟨true, im, (q.length : Int)⟩) hi rfl pl36_0 pl36_1 pl36_2)) <| hy (fun _ => y_fld rfl fa39_2 (by decide)) <| hy (fun _ => y_idxA rfl rfl Tryd.underlying37 sz36 (show ((i : Nat) : Int) = _ by omega) (by omega)) <| ?_
          refine hx0 (xh_stNa 2 rfl rfl rfl sz36 (Sl.cs_len hxw) Sl.cs_one (by rw [Sup.cs_len hw]; dsimp only; omega) ?_)
          refine hmemL (fun w m => m.eqX 0 rfl (show _ = RBlk g6 39 (s.put i ⟨true, im, (q.length : Int)⟩).cs from by rw [sup_put hw ho hxw])) ?_
          refine hend <| hsub (ρ' := [(36, _), (32, _), (28, _), (7, _), (9, _), (8, _), (16, _), (6, _), (5, _), (4, _), (3, _), (0, _), (1, _)]) ⟨rfl, rfl, rfl, rfl, rfl, rfl, rfl, rfl, rfl, rfl, rfl, rfl, rfl, trivial⟩ <| hmemQ (X' := [_, _, _, _]) (S' := [_]) (fun _ m => m) <| hthen <| hseq <| hreg <| hy (fun _ => y_move rfl) <| hy (fun m => yV (y_ldN rfl ag39 sz39 (Sup.cs_len hpw) ((m.blk 0 rfl).cells0)) ((rfl : _ = Value.agg (s.put i ⟨true, im, (q.length : Int)⟩).cs.toArray))) <| ?_
          refine hx (xh_call rfl Tryd.call83 (turnSC hpw hpa hD hkk) [1] rfl [] rfl ?_)
          rintro _ _ _ ⟨st1, rfl, rfl, rfl, h5⟩
          refine hy (fun _ => y_extract rfl rfl) <| hy (fun _ => y_extract rfl rfl) <| hy (fun _ => y_assign rfl) <| hy (fun _ => y_assign rfl) <| hend <| hsub (ρ' := [(5, _), (4, _), (36, _), (32, _), (28, _), (7, _), (9, _), (8, _), (16, _), (6, _), (3, _), (0, _), (1, _)]) ⟨rfl, rfl, rfl, rfl, rfl, rfl, rfl, rfl, rfl, rfl, rfl, rfl, rfl, trivial⟩ <| hmemQ (X' := [_, _, _, _]) (S' := [_]) (fun _ m => m) <| hthen <| hret <| ?_
          exact hret2 trivial rfl rfl rfl [0] rfl [] rfl ⟨st1, rfl, rfl, rfl, h5⟩
end Go.Proofs.YtfikjheicjamhaaDoor
end
section
/- Contract: Stage, by the program (layer 22). -/
set_option linter.unusedVariables false
set_option linter.unusedSimpArgs false
set_option maxRecDepth 20000
namespace Go.Proofs.YtfikjheicjamhaaDoor
open Go.Eng Go.Hx
/-- the second half of Stage -/
def RD.stage2 (d : RD) (i : Nat) (bb : List UInt8) : RD × Int × Int :=
  if d.writeE (nSlot i) bb ≠ 0 then (d, 0, d.writeE (nSlot i) bb) else
  if (d.write (nSlot i) bb).syncE ≠ 0 then (d.write (nSlot i) bb, 0, (d.write (nSlot i) bb).syncE) else ((d.write (nSlot i) bb).sync, (i : Int), 0)
theorem stage_full {d : RD} {bb : List UInt8} (h0 : ¬ 65536 < bb.length) (h1 : ¬ d.loadS.2 ≠ 0) (hf : (d.loadS.1.at d.loadS.1.other).full = true) :
    d.stageS bb = if (d.saveSup (d.loadS.1.put d.loadS.1.other Sl.zero)).2 ≠ 0 then ((d.saveSup (d.loadS.1.put d.loadS.1.other Sl.zero)).1, 0, (d.saveSup (d.loadS.1.put d.loadS.1.other Sl.zero)).2) else (d.saveSup (d.loadS.1.put d.loadS.1.other Sl.zero)).1.stage2 d.loadS.1.other bb := by
  rw [RD.stageS, if_neg h0, if_neg h1]
  simp only [hf, if_true]
  rfl
theorem stage_free {d : RD} {bb : List UInt8} (h0 : ¬ 65536 < bb.length) (h1 : ¬ d.loadS.2 ≠ 0) (hf : (d.loadS.1.at d.loadS.1.other).full = false) : d.stageS bb = d.stage2 d.loadS.1.other bb := by
  rw [RD.stageS, if_neg h0, if_neg h1]
  simp only [hf, Bool.false_eq_true, if_false]
  rfl
theorem ds_nowrite {st : DSt} {d : RD} {k : Nat} {p l : List UInt8} (h : DS st (d.write p l) k) (he : d.writeE p l ≠ 0) : DS st d k := by
  rwa [RD.write, if_neg he] at h
theorem ds_nosync {st : DSt} {d : RD} {k : Nat} (h : DS st d.sync k) (he : d.syncE ≠ 0) : DS st d k := by
  have h10 : d.pw = 0 := by
    unfold RD.syncE at he
    split at he
    · assumption
    · exact absurd rfl he
  rwa [RD.sync, if_pos h10] at h
theorem stageSC {g : Nat} {st : DSt} {d : RD} {kk : Nat} {A : Option Addr} {n c : Nat} {bb : List UInt8} (hl : bb.length = n) (hD : DS st d kk) (hkk : kk ≤ 90000) : Con Tryd.prog 27 [.pointer (some ⟨g, 0, none⟩), .slice A n c] [RDisk g st] [RRd 1 A n (b8s bb)] (fun v_ X_ S_ => ∃ st1, v_ = (.tuple #[.int .i64 (d.stageS bb).2.1, .int .i64 (d.stageS bb).2.2]) ∧ X_ = [RDisk g st1] ∧ S_ = [] ∧ (DS st1 (d.stageS bb).1 (kk + 3))) := by
  have hw := d.loadS_wf
  refine henter (N := 55) Tryd.func27 rfl rfl (by simp) fun b => ?_
  refine hfactC (fun m => rdB (m.rd 0 rfl)) ?_
  rintro ⟨hl_r, hA_r⟩
  refine hseq <| hreg <| hy (fun _ => y_assign rfl) <| hy (fun _ => y_assign rfl) <| hend <| hthen <| hseq <| hseq <| hreg <| hy (fun _ => y_move rfl) <| hy (fun _ => y_lenS rfl Tryd.underlying32) <| hy (fun _ => y_gtr rfl rfl) <| hend <| hsub (ρ' := [(14, _), (5, _), (4, _), (0, _), (1, _)]) ⟨rfl, rfl, rfl, rfl, rfl, trivial⟩ <| hthen <| ?_
  refine hif rfl (fun h0 => ?_) (fun h0 => ?_)
  · rw [show d.stageS bb = (d, 0, 3) by rw [RD.stageS, if_pos (by omega)]]
    refine hseq <| hreg <| hy (fun _ => y_assign rfl) <| hy (fun _ => y_assign rfl) <| hend <| hthen <| hret <| hthen_ret <| ?_
    exact hret2 trivial rfl rfl rfl [0] rfl [] rfl ⟨st, rfl, rfl, rfl, hD.le (by omega)⟩
  · have h0' : ¬ 65536 < bb.length := by omega
    refine hcskip <| hthen <| hseq <| hreg <| hy (fun _ => y_move rfl) <| ?_
    refine hx (xh_call rfl Tryd.call77 (loadSC hD) [0] rfl [] rfl ?_)
    rintro _ _ _ ⟨rfl, rfl, rfl⟩
    refine hy (fun _ => y_move rfl) <| hy (fun _ => y_extract rfl rfl) <| hy (fun _ => y_extract rfl rfl) <| ?_
    refine hx (xh_alloc ti39 (fun g6 => ?_))
    refine hx0 (xh_stA 0 rfl rfl rfl sz39 (Sup.cs_len hw) Sup.cs_one rfl ?_)
    refine hy (fun _ => y_assign rfl) <| hend <| hsub (ρ' := [(7, _), (6, _), (14, _), (5, _), (4, _), (0, _), (1, _)]) ⟨rfl, rfl, rfl, rfl, rfl, rfl, rfl, trivial⟩ <| hmemQ (X' := [_, _]) (S' := [_]) (fun _ m => m) <| hthen <| hseq <| hseq <| hreg <| hy (fun _ => y_move rfl) <| hy (fun _ => y_neq rfl rfl) <| hend <| hsub (ρ' := [(21, _), (7, _), (6, _), (14, _), (5, _), (4, _), (0, _), (1, _)]) ⟨rfl, rfl, rfl, rfl, rfl, rfl, rfl, rfl, trivial⟩ <| hthen <| ?_
    refine hif rfl (fun h1 => ?_) (fun h1 => ?_)
    · rw [show d.stageS bb = (d, 0, d.loadS.2) by rw [RD.stageS, if_neg h0', if_pos h1]]
      refine hseq <| hreg <| hy (fun _ => y_move rfl) <| hy (fun _ => y_assign rfl) <| hy (fun _ => y_assign rfl) <| hend <| hsub (ρ' := [(5, _), (4, _), (21, _), (7, _), (6, _), (14, _), (0, _), (1, _)]) ⟨rfl, rfl, rfl, rfl, rfl, rfl, rfl, rfl, trivial⟩ <| hthen <| hret <| hthen_ret <| ?_
      exact hret2 trivial rfl rfl rfl [1] rfl [] rfl ⟨st, rfl, rfl, rfl, hD.le (by omega)⟩
    · have hm := RD.loadS_may (Decidable.not_not.1 h1)
      obtain ⟨ho, ho2, ha, ha2⟩ := Sup.may_other hm
      have hfull := @stage_full d bb h0' h1
      have hfree := @stage_free d bb h0' h1
      generalize d.loadS.1 = s at hw hm ho ho2 ha ha2 hfull hfree ⊢
      have ho3 : Value.int .i64 (1 - s.active) = .int .i64 (s.other : Nat) := by rw [ho2]
      generalize s.other = i at ho ho2 ho3 hfull hfree ⊢
      refine hcskip <| hthen <| hseq <| hreg <| hy (fun _ => y_fld rfl fa39_0 (by decide)) <| hy (fun m => y_ld1 rfl ag3 ((m.blk 0 rfl).cells0 0 _ sup0)) <| hy (fun _ => yV (y_sub rfl rfl (w64 (by omega) (by omega))) (ho3)) <| hy (fun _ => y_assign rfl) <| hend <| hsub (ρ' := [(8, _), (21, _), (7, _), (6, _), (14, _), (5, _), (4, _), (0, _), (1, _)]) ⟨rfl, rfl, rfl, rfl, rfl, rfl, rfl, rfl, rfl, trivial⟩ <| hthen <| hseq <| hseq <| hreg <| hy (fun _ => y_move rfl) <| hy (fun _ => y_fld rfl fa39_2 (by decide)) <| hy (fun _ => y_idxA rfl rfl Tryd.underlying37 sz36 (show ((i : Nat) : Int) = _ by omega) (by omega)) <| hy (fun _ => y_fld rfl fa36_0 (by decide)) <| hy (fun m => y_ld1 rfl ag4 (by rw [add_add, add_add]; exact (m.blk 0 rfl).cells0 (2 + i * 34 + 0) _ (sup_at hw ho sl0))) <| hend <| hsub (ρ' := [(30, _), (8, _), (21, _), (7, _), (6, _), (14, _), (5, _), (4, _), (0, _), (1, _)]) ⟨rfl, rfl, rfl, rfl, rfl, rfl, rfl, rfl, rfl, rfl, trivial⟩ <| hthen <| ?_
      refine hifb rfl (fun hf => ?_) (fun hf => ?_)
      · have hzw : (s.put i Sl.zero).wf := Sup.put_wf hw Sl.zero_wf
        have hS := hfull hf
        refine hseq <| hreg <| hy (fun _ => y_move rfl) <| hy (fun _ => yV (y_build0 ti36 rfl (by kernel_rfl)) ((rfl : _ = Value.agg Sl.zero.cs.toArray))) <| hy (fun _ => y_fld rfl fa39_2 (by decide)) <| hy (fun _ => y_idxA rfl rfl Tryd.underlying37 sz36 (show ((i : Nat) : Int) = _ by omega) (by omega)) <| ?_
        refine hx0 (xh_stNa 0 rfl rfl rfl sz36 (Sl.cs_len Sl.zero_wf) Sl.cs_one (by rw [Sup.cs_len hw]; dsimp only; omega) ?_)
        refine hmemL (fun w m => m.eqX 0 rfl (show _ = RBlk g6 39 (s.put i Sl.zero).cs from by rw [sup_put hw ho Sl.zero_wf])) ?_
        refine hend <| hsub (ρ' := [(30, _), (8, _), (21, _), (7, _), (6, _), (14, _), (5, _), (4, _), (0, _), (1, _)]) ⟨rfl, rfl, rfl, rfl, rfl, rfl, rfl, rfl, rfl, rfl, trivial⟩ <| hmemQ (X' := [_, _]) (S' := [_]) (fun _ m => m) <| hthen <| hseq <| hreg <| hy (fun _ => y_move rfl) <| hy (fun m => yV (y_ldN rfl ag39 sz39 (Sup.cs_len hzw) ((m.blk 0 rfl).cells0)) ((rfl : _ = Value.agg (s.put i Sl.zero).cs.toArray))) <| ?_
        refine hx (xh_call rfl Tryd.call78 (saveSC hzw hD hkk) [1] rfl [] rfl ?_)
        rintro _ _ _ ⟨st1, rfl, rfl, rfl, h2⟩
        refine hy (fun _ => y_assign rfl) <| hend <| hsub (ρ' := [(9, _), (30, _), (8, _), (21, _), (7, _), (6, _), (14, _), (5, _), (4, _), (0, _), (1, _)]) ⟨rfl, rfl, rfl, rfl, rfl, rfl, rfl, rfl, rfl, rfl, rfl, trivial⟩ <| hmemQ (X' := [_, _]) (S' := [_]) (fun _ m => m) <| hthen <| hseq <| hreg <| hy (fun _ => y_move rfl) <| hy (fun _ => y_neq rfl rfl) <| hend <| hsub (ρ' := [(39, _), (9, _), (30, _), (8, _), (21, _), (7, _), (6, _), (14, _), (5, _), (4, _), (0, _), (1, _)]) ⟨rfl, rfl, rfl, rfl, rfl, rfl, rfl, rfl, rfl, rfl, rfl, rfl, trivial⟩ <| hthen <| ?_
        refine hif rfl (fun h3 => ?_) (fun h3 => ?_)
        · rw [hS, if_pos h3]
          refine hseq <| hreg <| hy (fun _ => y_move rfl) <| hy (fun _ => y_assign rfl) <| hy (fun _ => y_assign rfl) <| hend <| hsub (ρ' := [(5, _), (4, _), (39, _), (9, _), (30, _), (8, _), (21, _), (7, _), (6, _), (14, _), (0, _), (1, _)]) ⟨rfl, rfl, rfl, rfl, rfl, rfl, rfl, rfl, rfl, rfl, rfl, rfl, trivial⟩ <| hthen <| hret <| hthen_ret <| ?_
          exact hret2 trivial rfl rfl rfl [0] rfl [] rfl ⟨st1, rfl, rfl, rfl, h2.le (by omega)⟩
        · rw [if_neg h3] at hS
          refine hcskip <| hthen <| hseq <| hseq <| hreg <| hy (fun _ => y_move rfl) <| hy (fun _ => y_move rfl) <| ?_
          refine hx (xh_call rfl Tryd.call80 (fileC ho) [] rfl [] rfl ?_)
          rintro _ _ _ ⟨rfl, rfl, rfl⟩
          refine hy (fun _ => y_move rfl) <| ?_
          refine hx (xh_call rfl Tryd.call79 (dwriteC h2 (by omega) hl (by omega) (p := (nSlot i)) (l := bb)) [0] rfl [0] rfl ?_)
          rintro _ _ _ ⟨st12, rfl, rfl, rfl, w1⟩
          refine hy (fun _ => y_assign rfl) <| hend <| hsub (ρ' := [(10, _), (39, _), (9, _), (30, _), (8, _), (21, _), (7, _), (6, _), (14, _), (5, _), (4, _), (0, _), (1, _)]) ⟨rfl, rfl, rfl, rfl, rfl, rfl, rfl, rfl, rfl, rfl, rfl, rfl, rfl, trivial⟩ <| hmemQ (X' := [_, _]) (S' := [_]) (fun _ m => m) <| hthen <| hseq <| hreg <| hy (fun _ => y_move rfl) <| hy (fun _ => y_neq rfl rfl) <| hend <| hsub (ρ' := [(47, _), (10, _), (39, _), (9, _), (30, _), (8, _), (21, _), (7, _), (6, _), (14, _), (5, _), (4, _), (0, _), (1, _)]) ⟨rfl, rfl, rfl, rfl, rfl, rfl, rfl, rfl, rfl, rfl, rfl, rfl, rfl, rfl, trivial⟩ <| hthen <| ?_
          refine hif rfl (fun xa => ?_) (fun xa => ?_)
          · rw [hS, RD.stage2, if_pos xa]
            have w2 := (ds_nowrite w1 xa).le (show kk + 2 + 1 ≤ kk + 3 by omega)
            refine hseq <| hreg <| hy (fun _ => y_move rfl) <| hy (fun _ => y_assign rfl) <| hy (fun _ => y_assign rfl) <| hend <| hsub (ρ' := [(5, _), (4, _), (47, _), (10, _), (39, _), (9, _), (30, _), (8, _), (21, _), (7, _), (6, _), (14, _), (0, _), (1, _)]) ⟨rfl, rfl, rfl, rfl, rfl, rfl, rfl, rfl, rfl, rfl, rfl, rfl, rfl, rfl, trivial⟩ <| hthen <| hret <| hthen_ret <| ?_
            exact hret2 trivial rfl rfl rfl [0] rfl [] rfl ⟨_, rfl, rfl, rfl, w2⟩
          · refine hcskip <| hthen <| hseq <| hseq <| hreg <| hy (fun _ => y_move rfl) <| ?_
            refine hx (xh_call rfl Tryd.call81 (dsyncC w1) [0] rfl [] rfl ?_)
            rintro _ _ _ ⟨st13, rfl, rfl, rfl, w2⟩
            refine hy (fun _ => y_assign rfl) <| hend <| hsub (ρ' := [(11, _), (47, _), (10, _), (39, _), (9, _), (30, _), (8, _), (21, _), (7, _), (6, _), (14, _), (5, _), (4, _), (0, _), (1, _)]) ⟨rfl, rfl, rfl, rfl, rfl, rfl, rfl, rfl, rfl, rfl, rfl, rfl, rfl, rfl, rfl, trivial⟩ <| hmemQ (X' := [_, _]) (S' := [_]) (fun _ m => m) <| hthen <| hseq <| hreg <| hy (fun _ => y_move rfl) <| hy (fun _ => y_neq rfl rfl) <| hend <| hsub (ρ' := [(52, _), (11, _), (47, _), (10, _), (39, _), (9, _), (30, _), (8, _), (21, _), (7, _), (6, _), (14, _), (5, _), (4, _), (0, _), (1, _)]) ⟨rfl, rfl, rfl, rfl, rfl, rfl, rfl, rfl, rfl, rfl, rfl, rfl, rfl, rfl, rfl, rfl, trivial⟩ <| hthen <| ?_
            refine hif rfl (fun xb => ?_) (fun xb => ?_)
            · rw [hS, RD.stage2, if_neg xa, if_pos xb]
              have w3 := (ds_nosync w2 xb).le (show kk + 2 + 1 ≤ kk + 3 by omega)
              refine hseq <| hreg <| hy (fun _ => y_move rfl) <| hy (fun _ => y_assign rfl) <| hy (fun _ => y_assign rfl) <| hend <| hsub (ρ' := [(5, _), (4, _), (52, _), (11, _), (47, _), (10, _), (39, _), (9, _), (30, _), (8, _), (21, _), (7, _), (6, _), (14, _), (0, _), (1, _)]) ⟨rfl, rfl, rfl, rfl, rfl, rfl, rfl, rfl, rfl, rfl, rfl, rfl, rfl, rfl, rfl, rfl, trivial⟩ <| hthen <| hret <| hthen_ret <| ?_
              exact hret2 trivial rfl rfl rfl [0] rfl [] rfl ⟨_, rfl, rfl, rfl, w3⟩
            · rw [hS, RD.stage2, if_neg xa, if_neg xb]
              refine hcskip <| hthen <| hseq <| hreg <| hy (fun _ => y_move rfl) <| hy (fun _ => y_assign rfl) <| hy (fun _ => y_assign rfl) <| hend <| hsub (ρ' := [(5, _), (4, _), (52, _), (11, _), (47, _), (10, _), (39, _), (9, _), (30, _), (8, _), (21, _), (7, _), (6, _), (14, _), (0, _), (1, _)]) ⟨rfl, rfl, rfl, rfl, rfl, rfl, rfl, rfl, rfl, rfl, rfl, rfl, rfl, rfl, rfl, rfl, trivial⟩ <| hthen <| hret <| ?_
              exact hret2 trivial rfl rfl rfl [0] rfl [] rfl ⟨_, rfl, rfl, rfl, w2.le (show kk + 2 + 1 ≤ kk + 3 by omega)⟩
      · have hS := hfree hf
        refine hcskip <| hthen <| hseq <| hseq <| hreg <| hy (fun _ => y_move rfl) <| hy (fun _ => y_move rfl) <| ?_
        refine hx (xh_call rfl Tryd.call80 (fileC ho) [] rfl [] rfl ?_)
        rintro _ _ _ ⟨rfl, rfl, rfl⟩
        refine hy (fun _ => y_move rfl) <| ?_
        refine hx (xh_call rfl Tryd.call79 (dwriteC (hD.le (show kk ≤ kk + 2 by omega)) (by omega) hl (by omega) (p := (nSlot i)) (l := bb)) [1] rfl [0] rfl ?_)
        rintro _ _ _ ⟨st1, rfl, rfl, rfl, w1⟩
        refine hy (fun _ => y_assign rfl) <| hend <| hsub (ρ' := [(10, _), (30, _), (8, _), (21, _), (7, _), (6, _), (14, _), (5, _), (4, _), (0, _), (1, _)]) ⟨rfl, rfl, rfl, rfl, rfl, rfl, rfl, rfl, rfl, rfl, rfl, trivial⟩ <| hmemQ (X' := [_, _]) (S' := [_]) (fun _ m => m) <| hthen <| hseq <| hreg <| hy (fun _ => y_move rfl) <| hy (fun _ => y_neq rfl rfl) <| hend <| hsub (ρ' := [(47, _), (10, _), (30, _), (8, _), (21, _), (7, _), (6, _), (14, _), (5, _), (4, _), (0, _), (1, _)]) ⟨rfl, rfl, rfl, rfl, rfl, rfl, rfl, rfl, rfl, rfl, rfl, rfl, trivial⟩ <| hthen <| ?_
        refine hif rfl (fun ya => ?_) (fun ya => ?_)
        · rw [hS, RD.stage2, if_pos ya]
          have w2 := (ds_nowrite w1 ya).le (show kk + 2 + 1 ≤ kk + 3 by omega)
          refine hseq <| hreg <| hy (fun _ => y_move rfl) <| hy (fun _ => y_assign rfl) <| hy (fun _ => y_assign rfl) <| hend <| hsub (ρ' := [(5, _), (4, _), (47, _), (10, _), (30, _), (8, _), (21, _), (7, _), (6, _), (14, _), (0, _), (1, _)]) ⟨rfl, rfl, rfl, rfl, rfl, rfl, rfl, rfl, rfl, rfl, rfl, rfl, trivial⟩ <| hthen <| hret <| hthen_ret <| ?_
          exact hret2 trivial rfl rfl rfl [0] rfl [] rfl ⟨_, rfl, rfl, rfl, w2⟩
        · refine hcskip <| hthen <| hseq <| hseq <| hreg <| hy (fun _ => y_move rfl) <| ?_
          refine hx (xh_call rfl Tryd.call81 (dsyncC w1) [0] rfl [] rfl ?_)
          rintro _ _ _ ⟨st12, rfl, rfl, rfl, w2⟩
          refine hy (fun _ => y_assign rfl) <| hend <| hsub (ρ' := [(11, _), (47, _), (10, _), (30, _), (8, _), (21, _), (7, _), (6, _), (14, _), (5, _), (4, _), (0, _), (1, _)]) ⟨rfl, rfl, rfl, rfl, rfl, rfl, rfl, rfl, rfl, rfl, rfl, rfl, rfl, trivial⟩ <| hmemQ (X' := [_, _]) (S' := [_]) (fun _ m => m) <| hthen <| hseq <| hreg <| hy (fun _ => y_move rfl) <| hy (fun _ => y_neq rfl rfl) <| hend <| hsub (ρ' := [(52, _), (11, _), (47, _), (10, _), (30, _), (8, _), (21, _), (7, _), (6, _), (14, _), (5, _), (4, _), (0, _), (1, _)]) ⟨rfl, rfl, rfl, rfl, rfl, rfl, rfl, rfl, rfl, rfl, rfl, rfl, rfl, rfl, trivial⟩ <| hthen <| ?_
          refine hif rfl (fun yb => ?_) (fun yb => ?_)
          · rw [hS, RD.stage2, if_neg ya, if_pos yb]
            have w3 := (ds_nosync w2 yb).le (show kk + 2 + 1 ≤ kk + 3 by omega)
            refine hseq <| hreg <| hy (fun _ => y_move rfl) <| hy (fun _ => y_assign rfl) <| hy (fun _ => y_assign rfl) <| hend <| hsub (ρ' := [(5, _), (4, _), (52, _), (11, _), (47, _), (10, _), (30, _), (8, _), (21, _), (7, _), (6, _), (14, _), (0, _), (1, _)]) ⟨rfl, rfl, rfl, rfl, rfl, rfl, rfl, rfl, rfl, rfl, rfl, rfl, rfl, rfl, trivial⟩ <| hthen <| hret <| hthen_ret <| ?_
            exact hret2 trivial rfl rfl rfl [0] rfl [] rfl ⟨_, rfl, rfl, rfl, w3⟩
          · rw [hS, RD.stage2, if_neg ya, if_neg yb]
            refine hcskip <| hthen <| hseq <| hreg <| hy (fun _ => y_move rfl) <| hy (fun _ => y_assign rfl) <| hy (fun _ => y_assign rfl) <| hend <| hsub (ρ' := [(5, _), (4, _), (52, _), (11, _), (47, _), (10, _), (30, _), (8, _), (21, _), (7, _), (6, _), (14, _), (0, _), (1, _)]) ⟨rfl, rfl, rfl, rfl, rfl, rfl, rfl, rfl, rfl, rfl, rfl, rfl, rfl, rfl, trivial⟩ <| hthen <| hret <| ?_
            exact hret2 trivial rfl rfl rfl [0] rfl [] rfl ⟨_, rfl, rfl, rfl, w2.le (show kk + 2 + 1 ≤ kk + 3 by omega)⟩
end Go.Proofs.YtfikjheicjamhaaDoor
end
