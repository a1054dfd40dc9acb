/- What the claim leans on, part 4. -/
import Derived.Test.YtfikjheicjamhaaGreatDoorSCR3
import Derived.Test.YtfikjheicjamhaaGreatDoorProg
import Derived.Shelf.Sort.Plain
import Derived.Shelf.Lay
import Derived.Sort.OwnSorted
section
/- Contracts: frames (layer 6): what gives a frame up, and what recovers it. -/
set_option linter.unusedVariables false
set_option linter.unusedSimpArgs false
set_option maxRecDepth 20000
set_option maxHeartbeats 2000000
namespace Go.Proofs.YtfikjheicjamhaaGreatDoor
open Go.Eng Go.Hx
theorem one1 {v : Value} (h : v.oneCell' = true := by rfl) : ∀ u ∈ [v], u.oneCell' = true := fun u hu => by rw [List.mem_singleton.1 hu]; exact h
theorem mustE {q : Bool} {e : Int} : ConE Tryz.prog 153 [.bool q, .int .i64 e] [] [] (fun v_ X_ S_ => v_ = (.tuple #[]) ∧ X_ = [] ∧ S_ = [] ∧ (q = true)) (fun v_ X_ S_ => v_ = (.iface 223 (.agg #[.int .i64 e])) ∧ X_ = [] ∧ S_ = [] ∧ (q = false)) := by
  refine henterE (N := 9) Tryz.func153 rfl rfl (by simp) fun b => ?_
  refine hseq <| hreg <| hy (fun _ => y_move rfl) <| hy (fun _ => (y_not rfl)) <| hend <| hsub (ρ' := [(5, _), (0, _), (1, _)]) ⟨rfl, rfl, rfl, trivial⟩ <| hthen <| ?_
  refine hifb rfl (fun hq => ?_) (fun hq => ?_)
  · refine hreg <| hy (fun _ => y_move rfl) <| hy (fun _ => y_build ti223 rfl rfl (by kernel_rfl) (.cons (o := 0) (sz := 1) (by kernel_rfl) rfl rfl (Nat.le_of_ble_eq_true rfl) .nil)) <| hy (fun _ => y_mki rfl Tryz.underlying223 (fun _ h => by cases h)) <| ?_
    refine hx0 (xh_panic rfl ?_)
    exact hpanE [] rfl [] rfl ⟨rfl, rfl, rfl, (by simpa using hq)⟩
  · refine hcskip <| ?_
    refine hretE ?_
    exact hret0 trivial rfl [] rfl [] rfl ⟨rfl, rfl, rfl, (by simpa using hq)⟩
theorem openCatch {g4 g5 : Nat} {v : Value} {e0 e : Int} : ConD Tryz.prog 151 [.pointer (some ⟨g4, 0, none⟩), .pointer (some ⟨g5, 0, none⟩)] (.panicking (pan (.iface 223 (.agg #[.int .i64 e])))) [RBlk g4 27 [v], RBlk g5 39 [.int .i64 e0]] [] (fun u_ X_ S_ => u_ = .returning ∧ X_ = [RBlk g4 27 [.slice none 0 0], RBlk g5 39 [.int .i64 e]] ∧ S_ = []) := by
  refine henterS (N := 12) Tryz.func151 rfl rfl (by simp) fun b c_0 cs_ hu_ => ?_
  show HSL _ _ _ _ _ [0, 1, 2, 3, 4, 5, 6, 7] _ _ _ _ _
  refine hsl_rec rfl hu_ ?_
  refine hsl_y rfl (fun _ => y_tas rfl (run_tasS Tryz.underlying223)) <| hsl_y rfl (fun _ => y_move rfl) <| hsl_y rfl (fun _ => y_extract rfl rfl) <| hsl_y rfl (fun _ => y_extract rfl rfl) <| ?_
  refine hsl_x rfl (xh_alloc ti223 (fun g2 => ?_))
  refine hsl_x0 rfl (xh_stA 0 rfl rfl rfl sz223 rfl one1 rfl ?_)
  refine hslmem (fun w m => m.eqX 0 rfl (show _ = RBlk g2 223 [.int .i64 e] from rfl)) ?_
  refine hsl_y rfl (fun _ => y_assign rfl) <| hsl_done <| hmemC (X' := [_, _, _]) (S' := []) (fun _ m => m) <| hseq <| hreg <| hy (fun _ => y_move rfl) <| hend <| hsub (ρ' := [(9, _), (3, _), (2, _), (0, _), (1, _)]) ⟨rfl, rfl, rfl, rfl, rfl, trivial⟩ <| hthen <| ?_
  refine hift rfl (rfl) ?_
  refine hdrwB [0] [] rfl rfl [2, 3] [(0, some 1), (1, some 1), (2, none), (3, none)] (by kernel_rfl) (by kernel_rfl) rfl 99 <| htyU (y_fld rfl fa223_0 (by decide)) <| hty (fun m => y_ld1 rfl ag39 (ld_blk (m.blk 0 rfl) (i := 0) rfl)) <| ?_
  refine htx0 (xh_st1 1 rfl rfl rfl sz27 rfl (by first | exact Nat.le_of_ble_eq_true rfl | simp) ⟨(fun _ => wk [1] [] rfl rfl), ?_⟩)
  refine htx0 (xh_st1 2 rfl rfl rfl sz39 rfl (by first | exact Nat.le_of_ble_eq_true rfl | simp) ⟨(fun _ => wk [2] [] rfl rfl), ?_⟩)
  refine htend <| hsub (ρ' := [(9, _), (3, _), (2, _), (0, _), (1, _)]) ⟨rfl, rfl, rfl, rfl, rfl, trivial⟩ <| hmemQ (X' := [_, _, _]) (S' := []) (fun _ m => m) <| ?_
  exact hret0 trivial rfl [1, 0] rfl [] rfl ⟨rfl, rfl, rfl, rfl⟩
theorem openIdle {g4 g5 : Nat} {v : Value} {e : Int} : ConD Tryz.prog 151 [.pointer (some ⟨g4, 0, none⟩), .pointer (some ⟨g5, 0, none⟩)] .returning [RBlk g4 27 [v], RBlk g5 39 [.int .i64 e]] [] (fun u_ X_ S_ => u_ = .returning ∧ X_ = [RBlk g4 27 [v], RBlk g5 39 [.int .i64 e]] ∧ S_ = []) := by
  refine henterS (N := 12) Tryz.func151 rfl rfl (by simp) fun b c_0 cs_ hu_ => ?_
  show HSL _ _ _ _ _ [0, 1, 2, 3, 4, 5, 6, 7] _ _ _ _ _
  refine hsl_rec0 rfl hu_ ?_
  refine hsl_y rfl (fun _ => y_tas rfl (run_tas0 Tryz.underlying223 ti223)) <| hsl_y rfl (fun _ => y_move rfl) <| hsl_y rfl (fun _ => y_extract rfl rfl) <| hsl_y rfl (fun _ => y_extract rfl rfl) <| ?_
  refine hsl_x rfl (xh_alloc ti223 (fun g2 => ?_))
  refine hsl_x0 rfl (xh_stA 0 rfl rfl rfl sz223 rfl one1 rfl ?_)
  refine hsl_y rfl (fun _ => y_assign rfl) <| hsl_done <| hmemC (X' := [_, _, _]) (S' := []) (fun _ m => m) <| hseq <| hreg <| hy (fun _ => y_move rfl) <| hend <| hsub (ρ' := [(9, _), (3, _), (2, _), (0, _), (1, _)]) ⟨rfl, rfl, rfl, rfl, rfl, trivial⟩ <| hthen <| ?_
  refine hiff rfl (rfl) ?_
  refine hcskip <| ?_
  exact hret0 trivial rfl [1, 1] rfl [] rfl ⟨rfl, rfl, rfl, rfl⟩
end Go.Proofs.YtfikjheicjamhaaGreatDoor
end
section
/- Contracts: lz.token, lz.Unpack (layer 5). -/
set_option linter.unusedVariables false
set_option linter.unusedSimpArgs false
set_option maxRecDepth 20000
set_option maxHeartbeats 2000000
namespace Go.Proofs.YtfikjheicjamhaaGreatDoor
open Go.Eng Go.Hx
theorem tokenC {A : Option Addr} {n c : Nat} {l : List UInt8} (h0 : 0 < n) (hn : n ≤ 140737488351232) : Con Tryz.prog 191 [.slice A n c] [] [RRd 1 A n (b8s l)] (fun v_ X_ S_ => v_ = (.tuple #[.int .i64 ((tokL l).1 : Nat), .int .i64 ((tokL l).2.1 : Nat), .int .i64 ((tokL l).2.2.1 : Nat), .bool (tokL l).2.2.2]) ∧ X_ = [] ∧ S_ = []) := by
  have b0 := (l.getD 0 0).toNat_lt
  have b1 := (l.getD 1 0).toNat_lt
  have b2 := (l.getD 2 0).toNat_lt
  refine henter (N := 39) Tryz.func191 rfl rfl (by simp) fun b => ?_
  refine hfactC (fun m => rdB (m.rd 0 rfl)) ?_
  rintro ⟨hl_r, hA_r⟩
  refine hseq <| hreg <| hy (fun _ => y_assign rfl) <| hy (fun _ => y_assign rfl) <| hy (fun _ => y_assign rfl) <| hy (fun _ => y_assign rfl) <| hend <| hthen <| hseq <| hreg <| hy (fun _ => y_move rfl) <| hy (fun _ => y_idxS1 rfl rfl Tryz.underlying27 sz5 hA_r (show ((0 : Nat) : Int) = 0 from rfl) (by omega)) <| hy (fun m => y_ld1 rfl ag5 ((m.rd 0 rfl).cell (b8s_get (by omega)))) <| hy (fun _ => y_conv rfl Tryz.underlying5 Tryz.underlying3 (w64 (by omega) (by omega))) <| hy (fun _ => y_assign rfl) <| hend <| hsub (ρ' := [(6, _), (5, _), (4, _), (3, _), (2, _), (0, _)]) ⟨rfl, rfl, rfl, rfl, rfl, rfl, trivial⟩ <| hthen <| hseq <| hseq <| hreg <| hy (fun _ => y_move rfl) <| hy (fun _ => y_lss rfl rfl) <| hend <| hsub (ρ' := [(12, _), (6, _), (5, _), (4, _), (3, _), (2, _), (0, _)]) ⟨rfl, rfl, rfl, rfl, rfl, rfl, rfl, trivial⟩ <| hthen <| ?_
  refine hif rfl (fun h1 => ?_) (fun h1 => ?_)
  · have e : tokL l = ((l.getD 0 0).toNat + 2, (l.getD 0 0).toNat + 1, 0, decide ((l.getD 0 0).toNat + 2 ≤ l.length)) := by rw [tokL, if_pos (by omega)]
    rw [e]
    refine hseq <| hreg <| hy (fun _ => y_move rfl) <| hy (fun _ => y_add rfl rfl (w64 (by omega) (by omega))) <| hy (fun _ => y_move rfl) <| hy (fun _ => y_add rfl rfl (w64 (by omega) (by omega))) <| hy (fun _ => y_move rfl) <| hy (fun _ => y_lenS rfl Tryz.underlying27) <| hy (fun _ => y_move rfl) <| hy (fun _ => y_add rfl rfl (w64 (by omega) (by omega))) <| hy (fun _ => yV (y_geq rfl rfl) ((congrArg Value.bool (decide_eq_decide.2 (by omega)) : Value.bool (decide ((n : Int) ≥ ((l.getD 0 0).toNat : Int) + 2)) = .bool (decide ((l.getD 0 0).toNat + 2 ≤ l.length))))) <| hy (fun _ => y_assign rfl) <| hy (fun _ => y_assign rfl) <| hy (fun _ => y_assign rfl) <| hy (fun _ => y_assign rfl) <| hend <| hsub (ρ' := [(5, _), (4, _), (3, _), (2, _), (12, _), (6, _), (0, _)]) ⟨rfl, rfl, rfl, rfl, rfl, rfl, rfl, trivial⟩ <| hthen <| hret <| hthen_ret <| ?_
    exact hret4 trivial rfl rfl rfl rfl rfl [] rfl [] rfl ⟨rfl, rfl, rfl⟩
  · refine hcskip <| hthen <| hseq <| hseq <| hreg <| hy (fun _ => y_move rfl) <| hy (fun _ => y_lenS rfl Tryz.underlying27) <| hy (fun _ => y_lss rfl rfl) <| hend <| hsub (ρ' := [(24, _), (12, _), (6, _), (5, _), (4, _), (3, _), (2, _), (0, _)]) ⟨rfl, rfl, rfl, rfl, rfl, rfl, rfl, rfl, trivial⟩ <| hthen <| ?_
    refine hif rfl (fun h3 => ?_) (fun h3 => ?_)
    · have e : tokL l = (0, 0, 0, false) := by rw [tokL, if_neg (by omega), if_pos (by omega)]
      rw [e]
      refine hseq <| hreg <| hy (fun _ => y_assign rfl) <| hy (fun _ => y_assign rfl) <| hy (fun _ => y_assign rfl) <| hy (fun _ => y_assign rfl) <| hend <| hthen <| hret <| hthen_ret <| ?_
      exact hret4 trivial rfl rfl rfl rfl rfl [] rfl [] rfl ⟨rfl, rfl, rfl⟩
    · have e : tokL l = (3, (l.getD 0 0).toNat - 124, 1 + (l.getD 1 0).toNat + 256 * (l.getD 2 0).toNat, true) := by rw [tokL, if_neg (by omega), if_neg (by omega)]
      rw [e]
      refine hcskip <| hthen <| hseq <| hdrw [] [(0, some 0), (1, some 0), (2, some 0), (3, some 0), (4, some 0), (5, some 0), (6, some 0), (7, some 0), (8, some 0), (9, some 0), (10, some 0), (11, some 0), (12, some 0), (13, some 0), (14, some 0), (15, some 0), (16, some 0), (17, some 0)] (by kernel_rfl) (by kernel_rfl) rfl 99 <| htyU (y_move rfl) <| htyU (y_sub rfl rfl (w64 (by omega) (by omega))) <| htyU (yV (y_add rfl rfl (w64 (by omega) (by omega))) ((show Value.int .i64 (((l.getD 0 0).toNat : Int) - 128 + 4) = .int .i64 (((l.getD 0 0).toNat - 124 : Nat) : Int) by congr 1; omega))) <| htyU (y_move rfl) <| htyU (y_idxS1 rfl rfl Tryz.underlying27 sz5 hA_r (show ((1 : Nat) : Int) = 1 from rfl) (by omega)) <| hty (fun m => y_ld1 rfl ag5 ((m.rd 0 rfl).cell (b8s_get (by omega)))) <| htyU (y_conv rfl Tryz.underlying5 Tryz.underlying3 (w64 (by omega) (by omega))) <| htyU (y_add rfl rfl (w64 (by omega) (by omega))) <| htyU (y_move rfl) <| htyU (y_idxS1 rfl rfl Tryz.underlying27 sz5 hA_r (show ((2 : Nat) : Int) = 2 from rfl) (by omega)) <| hty (fun m => y_ld1 rfl ag5 ((m.rd 0 rfl).cell (b8s_get (by omega)))) <| htyU (y_conv rfl Tryz.underlying5 Tryz.underlying3 (w64 (by omega) (by omega))) <| htyU (y_shl (p := 256) rfl rfl (by decide) (by decide) (by decide) (w64 (by omega) (by omega))) <| htyU (yV (y_add rfl rfl (w64 (by omega) (by omega))) ((show Value.int .i64 (1 + ((l.getD 1 0).toNat : Int) + ((l.getD 2 0).toNat : Int) * 256) = .int .i64 ((1 + (l.getD 1 0).toNat + 256 * (l.getD 2 0).toNat : Nat) : Int) by congr 1; omega))) <| htyU (y_assign rfl) <| htyU (y_assign rfl) <| htyU (y_assign rfl) <| htyU (y_assign rfl) <| htend <| hsub (ρ' := [(5, _), (4, _), (3, _), (2, _), (24, _), (12, _), (6, _), (0, _)]) ⟨rfl, rfl, rfl, rfl, rfl, rfl, rfl, rfl, trivial⟩ <| hthen <| hret <| ?_
      exact hret4 trivial rfl rfl rfl rfl rfl [] rfl [] rfl ⟨rfl, rfl, rfl⟩
theorem unpackC {A : Option Addr} {c : Nat} {l : List UInt8} {z : Int} (hc : l.length ≤ c) (hn : l.length ≤ 10000000) (hz : z ≤ 10000000) : Con Tryz.prog 155 [.slice A l.length c, .int .i64 z] [] [RRd 1 A l.length (b8s l)] (fun v_ X_ S_ => ∃ v, v_ = (.tuple #[v, .int .i64 (unp z l []).2]) ∧ X_ = [ROwn 5 1 v (unp z l []).1.length (b8s (unp z l []).1)] ∧ S_ = []) := by
  refine henter (N := 66) Tryz.func155 rfl rfl (by simp) fun b => ?_
  refine hfactC (fun m => rdB (m.rd 0 rfl)) ?_
  rintro ⟨hl_r, hA_r⟩
  refine hseq <| hreg <| hy (fun _ => y_assign rfl) <| hy (fun _ => y_assign rfl) <| hend <| hthen <| hseq <| hreg <| hy (fun _ => y_assign rfl) <| hend <| hthen <| hseq <| hblock <| ?_
  refine hmemC (fun w m => m.addX (r' := ROwn 5 1 (.slice none 0 0) 0 []) (.refl _ _) (Own.nil _ _ _ _) (fun k hk => hk.elim)) ?_
  refine hloop6 (fun p o A2 c2 A3 c3 => p.length) (fun p o A2 c2 A3 c3 => [(0, .slice A2 p.length c2), (6, .slice A3 o.length c3)]) (fun p o A2 c2 A3 c3 => [ROwn 5 1 (.slice A3 o.length c3) o.length (b8s o)]) (fun p o A2 c2 A3 c3 => [RRd 1 A2 p.length (b8s p)]) (fun p o A2 c2 A3 c3 => p.length ≤ c2 ∧ p.length ≤ 10000000 ∧ o.length ≤ 10000000 ∧ unp z p o = unp z l []) l [] A c none 0 [(1, _)] ⟨rfl, trivial⟩ [0] rfl [0] rfl (⟨hc, hn, by decide, rfl⟩) ⟨rfl, rfl, trivial⟩ (fun p o A2 c2 A3 c3 ⟨hpc, hpn, hon, hU⟩ => ?_)
  refine hseq <| hseq <| hreg <| hy (fun _ => y_move rfl) <| hy (fun _ => y_lenS rfl Tryz.underlying27) <| hy (fun _ => y_gtr rfl rfl) <| hend <| hsub (ρ' := [(14, _), (0, _), (6, _), (1, _)]) ⟨rfl, rfl, rfl, rfl, trivial⟩ <| hthen <| ?_
  refine hif rfl (fun hlt => ?_) (fun hlt => ?_)
  · have hp0 : p ≠ [] := fun e => by rw [e] at hlt; exact absurd hlt (by decide)
    obtain ⟨ht1, ht2⟩ := tokL_n p
    refine hcskip <| hthen <| hblock <| hseq <| hreg <| hy (fun _ => y_move rfl) <| ?_
    refine hx (xh_call rfl Tryz.call191 (tokenC (by omega) (by omega)) [] rfl [0] rfl ?_)
    rintro _ _ _ ⟨rfl, rfl, rfl⟩
    refine hy (fun _ => y_move rfl) <| hy (fun _ => y_extract rfl rfl) <| hy (fun _ => y_extract rfl rfl) <| hy (fun _ => y_extract rfl rfl) <| hy (fun _ => y_extract rfl rfl) <| hy (fun _ => y_assign rfl) <| hy (fun _ => y_assign rfl) <| hy (fun _ => y_assign rfl) <| hy (fun _ => y_assign rfl) <| hend <| hsub (ρ' := [(10, _), (9, _), (8, _), (7, _), (14, _), (0, _), (6, _), (1, _)]) ⟨rfl, rfl, rfl, rfl, rfl, rfl, rfl, rfl, trivial⟩ <| hmemQ (X' := [_]) (S' := [_, _]) (fun _ m => m) <| hthen <| hseq <| hseq <| hreg <| hy (fun _ => y_move rfl) <| hy (fun _ => (y_not rfl)) <| hy (fun _ => y_move rfl) <| ?_
    refine hsplitb 24 rfl (fun hw => ?_) (fun hw => ?_)
    · rw [unp_bad hp0 (fun h => by rw [h.1] at hw; cases hw)] at hU
      rw [← hU]
      refine hskip rfl rfl rfl (by decide) <| hskip rfl rfl rfl (by decide) <| hskip rfl rfl rfl (by decide) <| hskip rfl rfl rfl (by decide) <| hy (fun _ => y_pickT rfl rfl) <| hend <| hsub (ρ' := [(29, _), (10, _), (9, _), (8, _), (7, _), (14, _), (0, _), (6, _), (1, _)]) ⟨rfl, rfl, rfl, rfl, rfl, rfl, rfl, rfl, rfl, trivial⟩ <| hthen <| ?_
      refine hift rfl (rfl) ?_
      refine hseq <| hreg <| hy (fun _ => y_assign rfl) <| hy (fun _ => y_assign rfl) <| hend <| hthen <| hret <| hthen_ret <| hqblock_ret <| hthen_ret <| hqblock_ret <| hthen_ret <| ?_
      refine hmemQ (fun w m => m.addX (r' := ROwn 5 1 (.slice none 0 0) 0 []) (.refl _ _) (Own.nil _ _ _ _) (fun k hk => hk.elim)) ?_
      exact hret2 trivial rfl rfl rfl [0] rfl [] rfl ⟨_, rfl, rfl, rfl⟩
    · have hw1 : (tokL p).2.2.2 = true := by simpa using hw
      refine hyg (o := _) rfl rfl rfl (fun _ => y_move rfl) <| hyg (o := _) rfl rfl rfl (fun _ => y_move rfl) <| hyg (o := _) rfl rfl rfl (fun _ => y_lenS rfl Tryz.underlying27) <| hyg (o := _) rfl rfl rfl (fun _ => y_gtr rfl rfl) <| hy (fun _ => y_pickF rfl rfl) <| hend <| hsub (ρ' := [(29, _), (10, _), (9, _), (8, _), (7, _), (14, _), (0, _), (6, _), (1, _)]) ⟨rfl, rfl, rfl, rfl, rfl, rfl, rfl, rfl, rfl, trivial⟩ <| hthen <| ?_
      refine hif rfl (fun hd => ?_) (fun hd => ?_)
      · rw [unp_bad hp0 (fun h => by omega)] at hU
        rw [← hU]
        refine hseq <| hreg <| hy (fun _ => y_assign rfl) <| hy (fun _ => y_assign rfl) <| hend <| hthen <| hret <| hthen_ret <| hqblock_ret <| hthen_ret <| hqblock_ret <| hthen_ret <| ?_
        refine hmemQ (fun w m => m.addX (r' := ROwn 5 1 (.slice none 0 0) 0 []) (.refl _ _) (Own.nil _ _ _ _) (fun k hk => hk.elim)) ?_
        exact hret2 trivial rfl rfl rfl [0] rfl [] rfl ⟨_, rfl, rfl, rfl⟩
      · have hd1 : (tokL p).2.2.1 ≤ o.length := by omega
        refine hcskip <| hthen <| hseq <| hseq <| hreg <| hy (fun _ => y_move rfl) <| hy (fun _ => y_lenS rfl Tryz.underlying27) <| hy (fun _ => y_move rfl) <| hy (fun _ => y_add rfl rfl (w64 (by omega) (by omega))) <| hy (fun _ => y_move rfl) <| hy (fun _ => y_gtr rfl rfl) <| hend <| hsub (ρ' := [(35, _), (29, _), (10, _), (9, _), (8, _), (7, _), (14, _), (0, _), (6, _), (1, _)]) ⟨rfl, rfl, rfl, rfl, rfl, rfl, rfl, rfl, rfl, rfl, trivial⟩ <| hthen <| ?_
        refine hif rfl (fun hm => ?_) (fun hm => ?_)
        · rw [unp_far hp0 hw1 hd1 (by omega)] at hU
          rw [← hU]
          refine hseq <| hreg <| hy (fun _ => y_assign rfl) <| hy (fun _ => y_assign rfl) <| hend <| hthen <| hret <| hthen_ret <| hqblock_ret <| hthen_ret <| hqblock_ret <| hthen_ret <| ?_
          refine hmemQ (fun w m => m.addX (r' := ROwn 5 1 (.slice none 0 0) 0 []) (.refl _ _) (Own.nil _ _ _ _) (fun k hk => hk.elim)) ?_
          exact hret2 trivial rfl rfl rfl [0] rfl [] rfl ⟨_, rfl, rfl, rfl⟩
        · rw [unp_go hp0 hw1 hd1 (by omega)] at hU
          obtain ⟨hs2, hs3⟩ := tokL_size hw1
          have hml := made_length (o := o) hw1
          have hmn : (made p o).length ≤ 10000000 := by omega
          have hdl : p.length - (tokL p).1 = (p.drop (tokL p).1).length := by rw [List.length_drop]
          generalize hsz : (tokL p).1 = sz at hs2 hs3 hU hdl ⊢
          refine hcskip <| hthen <| hseq <| hseq <| hreg <| hy (fun _ => y_move rfl) <| hy (fun _ => y_eql rfl rfl) <| hend <| hsub (ρ' := [(37, _), (35, _), (29, _), (10, _), (9, _), (8, _), (7, _), (14, _), (0, _), (6, _), (1, _)]) ⟨rfl, rfl, rfl, rfl, rfl, rfl, rfl, rfl, rfl, rfl, rfl, trivial⟩ <| hthen <| ?_
          refine hif rfl (fun hz0 => ?_) (fun hz0 => ?_)
          · have hd0 : (tokL p).2.2.1 = 0 := by omega
            have hma : made p o = o ++ (p.drop 1).take (sz - 1) := by rw [made, if_pos hd0, hsz]
            refine hmemC (fun w m => m.asV 0 rfl (View.sub (n := p.length) (c := c2) (k := 1) (m := sz - 1) (by omega) (by omega))) ?_
            refine hfactC (fun m => rdB (m.rd 0 rfl)) ?_
            rintro ⟨hl_q, hA_q⟩
            refine hreg <| hy (fun _ => y_move rfl) <| hy (fun _ => y_move rfl) <| hy (fun _ => y_move rfl) <| hy (fun _ => y_slBoth rfl rfl rfl Tryz.underlying27 sz5 (show ((1 : Nat) : Int) = 1 from rfl) (rfl : ((sz : Nat) : Int) = _) (by omega) (by omega)) <| ?_
            refine hx (xh_app 0 rfl rfl rfl Tryz.underlying27 Tryz.underlying27 (by exact .inl rfl) ti5 rfl (fun m => Src.of_rd (m.rd 0 rfl)) b8s_one (by unfold maxLen; omega) (by omega) (fun u => ?_))
            refine hfactL (fun m => (m.own 0 rfl).slice) ?_
            rintro ⟨A_x, c_x, rfl, hc_x⟩
            refine hfactL (fun m => (m.ord 0 rfl).2.1) fun hA_x => ?_
            have hlm : o.length + (sz - 1) = (made p o).length := by rw [hma, List.length_append, List.length_take, List.length_drop]; omega
            rw [hlm] at hc_x hA_x ⊢
            refine hmemL (fun w m => m.eqX 0 rfl (show _ = ROwn 5 1 (.slice A_x (made p o).length c_x) (made p o).length (b8s (made p o)) from congrArg (ROwn _ _ _ _) (by rw [hma, b8s_append]))) ?_
            refine hy (fun _ => y_assign rfl) <| hend <| hsub (ρ' := [(6, _), (37, _), (35, _), (29, _), (10, _), (9, _), (8, _), (7, _), (14, _), (0, _), (1, _)]) ⟨rfl, rfl, rfl, rfl, rfl, rfl, rfl, rfl, rfl, rfl, rfl, trivial⟩ <| hmemQ (X' := [_]) (S' := [_, _, _]) (fun _ m => m) <| hthen <| hseq <| hseq <| hreg <| hy (fun _ => y_assign rfl) <| hend <| hthen <| hblock <| ?_
            refine hloop1 (fun k2 => 1) (fun k2 => [(11, .int .i64 (k2 : Nat)), (6, .slice A_x (made p o).length c_x)]) (fun k2 => [ROwn 5 1 (.slice A_x (made p o).length c_x) (made p o).length (b8s (made p o))]) (fun k2 => []) (fun k2 => True) 0 [(37, _), (35, _), (29, _), (10, _), (9, _), (8, _), (7, _), (14, _), (0, _), (1, _)] ⟨rfl, rfl, rfl, rfl, rfl, rfl, rfl, rfl, rfl, rfl, trivial⟩ [0] rfl [] rfl (trivial) ⟨rfl, rfl, trivial⟩ (fun k2 _ => ?_)
            refine hseq <| hseq <| hreg <| hy (fun _ => y_move rfl) <| hy (fun _ => yF (y_gtr rfl rfl) ((decide_eq_false (by omega)))) <| hy (fun _ => y_move rfl) <| hskip rfl rfl rfl (by decide) <| hskip rfl rfl rfl (by decide) <| hskip rfl rfl rfl (by decide) <| hy (fun _ => y_pickF rfl rfl) <| hend <| hsub (ρ' := [(49, _), (11, _), (6, _), (37, _), (35, _), (29, _), (10, _), (9, _), (8, _), (7, _), (14, _), (0, _), (1, _)]) ⟨rfl, rfl, rfl, rfl, rfl, rfl, rfl, rfl, rfl, rfl, rfl, rfl, rfl, trivial⟩ <| hthen <| ?_
            refine hiff rfl (rfl) ?_
            refine hmemC (fun w m => m.asV 1 rfl (View.drop (n := p.length) (c := c2) (k := sz) (by omega) (by omega))) ?_
            refine hfactC (fun m => rdB (m.rd 0 rfl)) ?_
            rintro ⟨hl_p2, hA_p2⟩
            refine hexit <| hthen_exit <| hthen_exit <| hqblock_exit <| hthen <| hreg <| hy (fun _ => y_move rfl) <| hy (fun _ => y_move rfl) <| hy (fun _ => y_slFrom rfl rfl Tryz.underlying27 sz5 rfl (by omega)) <| hy (fun _ => y_assign rfl) <| hend <| hsub (ρ' := [(0, _), (49, _), (11, _), (6, _), (37, _), (35, _), (29, _), (10, _), (9, _), (8, _), (7, _), (14, _), (1, _)]) ⟨rfl, rfl, rfl, rfl, rfl, rfl, rfl, rfl, rfl, rfl, rfl, rfl, rfl, trivial⟩ <| hqblock <| ?_
            rw [hdl]
            refine hnext6 (p.drop sz) (made p o) _ (c2 - sz) A_x c_x ⟨rfl, rfl, rfl, trivial⟩ [0] rfl [0, 3] rfl (⟨by rw [← hdl]; omega, by rw [← hdl]; omega, hmn, hU⟩) (by rw [← hdl]; omega)
          · have hd0 : 0 < (tokL p).2.2.1 := by omega
            have hma : made p o = again (tokL p).2.2.1 (tokL p).2.1 o := by rw [made, if_neg (by omega)]
            generalize hdd : (tokL p).2.2.1 = dd at *
            generalize hnn : (tokL p).2.1 = nn at *
            refine hcskip <| hthen <| hseq <| hseq <| hreg <| hy (fun _ => y_assign rfl) <| hend <| hthen <| hblock <| ?_
            refine hloop4 (fun k2 o2 A4 c4 => nn - k2) (fun k2 o2 A4 c4 => [(11, .int .i64 (k2 : Nat)), (6, .slice A4 o2.length c4)]) (fun k2 o2 A4 c4 => [ROwn 5 1 (.slice A4 o2.length c4) o2.length (b8s o2)]) (fun k2 o2 A4 c4 => []) (fun k2 o2 A4 c4 => k2 ≤ nn ∧ o2.length = o.length + k2 ∧ again dd (nn - k2) o2 = made p o) 0 o A3 c3 [(37, _), (35, _), (29, _), (10, _), (9, _), (8, _), (7, _), (14, _), (0, _), (1, _)] ⟨rfl, rfl, rfl, rfl, rfl, rfl, rfl, rfl, rfl, rfl, trivial⟩ [0] rfl [] rfl (⟨Nat.zero_le _, rfl, hma.symm⟩) ⟨rfl, rfl, trivial⟩ (fun k2 o2 A4 c4 ⟨hk2, ho2, hag⟩ => ?_)
            refine hseq <| hseq <| hreg <| hy (fun _ => y_move rfl) <| hy (fun _ => yT (y_gtr rfl rfl) ((decide_eq_true (by omega)))) <| hy (fun _ => y_move rfl) <| hyg (o := _) rfl rfl rfl (fun _ => y_move rfl) <| hyg (o := _) rfl rfl rfl (fun _ => y_move rfl) <| hyg (o := _) rfl rfl rfl (fun _ => y_lss rfl rfl) <| hy (fun _ => y_pickT rfl rfl) <| hend <| hsub (ρ' := [(49, _), (11, _), (6, _), (37, _), (35, _), (29, _), (10, _), (9, _), (8, _), (7, _), (14, _), (0, _), (1, _)]) ⟨rfl, rfl, rfl, rfl, rfl, rfl, rfl, rfl, rfl, rfl, rfl, rfl, rfl, trivial⟩ <| hthen <| ?_
            refine hif rfl (fun hkn => ?_) (fun hkn => ?_)
            · have hag2 : again dd (nn - (k2 + 1)) (o2 ++ [o2.getD (o2.length - dd) 0]) = made p o := by
                rw [← hag, show nn - k2 = (nn - (k2 + 1)) + 1 by omega]
                rfl
              refine hfactC (fun m => (m.ord 0 rfl).2.1) fun hA4 => ?_
              refine hcskip <| hthen <| hseq <| hblock <| hreg <| hy (fun _ => y_move rfl) <| hy (fun _ => y_move rfl) <| hy (fun _ => y_move rfl) <| hy (fun _ => y_lenS rfl Tryz.underlying27) <| hy (fun _ => y_move rfl) <| hy (fun _ => y_sub rfl rfl (w64 (by omega) (by omega))) <| hy (fun _ => y_idxS1 rfl rfl Tryz.underlying27 sz5 hA4 (show ((o2.length - dd : Nat) : Int) = _ by omega) (by omega)) <| hy (fun m => y_ld1 rfl ag5 ((m.ord 0 rfl).cell (b8s_get (by omega)))) <| ?_
              refine hx (xh_bsl Tryz.underlying27 ti5 rfl rfl rfl (by simp [Value.cells, B8]) (by decide) (by decide) (fun g60 => ?_))
              have hA_b60 : 0 < 1 → (some (⟨g60, 0, none⟩ : Addr)) ≠ none := fun _ h => by cases h
              refine hmemL (fun w m => m.eqX 0 rfl (show _ = ROwn 5 1 (.slice (some ⟨g60, 0, none⟩) 1 1) 1 (b8s [o2.getD (o2.length - dd) 0]) from rfl)) ?_
              refine hx (xh_app 1 rfl rfl rfl Tryz.underlying27 Tryz.underlying27 (by exact .inl rfl) ti5 rfl (fun m => Src.of_rd (m.ord 0 rfl)) b8s_one (by unfold maxLen; omega) (by omega) (fun u => ?_))
              refine hfactL (fun m => (m.own 0 rfl).slice) ?_
              rintro ⟨A_x, c_x, rfl, hc_x⟩
              refine hfactL (fun m => (m.ord 0 rfl).2.1) fun hA_x => ?_
              refine hmemL (fun w m => m.eqX 0 rfl (show _ = ROwn 5 1 (.slice A_x (o2.length + 1) c_x) (o2.length + 1) (b8s (o2 ++ [o2.getD (o2.length - dd) 0])) from congrArg (ROwn _ _ _ _) (b8s_append _ _).symm)) ?_
              have hl1 : o2.length + 1 = (o2 ++ [o2.getD (o2.length - dd) 0]).length := by simp
              rw [hl1] at hc_x hA_x ⊢
              refine hy (fun _ => y_assign rfl) <| hend <| hsub (ρ' := [(6, _), (49, _), (11, _), (37, _), (35, _), (29, _), (10, _), (9, _), (8, _), (7, _), (14, _), (0, _), (1, _)]) ⟨rfl, rfl, rfl, rfl, rfl, rfl, rfl, rfl, rfl, rfl, rfl, rfl, rfl, trivial⟩ <| hmemQ (X' := [_, _]) (S' := [_, _]) (fun _ m => m) <| hqblock <| hthen <| hreg <| hy (fun _ => y_move rfl) <| hy (fun _ => y_add rfl rfl (w64 (by omega) (by omega))) <| hy (fun _ => y_assign rfl) <| hend <| hsub (ρ' := [(11, _), (6, _), (49, _), (37, _), (35, _), (29, _), (10, _), (9, _), (8, _), (7, _), (14, _), (0, _), (1, _)]) ⟨rfl, rfl, rfl, rfl, rfl, rfl, rfl, rfl, rfl, rfl, rfl, rfl, rfl, trivial⟩ <| ?_
              refine hnext4 (k2 + 1) (o2 ++ [o2.getD (o2.length - dd) 0]) A_x c_x ⟨rfl, rfl, rfl, rfl, rfl, rfl, rfl, rfl, rfl, rfl, rfl, rfl, trivial⟩ [0] rfl [0, 1] rfl (⟨by omega, by rw [← hl1]; omega, hag2⟩) (by omega)
            · obtain rfl : k2 = nn := by omega
              have hag2 : o2 = made p o := by rw [← hag, Nat.sub_self]; rfl
              rw [hag2]
              refine hmemC (fun w m => m.asV 0 rfl (View.drop (n := p.length) (c := c2) (k := sz) (by omega) (by omega))) ?_
              refine hfactC (fun m => rdB (m.rd 0 rfl)) ?_
              rintro ⟨hl_p2, hA_p2⟩
              refine hexit <| hthen_exit <| hthen_exit <| hqblock_exit <| hthen <| hreg <| hy (fun _ => y_move rfl) <| hy (fun _ => y_move rfl) <| hy (fun _ => y_slFrom rfl rfl Tryz.underlying27 sz5 rfl (by omega)) <| hy (fun _ => y_assign rfl) <| hend <| hsub (ρ' := [(0, _), (49, _), (11, _), (6, _), (37, _), (35, _), (29, _), (10, _), (9, _), (8, _), (7, _), (14, _), (1, _)]) ⟨rfl, rfl, rfl, rfl, rfl, rfl, rfl, rfl, rfl, rfl, rfl, rfl, rfl, trivial⟩ <| hqblock <| ?_
              rw [hdl]
              refine hnext6 (p.drop sz) (made p o) _ (c2 - sz) A4 c4 ⟨rfl, rfl, rfl, trivial⟩ [0] rfl [0, 2] rfl (⟨by rw [← hdl]; omega, by rw [← hdl]; omega, hmn, hU⟩) (by rw [← hdl]; omega)
  · have hp0 : p = [] := List.eq_nil_of_length_eq_zero (by omega)
    rw [hp0, unp_nil] at hU
    rw [← hU]
    refine hexit <| hthen_exit <| hthen_exit <| hqblock_exit <| hthen <| hseq <| hreg <| hy (fun _ => y_move rfl) <| hy (fun _ => y_assign rfl) <| hy (fun _ => y_assign rfl) <| hend <| hsub (ρ' := [(5, _), (4, _), (14, _), (0, _), (6, _), (1, _)]) ⟨rfl, rfl, rfl, rfl, rfl, rfl, trivial⟩ <| hthen <| hret <| ?_
    exact hret2 trivial rfl rfl rfl [0] rfl [] rfl ⟨_, rfl, rfl, rfl⟩
end Go.Proofs.YtfikjheicjamhaaGreatDoor
end
section
/- Contracts: frames (layer 6): opening. -/
set_option linter.unusedVariables false
set_option linter.unusedSimpArgs false
set_option maxRecDepth 20000
set_option maxHeartbeats 4000000
namespace Go.Proofs.YtfikjheicjamhaaGreatDoor
open Go.Eng Go.Hx
theorem openL_none {f : List UInt8} {most : Int} (h : lenF f = none) : openL f most = ([], 2) := by unfold openL; rw [h]
theorem openL_far {f : List UInt8} {most : Int} {k : Nat} (h : lenF f = some k) (hm : most < (k : Int)) : openL f most = ([], 3) := by unfold openL; rw [h]; simp only; rw [if_pos hm]
theorem openL_in {f : List UInt8} {most : Int} {k : Nat} (h : lenF f = some k) (hm : ¬ most < (k : Int)) : openL f most = openN f k := by unfold openL; rw [h]; simp only; rw [if_neg hm]
theorem lenF_ten {f : List UInt8} {k : Nat} (h : lenF f = some k) : 10 ≤ f.length ∧ k < 4294967296 := by
  unfold lenF at h
  split at h
  · cases h
  · rename_i hq
    cases h
    exact ⟨by have : ¬ f.length < 10 := fun e => hq (.inl e); omega, num4_lt _⟩
theorem openC {A : Option Addr} {c : Nat} {f : List UInt8} {most : Int} (hc : f.length ≤ c) (hn : f.length ≤ 10000000) (hm : most ≤ 1000000) : Con Tryz.prog 83 [.slice A f.length c, .int .i64 most] [] [RRd 1 A f.length (b8s f)] (fun v_ X_ S_ => ∃ v, v_ = (.tuple #[v, .int .i64 (openL f most).2]) ∧ X_ = [ROwn 5 1 v (openL f most).1.length (b8s (openL f most).1)] ∧ S_ = []) := by
  refine henterD (N := 54) Tryz.func83 rfl rfl (by simp) fun b => ?_
  refine hfactC (fun m => rdB (m.rd 0 rfl)) ?_
  rintro ⟨hl_r, hA_r⟩
  refine hseq <| hreg <| ?_
  refine hx (xh_alloc ti27 (fun g4 => ?_))
  refine hmemL (fun w m => m.eqX 0 rfl (show _ = RBlk g4 27 [.slice none 0 0] from rfl)) ?_
  refine hx (xh_alloc ti39 (fun g5 => ?_))
  refine hmemL (fun w m => m.eqX 0 rfl (show _ = RBlk g5 39 [.int .i64 0] from rfl)) ?_
  rcases hL : lenF f with _ | k
  · refine hend <| hmemQ (X' := [_, _]) (S' := [_]) (fun _ m => m) <| hthen <| hseq <| hreg <| hy (fun _ => y_mkf rfl rfl) <| hdeferv rfl rfl <| hend <| hsub (ρ' := [(5, _), (4, _), (0, _), (1, _)]) ⟨rfl, rfl, rfl, rfl, trivial⟩ <| hthen <| hseq <| hreg <| hy (fun _ => y_move rfl) <| ?_
    refine hx (xh_call rfl Tryz.call152 (lengthC (by omega) (by omega) rfl) [] rfl [0] rfl ?_)
    rintro _ _ _ ⟨rfl, rfl, rfl⟩
    refine hy (fun _ => y_move rfl) <| hy (fun _ => y_extract rfl rfl) <| hy (fun _ => y_extract rfl rfl) <| hy (fun _ => y_assign rfl) <| ?_
    refine hx0 (xh_st1 0 rfl rfl rfl sz39 rfl (by first | exact Nat.le_of_ble_eq_true rfl | simp) ?_)
    refine hend <| hsub (ρ' := [(6, _), (5, _), (4, _), (0, _), (1, _)]) ⟨rfl, rfl, rfl, rfl, rfl, trivial⟩ <| hmemQ (X' := [_, _]) (S' := [_]) (fun _ m => m) <| hthen <| hseq <| hreg <| hy (fun m => y_ld1 rfl ag39 (ld_blk (m.blk 0 rfl) rfl)) <| hy (fun _ => y_eql rfl rfl) <| hy (fun m => y_ld1 rfl ag39 (ld_blk (m.blk 0 rfl) rfl)) <| ?_
    refine hx (xh_callE rfl Tryz.call153 (mustE) [] rfl [] rfl ?_ ?_)
    · rintro _ _ _ ⟨rfl, rfl, rfl, q1⟩
      refine hthen_panic <| hleaveP <| ?_
      rw [hL]
      rw [(openL_none hL)]
      refine hdone (by simp) Tryz.call151 (openCatch) [1, 0] rfl [] rfl ?_
      rintro _ _ _ ⟨rfl, rfl, rfl⟩
      refine humem (fun w m => m.addX (r' := ROwn 5 1 (.slice none 0 0) 0 []) (.refl _ _) (Own.nil _ _ _ _) (fun k hk => hk.elim)) ?_
      exact hlastCC rfl rfl rfl ag27 ag39 (fun m => ld_blk (m.blk 1 rfl) (i := 0) rfl) (fun m => ld_blk (m.blk 2 rfl) (i := 0) rfl) [0] rfl [] rfl ⟨_, rfl, rfl, rfl⟩
    · rintro _ _ _ ⟨rfl, rfl, rfl, q1⟩
      exact absurd q1 (by rw [hL]; simp)
  · refine hend <| hmemQ (X' := [_, _]) (S' := [_]) (fun _ m => m) <| hthen <| hseq <| hreg <| hy (fun _ => y_mkf rfl rfl) <| hdeferv rfl rfl <| hend <| hsub (ρ' := [(5, _), (4, _), (0, _), (1, _)]) ⟨rfl, rfl, rfl, rfl, trivial⟩ <| hthen <| hseq <| hreg <| hy (fun _ => y_move rfl) <| ?_
    refine hx (xh_call rfl Tryz.call152 (lengthC (by omega) (by omega) (by omega)) [] rfl [0] rfl ?_)
    rintro _ _ _ ⟨rfl, rfl, rfl⟩
    refine hy (fun _ => y_move rfl) <| hy (fun _ => y_extract rfl rfl) <| hy (fun _ => y_extract rfl rfl) <| hy (fun _ => y_assign rfl) <| ?_
    refine hx0 (xh_st1 0 rfl rfl rfl sz39 rfl (by first | exact Nat.le_of_ble_eq_true rfl | simp) ?_)
    refine hend <| hsub (ρ' := [(6, _), (5, _), (4, _), (0, _), (1, _)]) ⟨rfl, rfl, rfl, rfl, rfl, trivial⟩ <| hmemQ (X' := [_, _]) (S' := [_]) (fun _ m => m) <| hthen <| hseq <| hreg <| hy (fun m => y_ld1 rfl ag39 (ld_blk (m.blk 0 rfl) rfl)) <| hy (fun _ => y_eql rfl rfl) <| hy (fun m => y_ld1 rfl ag39 (ld_blk (m.blk 0 rfl) rfl)) <| ?_
    refine hx (xh_callE rfl Tryz.call153 (mustE) [] rfl [] rfl ?_ ?_)
    · rintro _ _ _ ⟨rfl, rfl, rfl, q1⟩
      refine hthen_panic <| hleaveP <| ?_
      exact absurd q1 (by rw [hL]; simp)
    · rintro _ _ _ ⟨rfl, rfl, rfl, q1⟩
      rw [hL, Option.getD_some]
      refine hend <| hsub (ρ' := [(6, _), (5, _), (4, _), (0, _), (1, _)]) ⟨rfl, rfl, rfl, rfl, rfl, trivial⟩ <| hmemQ (X' := [_, _]) (S' := [_]) (fun _ m => m) <| hthen <| hseq <| hreg <| hy (fun _ => y_move rfl) <| hy (fun _ => y_move rfl) <| hy (fun _ => y_leq rfl rfl) <| ?_
      refine hx (xh_callE rfl Tryz.call153 (mustE) [] rfl [] rfl ?_ ?_)
      · rintro _ _ _ ⟨rfl, rfl, rfl, q2⟩
        refine hthen_panic <| hleaveP <| ?_
        rw [(openL_far hL (Int.not_le.1 (of_decide_eq_false q2)))]
        refine hdone (by simp) Tryz.call151 (openCatch) [1, 0] rfl [] rfl ?_
        rintro _ _ _ ⟨rfl, rfl, rfl⟩
        refine humem (fun w m => m.addX (r' := ROwn 5 1 (.slice none 0 0) 0 []) (.refl _ _) (Own.nil _ _ _ _) (fun k hk => hk.elim)) ?_
        exact hlastCC rfl rfl rfl ag27 ag39 (fun m => ld_blk (m.blk 1 rfl) (i := 0) rfl) (fun m => ld_blk (m.blk 2 rfl) (i := 0) rfl) [0] rfl [] rfl ⟨_, rfl, rfl, rfl⟩
      · rintro _ _ _ ⟨rfl, rfl, rfl, q2⟩
        obtain ⟨h10, hk32⟩ := lenF_ten hL
        have hkm : (k : Int) ≤ most := of_decide_eq_true q2
        have hopen := openL_in hL (Int.not_lt.2 hkm)
        refine hmemL (fun w m => m.asV 0 rfl (View.sub (n := f.length) (c := c) (k := 6) (m := f.length - 10) (by omega) (by omega))) ?_
        refine hfactL (fun m => rdB (m.rd 0 rfl)) ?_
        rintro ⟨hl_p, hA_p⟩
        refine hend <| hsub (ρ' := [(6, _), (5, _), (4, _), (0, _), (1, _)]) ⟨rfl, rfl, rfl, rfl, rfl, trivial⟩ <| hmemQ (X' := [_, _]) (S' := [_, _]) (fun _ m => m) <| hthen <| hseq <| hreg <| hy (fun _ => y_move rfl) <| hy (fun _ => y_move rfl) <| hy (fun _ => y_lenS rfl Tryz.underlying27) <| hy (fun _ => yV (y_sub rfl rfl (w64 (by omega) (by omega))) ((show Value.int .i64 ((f.length : Int) - 4) = .int .i64 ((f.length - 4 : Nat) : Int) by congr 1; omega))) <| hy (fun _ => yV (y_slBoth rfl rfl rfl Tryz.underlying27 sz5 (show ((6 : Nat) : Int) = 6 from rfl) rfl (by omega) (by omega)) ((show Value.slice (if c = 6 then A else A.map (·.add (6 * 1))) (f.length - 4 - 6) (c - 6) = .slice (if c = 6 then A else A.map (·.add (6 * 1))) (f.length - 10) (c - 6) by congr 1))) <| ?_
        refine hx (xh_call rfl Tryz.call111 (cloneC (by omega)) [] rfl [0] rfl ?_)
        rintro _ _ _ ⟨v, rfl, rfl, rfl⟩
        refine hfactL (fun m => (m.own 0 rfl).slice) ?_
        rintro ⟨A_x, c_x, rfl, hc_x⟩
        refine hfactL (fun m => (m.ord 0 rfl).2.1) fun hA_x => ?_
        have hbl : f.length - 10 = (bodyF f).length := by unfold bodyF; rw [List.length_take, List.length_drop]; omega
        have hb2 : (f.drop 6).take (bodyF f).length = bodyF f := by rw [← hbl]; rfl
        rw [hbl, hb2]
        rw [hbl] at hc_x
        refine hx0 (xh_st1 2 rfl rfl rfl sz27 rfl (by first | exact Nat.le_of_ble_eq_true rfl | simp) ?_)
        refine hend <| hsub (ρ' := [(6, _), (5, _), (4, _), (0, _), (1, _)]) ⟨rfl, rfl, rfl, rfl, rfl, trivial⟩ <| hmemQ (X' := [_, _, _]) (S' := [_, _]) (fun _ m => m) <| hthen <| hseq <| hseq <| hreg <| hy (fun _ => y_move rfl) <| ?_
        refine hx (xh_call rfl Tryz.call154 (packedC (by omega) (by omega) rfl) [] rfl [1] rfl ?_)
        rintro _ _ _ ⟨rfl, rfl, rfl⟩
        refine hend <| hsub (ρ' := [(28, _), (6, _), (5, _), (4, _), (0, _), (1, _)]) ⟨rfl, rfl, rfl, rfl, rfl, rfl, trivial⟩ <| hmemQ (X' := [_, _, _]) (S' := [_, _]) (fun _ m => m) <| hthen <| ?_
        refine hif rfl (fun hpk => ?_) (fun hpk => ?_)
        · have hu : unF f k = unp (k : Int) (bodyF f) [] := by
            unfold unF
            exact if_pos hpk.2
          have hkz : (k : Int) ≤ 10000000 := by omega
          have hul := unp_length (most := (k : Int)) (bodyF f) [] (by simp)
          have hbn : (bodyF f).length ≤ 10000000 := by omega
          refine hseq <| hreg <| hy (fun m => y_ld1 rfl ag27 (ld_blk (m.blk 0 rfl) rfl)) <| hy (fun _ => y_move rfl) <| ?_
          refine hx (xh_calll rfl Tryz.call155 (unpackC hc_x hbn hkz) [] rfl (.x 1 rfl .own .nil) ?_)
          rintro _ _ _ ⟨v2, rfl, rfl, rfl⟩
          refine ⟨rfl, ?_⟩
          refine hfactL (fun m => (m.own 0 rfl).slice) ?_
          rintro ⟨A_x2, c_x2, rfl, hc_x2⟩
          refine hfactL (fun m => (m.ord 0 rfl).2.1) fun hA_x2 => ?_
          refine hy (fun _ => y_move rfl) <| hy (fun _ => y_extract rfl rfl) <| hy (fun _ => y_extract rfl rfl) <| ?_
          refine hx0 (xh_st1 1 rfl rfl rfl sz27 rfl (by first | exact Nat.le_of_ble_eq_true rfl | simp) ?_)
          refine hx0 (xh_st1 3 rfl rfl rfl sz39 rfl (by first | exact Nat.le_of_ble_eq_true rfl | simp) ?_)
          refine hend <| hsub (ρ' := [(28, _), (6, _), (5, _), (4, _), (0, _), (1, _)]) ⟨rfl, rfl, rfl, rfl, rfl, rfl, trivial⟩ <| hmemQ (X' := [_, _, _, _]) (S' := [_, _]) (fun _ m => m) <| hthen <| hreg <| hy (fun m => y_ld1 rfl ag39 (ld_blk (m.blk 0 rfl) rfl)) <| hy (fun _ => y_eql rfl rfl) <| ?_
          refine hx (xh_callE rfl Tryz.call153 (mustE) [] rfl [] rfl ?_ ?_)
          · rintro _ _ _ ⟨rfl, rfl, rfl, q3⟩
            refine hthen_panic <| hleaveP <| ?_
            have hno : openL f most = ([], 2) := by
              rw [hopen]
              unfold openN
              rw [hu]
              exact if_pos (of_decide_eq_false q3)
            rw [hno]
            refine hdone (by simp) Tryz.call151 (openCatch) [1, 0] rfl [] rfl ?_
            rintro _ _ _ ⟨rfl, rfl, rfl⟩
            refine humem (fun w m => m.addX (r' := ROwn 5 1 (.slice none 0 0) 0 []) (.refl _ _) (Own.nil _ _ _ _) (fun k hk => hk.elim)) ?_
            exact hlastCC rfl rfl rfl ag27 ag39 (fun m => ld_blk (m.blk 1 rfl) (i := 0) rfl) (fun m => ld_blk (m.blk 2 rfl) (i := 0) rfl) [0] rfl [] rfl ⟨_, rfl, rfl, rfl⟩
          · rintro _ _ _ ⟨rfl, rfl, rfl, q3⟩
            have hE0 : (unp (k : Int) (bodyF f) []).2 = 0 := of_decide_eq_true q3
            obtain ⟨u, hu2⟩ : ∃ u, unp (k : Int) (bodyF f) [] = (u, 0) := ⟨_, Prod.ext rfl hE0⟩
            rw [hu2] at hu hul
            rw [hu2]
            dsimp only
            have hun : u.length ≤ 1000000 := by
              rcases hul.1 with h | h
              · have h : (u.length : Int) ≤ k := h
                omega
              · have h : u = [] := h
                rw [h]; exact Nat.zero_le _
            refine hend <| hsub (ρ' := [(28, _), (6, _), (5, _), (4, _), (0, _), (1, _)]) ⟨rfl, rfl, rfl, rfl, rfl, rfl, trivial⟩ <| hmemQ (X' := [_, _, _, _]) (S' := [_, _]) (fun _ m => m) <| hthen <| hseq <| hreg <| hy (fun m => y_ld1 rfl ag27 (ld_blk (m.blk 1 rfl) rfl)) <| hy (fun _ => y_lenS rfl Tryz.underlying27) <| hy (fun _ => y_move rfl) <| hy (fun _ => y_eql rfl rfl) <| ?_
            refine hx (xh_callE rfl Tryz.call153 (mustE) [] rfl [] rfl ?_ ?_)
            · rintro _ _ _ ⟨rfl, rfl, rfl, q4⟩
              refine hthen_panic <| hleaveP <| ?_
              have hno : openL f most = ([], 2) := by
                rw [hopen]
                unfold openN
                rw [hu]
                exact (if_neg (by simp)).trans (if_pos (by have := of_decide_eq_false q4; simp only; omega))
              rw [hno]
              refine hdone (by simp) Tryz.call151 (openCatch) [1, 0] rfl [] rfl ?_
              rintro _ _ _ ⟨rfl, rfl, rfl⟩
              refine humem (fun w m => m.addX (r' := ROwn 5 1 (.slice none 0 0) 0 []) (.refl _ _) (Own.nil _ _ _ _) (fun k hk => hk.elim)) ?_
              exact hlastCC rfl rfl rfl ag27 ag39 (fun m => ld_blk (m.blk 1 rfl) (i := 0) rfl) (fun m => ld_blk (m.blk 2 rfl) (i := 0) rfl) [0] rfl [] rfl ⟨_, rfl, rfl, rfl⟩
            · rintro _ _ _ ⟨rfl, rfl, rfl, q4⟩
              have hlen : (u).length = k := by have := of_decide_eq_true q4; omega
              have hgo : openL f most = if le4 (crcSum u) ≠ f.drop (f.length - 4) then ([], 7) else (u, 0) := by
                rw [hopen]
                unfold openN
                rw [hu]
                exact (if_neg (by simp)).trans (if_neg (by simp only; omega))
              refine hmemL (fun w m => m.asV 1 rfl (View.drop (n := f.length) (c := c) (k := f.length - 4) (by omega) (by omega))) ?_
              refine hfactL (fun m => rdB (m.rd 0 rfl)) ?_
              rintro ⟨hl_t, hA_t⟩
              have hcl := crcSum_lt u
              refine hend <| hsub (ρ' := [(28, _), (6, _), (5, _), (4, _), (0, _), (1, _)]) ⟨rfl, rfl, rfl, rfl, rfl, rfl, trivial⟩ <| hmemQ (X' := [_, _, _, _]) (S' := [_, _, _]) (fun _ m => m) <| hthen <| hseq <| hdrwBE [43, 44, 45, 46, 47, 48, 49, 50, 51, 52] [0, 0, 0, 0] [0, 1, 2] rfl rfl [1, 2, 8, 9] [(0, some 0), (3, some 2), (4, some 4), (5, some 2), (6, some 2), (7, some 2), (1, none), (2, none), (8, none), (9, none)] (by kernel_rfl) (by kernel_rfl) (by kernel_rfl) rfl 99 <| hty (fun m => y_ld1 rfl ag27 (ld_blk (m.blk 1 rfl) rfl)) <| htyU (y_move rfl) <| htyU (y_move rfl) <| htyU (y_lenS rfl Tryz.underlying27) <| htyU (yV (y_sub rfl rfl (w64 (by omega) (by omega))) ((show Value.int .i64 ((f.length : Int) - 4) = .int .i64 ((f.length - 4 : Nat) : Int) by congr 1; omega))) <| htyU (y_slFrom rfl rfl Tryz.underlying27 sz5 rfl (by omega)) <| ?_
              refine htx (xh_calll rfl Tryz.call145 (crcSumC (by omega)) [] rfl (.x 2 rfl .own .nil) ?_)
              rintro _ _ _ ⟨rfl, rfl, rfl⟩
              refine ⟨rfl, ?_⟩
              refine ⟨(fun _ => wk [0, 0, 0, 0] [0, 1, 2] rfl rfl), ?_⟩
              refine htx (xh_call rfl Tryz.call144 (fnumberC (by omega)) [] rfl [] rfl ?_)
              rintro _ _ _ ⟨v3, rfl, rfl, rfl⟩
              refine ⟨(fun _ => wk [1, 1, 1, 1] [0, 1, 2] rfl rfl), ?_⟩
              refine htfact (fun m => (m.own 0 rfl).slice) ?_
              rintro ⟨A_x3, c_x3, rfl, hc_x3⟩
              refine htfact (fun m => (m.ord 0 rfl).2.1) fun hA_x3 => ?_
              refine htx (xh_calll rfl Tryz.call156 (bytesEqualC) [] rfl (.x 0 rfl .own (.s 0 rfl .nil)) ?_)
              rintro _ _ _ ⟨rfl, rfl, rfl⟩
              refine ⟨rfl, ?_⟩
              refine ⟨(fun _ => wk [1, 1, 1, 1] [0, 1, 2] rfl rfl), ?_⟩
              refine htx (xh_callE rfl Tryz.call153 (mustE) [] rfl [] rfl ?_ ?_)
              · rintro _ _ _ ⟨rfl, rfl, rfl, q5⟩
                refine hpanq <| hthen_panic <| hleaveP <| ?_
                rw [(hgo.trans (if_pos (of_decide_eq_false q5)))]
                refine hdone (by simp) Tryz.call151 (openCatch) [2, 1] rfl [] rfl ?_
                rintro _ _ _ ⟨rfl, rfl, rfl⟩
                refine humem (fun w m => m.addX (r' := ROwn 5 1 (.slice none 0 0) 0 []) (.refl _ _) (Own.nil _ _ _ _) (fun k hk => hk.elim)) ?_
                exact hlastCC rfl rfl rfl ag27 ag39 (fun m => ld_blk (m.blk 1 rfl) (i := 0) rfl) (fun m => ld_blk (m.blk 2 rfl) (i := 0) rfl) [0] rfl [] rfl ⟨_, rfl, rfl, rfl⟩
              · rintro _ _ _ ⟨rfl, rfl, rfl, q5⟩
                refine ⟨(fun _ => wk [1, 1, 1, 1] [0, 1, 2] rfl rfl), ?_⟩
                rw [hgo.trans (if_neg (fun h => h (of_decide_eq_true q5)))]
                refine htendE <| hsub (ρ' := [(28, _), (6, _), (5, _), (4, _), (0, _), (1, _)]) ⟨rfl, rfl, rfl, rfl, rfl, rfl, trivial⟩ <| hmemQ (X' := [_, _, _, _, _]) (S' := [_, _, _]) (fun _ m => m) <| hthen <| hseq <| hreg <| hy (fun m => y_ld1 rfl ag27 (ld_blk (m.blk 2 rfl) rfl)) <| ?_
                refine hx0 (xh_st1 2 rfl rfl rfl sz27 rfl (by first | exact Nat.le_of_ble_eq_true rfl | simp) ?_)
                refine hx0 (xh_st1 2 rfl rfl rfl sz39 rfl (by first | exact Nat.le_of_ble_eq_true rfl | simp) ?_)
                refine hend <| hsub (ρ' := [(28, _), (6, _), (5, _), (4, _), (0, _), (1, _)]) ⟨rfl, rfl, rfl, rfl, rfl, rfl, trivial⟩ <| hmemQ (X' := [_, _, _, _, _]) (S' := [_, _, _]) (fun _ m => m) <| hthen <| hret <| ?_
                refine hleaveN trivial ?_
                refine hdone (by simp) Tryz.call151 (openIdle) [1, 0] rfl [] rfl ?_
                rintro _ _ _ ⟨rfl, rfl, rfl⟩
                exact hlastCC rfl rfl rfl ag27 ag39 (fun m => ld_blk (m.blk 0 rfl) (i := 0) rfl) (fun m => ld_blk (m.blk 1 rfl) (i := 0) rfl) [3] rfl [] rfl ⟨_, rfl, rfl, rfl⟩
        · have hu : unF f k = (bodyF f, 0) := by
            unfold unF
            exact if_neg fun e => hpk ⟨by rw [hL]; rfl, e⟩
          refine hcskip <| hthen <| hseq <| hreg <| hy (fun m => y_ld1 rfl ag27 (ld_blk (m.blk 0 rfl) rfl)) <| hy (fun _ => y_lenS rfl Tryz.underlying27) <| hy (fun _ => y_move rfl) <| hy (fun _ => y_eql rfl rfl) <| ?_
          refine hx (xh_callE rfl Tryz.call153 (mustE) [] rfl [] rfl ?_ ?_)
          · rintro _ _ _ ⟨rfl, rfl, rfl, q4⟩
            refine hthen_panic <| hleaveP <| ?_
            have hno : openL f most = ([], 2) := by
              rw [hopen]
              unfold openN
              rw [hu]
              exact (if_neg (by simp)).trans (if_pos (by have := of_decide_eq_false q4; simp only; omega))
            rw [hno]
            refine hdone (by simp) Tryz.call151 (openCatch) [0, 1] rfl [] rfl ?_
            rintro _ _ _ ⟨rfl, rfl, rfl⟩
            refine humem (fun w m => m.addX (r' := ROwn 5 1 (.slice none 0 0) 0 []) (.refl _ _) (Own.nil _ _ _ _) (fun k hk => hk.elim)) ?_
            exact hlastCC rfl rfl rfl ag27 ag39 (fun m => ld_blk (m.blk 1 rfl) (i := 0) rfl) (fun m => ld_blk (m.blk 2 rfl) (i := 0) rfl) [0] rfl [] rfl ⟨_, rfl, rfl, rfl⟩
          · rintro _ _ _ ⟨rfl, rfl, rfl, q4⟩
            have hlen : ((bodyF f)).length = k := by have := of_decide_eq_true q4; omega
            have hgo : openL f most = if le4 (crcSum (bodyF f)) ≠ f.drop (f.length - 4) then ([], 7) else ((bodyF f), 0) := by
              rw [hopen]
              unfold openN
              rw [hu]
              exact (if_neg (by simp)).trans (if_neg (by simp only; omega))
            refine hmemL (fun w m => m.asV 1 rfl (View.drop (n := f.length) (c := c) (k := f.length - 4) (by omega) (by omega))) ?_
            refine hfactL (fun m => rdB (m.rd 0 rfl)) ?_
            rintro ⟨hl_t, hA_t⟩
            have hcl := crcSum_lt (bodyF f)
            refine hend <| hsub (ρ' := [(28, _), (6, _), (5, _), (4, _), (0, _), (1, _)]) ⟨rfl, rfl, rfl, rfl, rfl, rfl, trivial⟩ <| hmemQ (X' := [_, _, _]) (S' := [_, _, _]) (fun _ m => m) <| hthen <| hseq <| hdrwBE [43, 44, 45, 46, 47, 48, 49, 50, 51, 52] [0, 0, 0] [0, 1, 2] rfl rfl [1, 2, 8, 9] [(0, some 0), (3, some 2), (4, some 4), (5, some 2), (6, some 2), (7, some 2), (1, none), (2, none), (8, none), (9, none)] (by kernel_rfl) (by kernel_rfl) (by kernel_rfl) rfl 99 <| hty (fun m => y_ld1 rfl ag27 (ld_blk (m.blk 0 rfl) rfl)) <| htyU (y_move rfl) <| htyU (y_move rfl) <| htyU (y_lenS rfl Tryz.underlying27) <| htyU (yV (y_sub rfl rfl (w64 (by omega) (by omega))) ((show Value.int .i64 ((f.length : Int) - 4) = .int .i64 ((f.length - 4 : Nat) : Int) by congr 1; omega))) <| htyU (y_slFrom rfl rfl Tryz.underlying27 sz5 rfl (by omega)) <| ?_
            refine htx (xh_calll rfl Tryz.call145 (crcSumC (by omega)) [] rfl (.x 1 rfl .own .nil) ?_)
            rintro _ _ _ ⟨rfl, rfl, rfl⟩
            refine ⟨rfl, ?_⟩
            refine ⟨(fun _ => wk [0, 0, 0] [0, 1, 2] rfl rfl), ?_⟩
            refine htx (xh_call rfl Tryz.call144 (fnumberC (by omega)) [] rfl [] rfl ?_)
            rintro _ _ _ ⟨v2, rfl, rfl, rfl⟩
            refine ⟨(fun _ => wk [1, 1, 1] [0, 1, 2] rfl rfl), ?_⟩
            refine htfact (fun m => (m.own 0 rfl).slice) ?_
            rintro ⟨A_x2, c_x2, rfl, hc_x2⟩
            refine htfact (fun m => (m.ord 0 rfl).2.1) fun hA_x2 => ?_
            refine htx (xh_calll rfl Tryz.call156 (bytesEqualC) [] rfl (.x 0 rfl .own (.s 0 rfl .nil)) ?_)
            rintro _ _ _ ⟨rfl, rfl, rfl⟩
            refine ⟨rfl, ?_⟩
            refine ⟨(fun _ => wk [1, 1, 1] [0, 1, 2] rfl rfl), ?_⟩
            refine htx (xh_callE rfl Tryz.call153 (mustE) [] rfl [] rfl ?_ ?_)
            · rintro _ _ _ ⟨rfl, rfl, rfl, q5⟩
              refine hpanq <| hthen_panic <| hleaveP <| ?_
              rw [(hgo.trans (if_pos (of_decide_eq_false q5)))]
              refine hdone (by simp) Tryz.call151 (openCatch) [1, 2] rfl [] rfl ?_
              rintro _ _ _ ⟨rfl, rfl, rfl⟩
              refine humem (fun w m => m.addX (r' := ROwn 5 1 (.slice none 0 0) 0 []) (.refl _ _) (Own.nil _ _ _ _) (fun k hk => hk.elim)) ?_
              exact hlastCC rfl rfl rfl ag27 ag39 (fun m => ld_blk (m.blk 1 rfl) (i := 0) rfl) (fun m => ld_blk (m.blk 2 rfl) (i := 0) rfl) [0] rfl [] rfl ⟨_, rfl, rfl, rfl⟩
            · rintro _ _ _ ⟨rfl, rfl, rfl, q5⟩
              refine ⟨(fun _ => wk [1, 1, 1] [0, 1, 2] rfl rfl), ?_⟩
              rw [hgo.trans (if_neg (fun h => h (of_decide_eq_true q5)))]
              refine htendE <| hsub (ρ' := [(28, _), (6, _), (5, _), (4, _), (0, _), (1, _)]) ⟨rfl, rfl, rfl, rfl, rfl, rfl, trivial⟩ <| hmemQ (X' := [_, _, _, _]) (S' := [_, _, _]) (fun _ m => m) <| hthen <| hseq <| hreg <| hy (fun m => y_ld1 rfl ag27 (ld_blk (m.blk 1 rfl) rfl)) <| ?_
              refine hx0 (xh_st1 1 rfl rfl rfl sz27 rfl (by first | exact Nat.le_of_ble_eq_true rfl | simp) ?_)
              refine hx0 (xh_st1 3 rfl rfl rfl sz39 rfl (by first | exact Nat.le_of_ble_eq_true rfl | simp) ?_)
              refine hend <| hsub (ρ' := [(28, _), (6, _), (5, _), (4, _), (0, _), (1, _)]) ⟨rfl, rfl, rfl, rfl, rfl, rfl, trivial⟩ <| hmemQ (X' := [_, _, _, _]) (S' := [_, _, _]) (fun _ m => m) <| hthen <| hret <| ?_
              refine hleaveN trivial ?_
              refine hdone (by simp) Tryz.call151 (openIdle) [1, 0] rfl [] rfl ?_
              rintro _ _ _ ⟨rfl, rfl, rfl⟩
              exact hlastCC rfl rfl rfl ag27 ag39 (fun m => ld_blk (m.blk 0 rfl) (i := 0) rfl) (fun m => ld_blk (m.blk 1 rfl) (i := 0) rfl) [3] rfl [] rfl ⟨_, rfl, rfl, rfl⟩
end Go.Proofs.YtfikjheicjamhaaGreatDoor
end
section
/- Contracts: chunks by their names (layer 13): Get, Has. -/
set_option linter.unusedVariables false
set_option linter.unusedSimpArgs false
set_option maxRecDepth 20000
set_option maxHeartbeats 4000000
namespace Go.Proofs.YtfikjheicjamhaaGreatDoor
open Go.Eng Go.Hx
theorem getC {g : Nat} {st : DSt} {d : RD} {kk : Nat} {nm : List UInt8} (hD : DS st d kk) (hm : nm.length = 32) : Con Tryz.prog 24 [.pointer (some ⟨g, 0, none⟩), .agg (b8s nm).toArray] [RDisk g st] [RRoots] (fun v_ X_ S_ => ∃ v, v_ = (.tuple #[v, .int .i64 (d.getE nm)]) ∧ X_ = [RDisk g st, ROwn 5 1 v (d.getB nm).length (b8s (d.getB nm))] ∧ S_ = []) := by
  have hlen := hD.rd_len (placeL nm)
  have hol := openL_len (f := d.readB (placeL nm)) (most := 4096) (by decide)
  refine henter (N := 33) Tryz.func24 rfl rfl (by simp) fun b => ?_
  refine hseq <| hreg <| ?_
  refine hx (xh_box rfl (fun g3 => ?_))
  refine hmemL (fun w m => m.eqX 0 rfl (show _ = RBlk g3 33 (b8s nm) from congrArg (RBlk _ _) (cells_agg _))) ?_
  refine hy (fun _ => y_assign rfl) <| hy (fun _ => y_assign rfl) <| hend <| hmemQ (X' := [_, _]) (S' := [_]) (fun _ m => m) <| hthen <| hseq <| hreg <| hy (fun _ => y_move rfl) <| hy (fun m => y_ldN rfl ag33 sz33 (by rw [b8s_length]; exact hm) ((m.blk 0 rfl).cells0)) <| ?_
  refine hx (xh_call rfl Tryz.call75 (placeC hm) [] rfl [] rfl ?_)
  rintro _ _ _ ⟨rfl, rfl, rfl⟩
  refine hx (xh_call rfl Tryz.call63 (dreadC hD) [1] rfl [] rfl ?_)
  rintro _ _ _ ⟨v, rfl, rfl, rfl⟩
  refine hfactL (fun m => (m.own 1 rfl).slice) ?_
  rintro ⟨A_x, c_x, rfl, hc_x⟩
  refine hfactL (fun m => (m.ord 1 rfl).2.1) fun hA_x => ?_
  refine hy (fun _ => y_move rfl) <| hy (fun _ => y_extract rfl rfl) <| hy (fun _ => y_extract rfl rfl) <| hy (fun _ => y_assign rfl) <| hy (fun _ => y_assign rfl) <| hend <| hsub (ρ' := [(7, _), (6, _), (5, _), (4, _), (3, _), (0, _), (1, _)]) ⟨rfl, rfl, rfl, rfl, rfl, rfl, rfl, trivial⟩ <| hmemQ (X' := [_, _, _]) (S' := [_]) (fun _ m => m) <| hthen <| hseq <| hseq <| hreg <| hy (fun _ => y_move rfl) <| hy (fun _ => y_neq rfl rfl) <| hend <| hsub (ρ' := [(17, _), (7, _), (6, _), (5, _), (4, _), (3, _), (0, _), (1, _)]) ⟨rfl, rfl, rfl, rfl, rfl, rfl, rfl, rfl, trivial⟩ <| hthen <| ?_
  refine hif rfl (fun h1 => ?_) (fun h1 => ?_)
  · rw [getE_read h1, getB_no (by rw [getE_read h1]; exact h1)]
    refine hseq <| hreg <| hy (fun _ => y_move rfl) <| hy (fun _ => y_assign rfl) <| hy (fun _ => y_assign rfl) <| hend <| hsub (ρ' := [(5, _), (4, _), (17, _), (7, _), (6, _), (3, _), (0, _), (1, _)]) ⟨rfl, rfl, rfl, rfl, rfl, rfl, rfl, rfl, trivial⟩ <| hthen <| hret <| hthen_ret <| ?_
    refine hmemQ (fun w m => m.addX (r' := ROwn 5 1 (.slice none 0 0) 0 []) (.refl _ _) (Own.nil _ _ _ _) (fun k hk => hk.elim)) ?_
    exact hret2 trivial rfl rfl rfl [1, 0] rfl [] rfl ⟨_, rfl, rfl, rfl⟩
  · have h1 := Decidable.not_not.1 h1
    refine hcskip <| hthen <| hseq <| hreg <| hy (fun _ => y_move rfl) <| ?_
    refine hx (xh_calll rfl Tryz.call83 (openC hc_x (by omega) (show (4096 : Int) ≤ 1000000 by decide)) [] rfl (.x 1 rfl .own .nil) ?_)
    rintro _ _ _ ⟨v2, rfl, rfl, rfl⟩
    refine ⟨rfl, ?_⟩
    refine hfactL (fun m => (m.own 0 rfl).slice) ?_
    rintro ⟨A_x2, c_x2, rfl, hc_x2⟩
    refine hfactL (fun m => (m.ord 0 rfl).2.1) fun hA_x2 => ?_
    refine hy (fun _ => y_move rfl) <| hy (fun _ => y_extract rfl rfl) <| hy (fun _ => y_extract rfl rfl) <| hy (fun _ => y_assign rfl) <| hy (fun _ => y_assign rfl) <| hend <| hsub (ρ' := [(7, _), (8, _), (17, _), (6, _), (5, _), (4, _), (3, _), (0, _), (1, _)]) ⟨rfl, rfl, rfl, rfl, rfl, rfl, rfl, rfl, rfl, trivial⟩ <| hmemQ (X' := [_, _, _, _]) (S' := [_]) (fun _ m => m) <| hthen <| hseq <| hseq <| hdrw [4] [(0, some 0), (1, some 0), (2, some 0), (3, some 0), (5, some 1), (4, none), (6, some 1), (7, some 1)] (by kernel_rfl) (by kernel_rfl) rfl 99 <| htyU (y_move rfl) <| htyU (y_neq rfl rfl) <| htyU (y_move rfl) <| ?_
    refine htsplit 26 rfl (fun h2 => ?_) (fun h2 => ?_)
    · have hE := getE_bad (d := d) (nm := nm) h1 (.inl h2)
      rw [hE, getB_no (by rw [hE]; decide)]
      refine htskip rfl rfl rfl (by decide) <| htskip rfl rfl rfl (by decide) <| htskipx rfl rfl rfl (by decide) (fun _ => wk [0, 0, 0, 0] [0] rfl rfl) <| htskip rfl rfl rfl (by decide) <| htyU (y_pickT rfl rfl) <| htend <| hsub (ρ' := [(31, _), (7, _), (8, _), (17, _), (6, _), (5, _), (4, _), (3, _), (0, _), (1, _)]) ⟨rfl, rfl, rfl, rfl, rfl, rfl, rfl, rfl, rfl, rfl, trivial⟩ <| hthen <| ?_
      refine hift rfl (rfl) ?_
      refine hseq <| hreg <| hy (fun _ => y_assign rfl) <| hy (fun _ => y_assign rfl) <| hend <| hthen <| hret <| hthen_ret <| ?_
      refine hmemQ (fun w m => m.addX (r' := ROwn 5 1 (.slice none 0 0) 0 []) (.refl _ _) (Own.nil _ _ _ _) (fun k hk => hk.elim)) ?_
      exact hret2 trivial rfl rfl rfl [2, 0] rfl [] rfl ⟨_, rfl, rfl, rfl⟩
    · have h2 := Decidable.not_not.1 h2
      refine htyUg (o := _) rfl rfl rfl (y_move rfl) <| htyg (o := _) rfl rfl rfl (fun m => y_ldN rfl ag33 sz33 (by rw [b8s_length]; exact hm) ((m.blk 3 rfl).cells0)) <| ?_
      refine htxg (o := _) rfl rfl rfl (xh_calll rfl Tryz.call68 (shaSumC (by omega)) [] rfl (.x 0 rfl .own (.s 0 rfl .nil)) ?_)
      rintro _ _ _ ⟨rfl, rfl, rfl⟩
      refine ⟨rfl, ?_⟩
      refine ⟨(fun _ => wk [0, 0, 0, 0] [0] rfl rfl), ?_⟩
      refine htyUg (o := _) rfl rfl rfl (y_neD33 rfl rfl (shaL_length _) hm) <| htyU (y_pickF rfl rfl) <| htend <| hsub (ρ' := [(31, _), (7, _), (8, _), (17, _), (6, _), (5, _), (4, _), (3, _), (0, _), (1, _)]) ⟨rfl, rfl, rfl, rfl, rfl, rfl, rfl, rfl, rfl, rfl, trivial⟩ <| hmemQ (X' := [_, _, _, _]) (S' := [_]) (fun _ m => m) <| hthen <| ?_
      refine hif rfl (fun h3 => ?_) (fun h3 => ?_)
      · have hE := getE_bad (d := d) (nm := nm) h1 (.inr h3)
        rw [hE, getB_no (by rw [hE]; decide)]
        refine hseq <| hreg <| hy (fun _ => y_assign rfl) <| hy (fun _ => y_assign rfl) <| hend <| hthen <| hret <| hthen_ret <| ?_
        refine hmemQ (fun w m => m.addX (r' := ROwn 5 1 (.slice none 0 0) 0 []) (.refl _ _) (Own.nil _ _ _ _) (fun k hk => hk.elim)) ?_
        exact hret2 trivial rfl rfl rfl [2, 0] rfl [] rfl ⟨_, rfl, rfl, rfl⟩
      · have hE := getE_ok (d := d) (nm := nm) h1 (fun q => q.elim (fun q => q h2) h3)
        rw [hE, getB_ok hE]
        refine hcskip <| hthen <| hseq <| hreg <| hy (fun _ => y_move rfl) <| hy (fun _ => y_assign rfl) <| hy (fun _ => y_assign rfl) <| hend <| hsub (ρ' := [(5, _), (4, _), (31, _), (7, _), (8, _), (17, _), (6, _), (3, _), (0, _), (1, _)]) ⟨rfl, rfl, rfl, rfl, rfl, rfl, rfl, rfl, rfl, rfl, trivial⟩ <| hthen <| hret <| ?_
        exact hret2 trivial rfl rfl rfl [1, 0] rfl [] rfl ⟨_, rfl, rfl, rfl⟩
end Go.Proofs.YtfikjheicjamhaaGreatDoor
end
section
/- Contracts: chunks by their names (layer 13): steps one behind the other, Put. -/
set_option linter.unusedVariables false
set_option linter.unusedSimpArgs false
set_option maxRecDepth 20000
set_option maxHeartbeats 4000000
namespace Go.Proofs.YtfikjheicjamhaaGreatDoor
open Go.Eng Go.Hx
theorem ag135 : aggB Tryz.prog 135 = some false := by kernel_rfl
theorem sz135 : szB Tryz.prog 135 = some 1 := by kernel_rfl
theorem ti135 : TI Tryz.prog 135 .nilFunc 1 8 := by unfold TI; kernel_rfl
/-- a function value that does a step to a disk -/
def StepV (g : Nat) (L : List Res) (v : Value) (F : RD → RD × Int) : Prop := ∃ (f : Nat) (first cap : List Value), v = .func (.func f) first.toArray cap.toArray ∧ (∀ args w, (callFunc f args).run Tryz.prog w = .ok (.enter f args) w) ∧
  ∀ (st : DSt) (d : RD) (kk : Nat), DS st d kk → kk ≤ 99000 → Con Tryz.prog f (first ++ [] ++ cap) [RDisk g st] [RAll L] (fun v_ X_ S_ => ∃ st1, v_ = .int .i64 (F d).2 ∧ X_ = [RDisk g st1] ∧ S_ = [] ∧ DS st1 (F d).1 (kk + 1))
theorem allC {g : Nat} {st : DSt} {d : RD} {kk : Nat} {A : Option Addr} {n c : Nat} {fs : List Value} {Fs : List (RD → RD × Int)} {L : List Res} (hD : DS st d kk) (hkk : kk + n ≤ 99000) (hn : n ≤ 100000) (hF : Fs.length = n) (hfs : ∀ (i : Nat) (F : RD → RD × Int), Fs[i]? = some F → ∃ v, fs[i]? = some v ∧ StepV g L v F) : Con Tryz.prog 76 [.slice A n c] [RDisk g st] [RRd 1 A n fs, RAll L] (fun v_ X_ S_ => ∃ st1, v_ = (.int .i64 (runF Fs d).2) ∧ X_ = [RDisk g st1] ∧ S_ = [] ∧ (DS st1 (runF Fs d).1 (kk + n))) := by
  obtain ⟨d0, hd0⟩ : ∃ d0, d0 = runF Fs d := ⟨_, rfl⟩
  rw [← hd0]
  refine henter (N := 18) Tryz.func76 rfl rfl (by simp) fun b => ?_
  refine hfactC (fun m => rdX (m.rd 0 rfl)) ?_
  rintro ⟨hl_f, hA_f⟩
  refine hseq <| hreg <| hy (fun _ => y_assign rfl) <| hend <| hthen <| hseq <| hseq <| hreg <| hy (fun _ => y_move rfl) <| hy (fun _ => y_lenS rfl Tryz.underlying148) <| hy (fun _ => y_move rfl) <| hend <| hthen <| hblock <| ?_
  refine hloop3 (fun k st d => n - k) (fun k st d => [(8, .int .i64 (k : Nat))]) (fun k st d => [RDisk g st]) (fun k st d => []) (fun k st d => k ≤ n ∧ DS st d (kk + k) ∧ runF (Fs.drop k) d = d0) 0 st d [(7, _), (6, _), (0, _)] ⟨rfl, rfl, rfl, trivial⟩ [0] rfl [] rfl (⟨Nat.zero_le _, hD, hd0.symm⟩) ⟨rfl, trivial⟩ (fun k st d ⟨hk, hD, hR⟩ => ?_)
  refine hseq <| hreg <| hy (fun _ => y_lss rfl rfl) <| hend <| hthen <| hseq <| ?_
  refine hif rfl (fun hlt => ?_) (fun hlt => ?_)
  · obtain ⟨F, hFk⟩ : ∃ F, Fs[k]? = some F := ⟨_, List.getElem?_eq_getElem (by omega)⟩
    obtain ⟨v, hv, f, first, cap, rfl, hcall, hcon⟩ := hfs k F hFk
    have hdr : Fs.drop k = F :: Fs.drop (k + 1) := by
      have hlt2 : k < Fs.length := by omega
      rw [List.drop_eq_getElem_cons hlt2]
      congr 1
      exact Option.some.inj ((List.getElem?_eq_getElem hlt2).symm.trans hFk)
    rw [hdr] at hR
    refine hcskip <| hthen <| hseq <| hblock <| hseq <| hreg <| hy (fun _ => y_idxS1 rfl rfl Tryz.underlying148 sz135 hA_f rfl (by omega)) <| hy (fun m => y_ld1 rfl ag135 ((m.rd 0 rfl).cell hv)) <| hy (fun _ => y_assign rfl) <| hend <| hsub (ρ' := [(4, _), (9, _), (8, _), (7, _), (6, _), (0, _)]) ⟨rfl, rfl, rfl, rfl, rfl, rfl, trivial⟩ <| hthen <| hseq <| hreg <| hy (fun _ => y_move rfl) <| ?_
    refine hx (xh_callv rfl rfl hcall (hcon st d (kk + k) hD (by omega)) [0] rfl [1] rfl ?_)
    rintro _ _ _ ⟨st1, rfl, rfl, rfl, hD1⟩
    refine hy (fun _ => y_assign rfl) <| hend <| hsub (ρ' := [(5, _), (4, _), (9, _), (8, _), (7, _), (6, _), (0, _)]) ⟨rfl, rfl, rfl, rfl, rfl, rfl, rfl, trivial⟩ <| hmemQ (X' := [_]) (S' := [_, _]) (fun _ m => m) <| hthen <| hseq <| hreg <| hy (fun _ => y_move rfl) <| hy (fun _ => y_neq rfl rfl) <| hend <| hsub (ρ' := [(15, _), (5, _), (4, _), (9, _), (8, _), (7, _), (6, _), (0, _)]) ⟨rfl, rfl, rfl, rfl, rfl, rfl, rfl, rfl, trivial⟩ <| hthen <| ?_
    refine hif rfl (fun he => ?_) (fun he => ?_)
    · have e0 : runF (F :: Fs.drop (k + 1)) d = F d := if_pos he
      rw [e0] at hR
      rw [← hR]
      refine hseq <| hreg <| hy (fun _ => y_move rfl) <| hy (fun _ => y_assign rfl) <| hend <| hsub (ρ' := [(2, _), (15, _), (5, _), (4, _), (9, _), (8, _), (7, _), (6, _), (0, _)]) ⟨rfl, rfl, rfl, rfl, rfl, rfl, rfl, rfl, rfl, trivial⟩ <| hthen <| hret <| hqblock_ret <| hthen_ret <| hthen_ret <| hqblock_ret <| hthen_ret <| ?_
      exact hret1 trivial rfl rfl [0] rfl [] rfl ⟨st1, rfl, rfl, rfl, (hD1.le (by omega))⟩
    · have e0 : runF (F :: Fs.drop (k + 1)) d = runF (Fs.drop (k + 1)) (F d).1 := if_neg he
      rw [e0] at hR
      refine hcskip <| hqblock <| hthen <| hreg <| hy (fun _ => y_add rfl rfl (w64 (by omega) (by omega))) <| hy (fun _ => y_move rfl) <| hend <| hsub (ρ' := [(8, _), (15, _), (5, _), (4, _), (9, _), (7, _), (6, _), (0, _)]) ⟨rfl, rfl, rfl, rfl, rfl, rfl, rfl, rfl, trivial⟩ <| ?_
      refine hnext3 (k + 1) st1 (F d).1 ⟨rfl, rfl, rfl, rfl, trivial⟩ [0] rfl [0, 1] rfl (⟨by omega, hD1, hR⟩) (by omega)
  · obtain rfl : k = n := by omega
    rw [List.drop_of_length_le (by omega)] at hR
    have hR : (d, 0) = d0 := hR
    rw [← hR]
    refine hexit <| hthen_exit <| hthen_exit <| hqblock_exit <| hthen <| hseq <| hreg <| hy (fun _ => y_assign rfl) <| hend <| hthen <| hret <| ?_
    exact hret1 trivial rfl rfl [0] rfl [] rfl ⟨st, rfl, rfl, rfl, hD⟩
end Go.Proofs.YtfikjheicjamhaaGreatDoor
end
section
/- Contracts: chunks by their names (layer 13): Put. -/
set_option linter.unusedVariables false
set_option linter.unusedSimpArgs false
set_option maxRecDepth 20000
set_option maxHeartbeats 4000000
namespace Go.Proofs.YtfikjheicjamhaaGreatDoor
open Go.Eng Go.Hx
theorem put1C {g g2 g9 g3 : Nat} {st : DSt} {d : RD} {kk : Nat} {p : List UInt8} {A : Option Addr} {n c : Nat} {bb : List UInt8} (hD : DS st d kk) (hkk : kk ≤ 99000) (hc : n ≤ c) (hl : bb.length = n) (hn : n ≤ 4096) : Con Tryz.prog 71 [.pointer (some ⟨g2, 0, none⟩), .pointer (some ⟨g9, 0, none⟩), .pointer (some ⟨g3, 0, none⟩)] [RDisk g st] [RBlk g2 42 [.pointer (some ⟨g, 0, none⟩)], RBlk g9 9 [SV p], RBlk g3 27 [.slice A n c], RRd 1 A n (b8s bb)] (fun v_ X_ S_ => ∃ st1, v_ = (.int .i64 (d.writeE p (sealL bb))) ∧ X_ = [RDisk g st1] ∧ S_ = [] ∧ (DS st1 (d.write p (sealL bb)) (kk + 1))) := by
  have hsl := sealL_le bb
  refine henter (N := 9) Tryz.func71 rfl rfl (by simp) fun b => ?_
  refine hfactC (fun m => rdB (m.rd 3 rfl)) ?_
  rintro ⟨hl_r, hA_r⟩
  refine hseq <| hreg <| hy (fun _ => y_assign rfl) <| hend <| hthen <| hseq <| hdrw [3, 4] [(0, some 1), (1, some 1), (2, some 0), (3, none), (4, none), (5, some 2)] (by kernel_rfl) (by kernel_rfl) rfl 1 <| hty (fun m => y_ld1 rfl ag42 (ld_blk (m.blkS 0 rfl) (i := 0) rfl)) <| hty (fun m => y_ld1 rfl ag9 (ld_blk (m.blkS 1 rfl) (i := 0) rfl)) <| hty (fun m => y_ld1 rfl ag27 (ld_blk (m.blkS 2 rfl) (i := 0) rfl)) <| ?_
  refine htx (xh_call rfl Tryz.call72 (sealC (by omega) (by omega) hl) [] rfl [3] rfl ?_)
  rintro _ _ _ ⟨v, rfl, rfl, rfl⟩
  refine ⟨(fun _ => wk [1] [0, 1, 2, 3] rfl rfl), ?_⟩
  refine htfact (fun m => (m.own 0 rfl).slice) ?_
  rintro ⟨A_x, c_x, rfl, hc_x⟩
  refine htfact (fun m => (m.ord 0 rfl).2.1) fun hA_x => ?_
  refine htx (xh_calll rfl Tryz.call41 (dwriteC hD (by omega) rfl (by omega)) [1] rfl (.x 0 rfl .own .nil) ?_)
  rintro _ _ _ ⟨st1, rfl, rfl, rfl, hp⟩
  refine ⟨rfl, ?_⟩
  refine ⟨(fun h => absurd h (by decide)), ?_⟩
  refine htyU (y_assign rfl) <| htend <| hsub (ρ' := [(3, _), (0, _), (1, _), (2, _)]) ⟨rfl, rfl, rfl, rfl, trivial⟩ <| hmemQ (X' := [_, _]) (S' := [_, _, _, _]) (fun _ m => m) <| hthen <| hret <| ?_
  exact hret1 trivial rfl rfl [0] rfl [] rfl ⟨st1, rfl, rfl, rfl, hp⟩
theorem put2C {g g2 g9 g6 : Nat} {st : DSt} {d : RD} {kk : Nat} {p nm : List UInt8} (hD : DS st d kk) (hkk : kk ≤ 99000) (hm : nm.length = 32) : Con Tryz.prog 73 [.pointer (some ⟨g2, 0, none⟩), .pointer (some ⟨g9, 0, none⟩), .pointer (some ⟨g6, 0, none⟩)] [RDisk g st] [RBlk g2 42 [.pointer (some ⟨g, 0, none⟩)], RBlk g9 9 [SV p], RBlk g6 33 (b8s nm)] (fun v_ X_ S_ => ∃ st1, v_ = (.int .i64 (d.renameE p (placeL nm))) ∧ X_ = [RDisk g st1] ∧ S_ = [] ∧ (DS st1 (d.rename p (placeL nm)) (kk + 1))) := by
  refine henter (N := 9) Tryz.func73 rfl rfl (by simp) fun b => ?_
  refine hseq <| hreg <| hy (fun _ => y_assign rfl) <| hend <| hthen <| hseq <| hdrw [3, 4] [(0, some 1), (1, some 1), (2, some 0), (3, none), (4, none), (5, some 2)] (by kernel_rfl) (by kernel_rfl) rfl 1 <| hty (fun m => y_ld1 rfl ag42 (ld_blk (m.blkS 0 rfl) (i := 0) rfl)) <| hty (fun m => y_ld1 rfl ag9 (ld_blk (m.blkS 1 rfl) (i := 0) rfl)) <| hty (fun m => y_ldN rfl ag33 sz33 (by rw [b8s_length]; exact hm) ((m.blkS 2 rfl).cells0)) <| ?_
  refine htx (xh_call rfl Tryz.call75 (placeC hm) [] rfl [] rfl ?_)
  rintro _ _ _ ⟨rfl, rfl, rfl⟩
  refine ⟨(fun _ => wk [0] [0, 1, 2] rfl rfl), ?_⟩
  refine htx (xh_call rfl Tryz.call74 (drenameC hD (by omega) (a := p) (c := placeL nm)) [0] rfl [] rfl ?_)
  rintro _ _ _ ⟨st1, rfl, rfl, rfl, hp⟩
  refine ⟨(fun h => absurd h (by decide)), ?_⟩
  refine htyU (y_assign rfl) <| htend <| hsub (ρ' := [(3, _), (0, _), (1, _), (2, _)]) ⟨rfl, rfl, rfl, rfl, trivial⟩ <| hmemQ (X' := [_]) (S' := [_, _, _]) (fun _ m => m) <| hthen <| hret <| ?_
  exact hret1 trivial rfl rfl [0] rfl [] rfl ⟨st1, rfl, rfl, rfl, hp⟩
abbrev putThings (g g2 g9 g3 g6 : Nat) (A : Option Addr) (n c : Nat) (bb nm p : List UInt8) : List Res := [RBlk g2 42 [.pointer (some ⟨g, 0, none⟩)], RBlk g9 9 [SV p], RBlk g3 27 [.slice A n c], RBlk g6 33 (b8s nm), RRd 1 A n (b8s bb)]
theorem step_write {g g2 g9 g3 g6 : Nat} {A : Option Addr} {n c : Nat} {bb nm p : List UInt8} (hc : n ≤ c) (hl : bb.length = n) (hn : n ≤ 4096) :
    StepV g (putThings g g2 g9 g3 g6 A n c bb nm p) (.func (.func 71) #[] #[.pointer (some ⟨g2, 0, none⟩), .pointer (some ⟨g9, 0, none⟩), .pointer (some ⟨g3, 0, none⟩)]) (wstepF p (sealL bb)) :=
  ⟨71, [], [.pointer (some ⟨g2, 0, none⟩), .pointer (some ⟨g9, 0, none⟩), .pointer (some ⟨g3, 0, none⟩)], rfl, Tryz.call71, fun st d kk hD hk => Con.viaS (put1C hD hk hc hl hn) (by
    intro s hs
    simp only [List.mem_cons, List.not_mem_nil, or_false] at hs
    rcases hs with rfl | rfl | rfl | rfl
    · exact ⟨_, List.mem_singleton.2 rfl, View.alls 0 rfl⟩
    · exact ⟨_, List.mem_singleton.2 rfl, View.alls 1 rfl⟩
    · exact ⟨_, List.mem_singleton.2 rfl, View.alls 2 rfl⟩
    · exact ⟨_, List.mem_singleton.2 rfl, View.alls 4 rfl⟩) (fun v X S h => by
    obtain ⟨st1, h1, h2, h3, h4⟩ := h
    exact ⟨[], ⟨st1, h1, h2, rfl, h4⟩, Der.nil⟩)⟩
theorem step_name {g g2 g9 g3 g6 : Nat} {A : Option Addr} {n c : Nat} {bb nm p : List UInt8} (hm : nm.length = 32) :
    StepV g (putThings g g2 g9 g3 g6 A n c bb nm p) (.func (.func 73) #[] #[.pointer (some ⟨g2, 0, none⟩), .pointer (some ⟨g9, 0, none⟩), .pointer (some ⟨g6, 0, none⟩)]) (nstepF p (placeL nm)) :=
  ⟨73, [], [.pointer (some ⟨g2, 0, none⟩), .pointer (some ⟨g9, 0, none⟩), .pointer (some ⟨g6, 0, none⟩)], rfl, Tryz.call73, fun st d kk hD hk => Con.viaS (put2C hD hk hm) (by
    intro s hs
    simp only [List.mem_cons, List.not_mem_nil, or_false] at hs
    rcases hs with rfl | rfl | rfl
    · exact ⟨_, List.mem_singleton.2 rfl, View.alls 0 rfl⟩
    · exact ⟨_, List.mem_singleton.2 rfl, View.alls 1 rfl⟩
    · exact ⟨_, List.mem_singleton.2 rfl, View.alls 3 rfl⟩) (fun v X S h => by
    obtain ⟨st1, h1, h2, h3, h4⟩ := h
    exact ⟨[], ⟨st1, h1, h2, rfl, h4⟩, Der.nil⟩)⟩
theorem step_sync {g : Nat} {L : List Res} : StepV g L (.func (.func 77) #[.pointer (some ⟨g, 0, none⟩)] #[]) sstepF :=
  ⟨77, [.pointer (some ⟨g, 0, none⟩)], [], rfl, Tryz.call77, fun st d kk hD hk => Con.viaS (dsyncC hD) (fun s hs => by cases hs) (fun v X S h => by
    obtain ⟨st1, h1, h2, h3, h4⟩ := h
    exact ⟨[], ⟨st1, h1, h2, rfl, h4.le (by omega)⟩, Der.nil⟩)⟩
theorem zerosL_length : zerosL.length = 32 := List.length_replicate
theorem z32s : (b8s zerosL).length = 32 := by rw [b8s_length, zerosL_length]
theorem put_big {d : RD} {b : List UInt8} (h : 4096 < b.length) : d.put b = (d, zerosL, 3) := by unfold RD.put; rw [if_pos h]
theorem put_down {d : RD} {b : List UInt8} (h : ¬ 4096 < b.length) (h6 : d.getE (shaL b) = 6) : d.put b = (d, zerosL, 6) := by unfold RD.put; rw [if_neg h, if_pos h6]
theorem put_there {d : RD} {b : List UInt8} (h : ¬ 4096 < b.length) (h6 : d.getE (shaL b) = 0) : d.put b = (d, shaL b, 0) := by unfold RD.put; rw [if_neg h, if_neg (by rw [h6]; decide), if_pos h6]
theorem put_new {d : RD} {b : List UInt8} (h : ¬ 4096 < b.length) (h6 : ¬ d.getE (shaL b) = 6) (h0 : ¬ d.getE (shaL b) = 0) : d.put b = ((d.putR b).1, if (d.putR b).2 = 0 then shaL b else zerosL, (d.putR b).2) := by unfold RD.put; rw [if_neg h, if_neg h6, if_neg h0]
abbrev putVs (g g2 g9 g3 g6 : Nat) : List Value := [.func (.func 71) #[] #[.pointer (some ⟨g2, 0, none⟩), .pointer (some ⟨g9, 0, none⟩), .pointer (some ⟨g3, 0, none⟩)], .func (.func 77) #[.pointer (some ⟨g, 0, none⟩)] #[], .func (.func 73) #[] #[.pointer (some ⟨g2, 0, none⟩), .pointer (some ⟨g9, 0, none⟩), .pointer (some ⟨g6, 0, none⟩)], .func (.func 77) #[.pointer (some ⟨g, 0, none⟩)] #[]]
abbrev putFs (p b nm : List UInt8) : List (RD → RD × Int) := [wstepF p (sealL b), sstepF, nstepF p (placeL nm), sstepF]
theorem put_steps {g g2 g9 g3 g6 : Nat} {A : Option Addr} {n c : Nat} {bb nm p : List UInt8} (hc : n ≤ c) (hl : bb.length = n) (hn : n ≤ 4096) (hm : nm.length = 32) :
    ∀ (i : Nat) (F : RD → RD × Int), (putFs p bb nm)[i]? = some F → ∃ v, (putVs g g2 g9 g3 g6)[i]? = some v ∧ StepV g (putThings g g2 g9 g3 g6 A n c bb nm p) v F := by
  intro i F h
  match i with
  | 0 => cases h; exact ⟨_, rfl, step_write hc hl hn⟩
  | 1 => cases h; exact ⟨_, rfl, step_sync⟩
  | 2 => cases h; exact ⟨_, rfl, step_name hm⟩
  | 3 => cases h; exact ⟨_, rfl, step_sync⟩
  | i + 4 => cases h
theorem putSC {g : Nat} {st : DSt} {d : RD} {kk : Nat} {A : Option Addr} {n c : Nat} {bb : List UInt8} (hD : DS st d kk) (hkk : kk ≤ 90000) (hc : n ≤ c) (hl : bb.length = n) (hn : n ≤ 100000) : Con Tryz.prog 21 [.pointer (some ⟨g, 0, none⟩), .slice A n c] [RDisk g st] [RRd 1 A n (b8s bb), RRoots] (fun v_ X_ S_ => ∃ st1, v_ = (.tuple #[.agg (b8s (d.put bb).2.1).toArray, .int .i64 (d.put bb).2.2]) ∧ X_ = [RDisk g st1] ∧ S_ = [] ∧ (DS st1 (d.put bb).1 (kk + 4))) := by
  have h32 : (b8s (shaL bb)).length = 32 := by rw [b8s_length, shaL_length]
  have hhl : (hexs (shaL bb)).length = 64 := by rw [hexs_length, shaL_length]
  refine henter (N := 53) Tryz.func21 rfl rfl (by simp) fun b => ?_
  refine hfactC (fun m => rdB (m.rd 0 rfl)) ?_
  rintro ⟨hl_r, hA_r⟩
  refine hseq <| hreg <| ?_
  refine hx (xh_box rfl (fun g2 => ?_))
  refine hmemL (fun w m => m.eqX 0 rfl (show _ = RBlk g2 42 [.pointer (some ⟨g, 0, none⟩)] from rfl)) ?_
  refine hx (xh_box rfl (fun g3 => ?_))
  refine hmemL (fun w m => m.eqX 0 rfl (show _ = RBlk g3 27 [.slice A n c] from rfl)) ?_
  refine hx (xh_alloc ti33 (fun g4 => ?_))
  refine hy (fun _ => y_assign rfl) <| hend <| hmemQ (X' := [_, _, _, _]) (S' := [_, _]) (fun _ m => m) <| hthen <| hseq <| hseq <| hreg <| hy (fun m => y_ld1 rfl ag27 (ld_blk (m.blk 1 rfl) rfl)) <| hy (fun _ => y_lenS rfl Tryz.underlying27) <| hy (fun _ => y_gtr rfl rfl) <| hend <| hsub (ρ' := [(15, _), (5, _), (4, _), (3, _), (2, _), (0, _), (1, _)]) ⟨rfl, rfl, rfl, rfl, rfl, rfl, rfl, trivial⟩ <| hthen <| ?_
  refine hif rfl (fun h1 => ?_) (fun h1 => ?_)
  · have hb : 4096 < bb.length := by omega
    rw [put_big hb]
    refine hseq <| hreg <| hy (fun _ => yV (y_build0 ti33 rfl (by kernel_rfl)) ((rfl : _ = Value.agg (b8s zerosL).toArray))) <| ?_
    refine hx0 (xh_stA 0 rfl rfl rfl sz33 z32s b8s_one rfl ?_)
    refine hy (fun _ => y_assign rfl) <| hend <| hsub (ρ' := [(5, _), (15, _), (4, _), (3, _), (2, _), (0, _), (1, _)]) ⟨rfl, rfl, rfl, rfl, rfl, rfl, rfl, trivial⟩ <| hmemQ (X' := [_, _, _, _]) (S' := [_, _]) (fun _ m => m) <| hthen <| hret <| hthen_ret <| ?_
    exact hretN1 trivial rfl rfl rfl ag33 sz33 z32s (fun m => (m.blk 0 rfl).cells0) [3] rfl [] rfl ⟨st, rfl, rfl, rfl, (hD.le (by omega))⟩
  · have hb : ¬ 4096 < bb.length := by omega
    refine hcskip <| hthen <| hseq <| hreg <| hy (fun m => y_ld1 rfl ag27 (ld_blk (m.blk 1 rfl) rfl)) <| ?_
    refine hx (xh_call rfl Tryz.call68 (shaSumC (by omega)) [] rfl [0, 1] rfl ?_)
    rintro _ _ _ ⟨rfl, rfl, rfl⟩
    refine hx (xh_alloc ti33 (fun g6 => ?_))
    refine hx0 (xh_stA 0 rfl rfl rfl sz33 h32 b8s_one rfl ?_)
    refine hend <| hsub (ρ' := [(6, _), (15, _), (5, _), (4, _), (3, _), (2, _), (0, _), (1, _)]) ⟨rfl, rfl, rfl, rfl, rfl, rfl, rfl, rfl, trivial⟩ <| hmemQ (X' := [_, _, _, _, _]) (S' := [_, _]) (fun _ m => m) <| hthen <| hseq <| hreg <| hy (fun m => y_ld1 rfl ag42 (ld_blk (m.blk 3 rfl) rfl)) <| hy (fun m => y_ldN rfl ag33 sz33 h32 ((m.blk 0 rfl).cells0)) <| ?_
    refine hx (xh_call rfl Tryz.call24 (getC hD (shaL_length _)) [4] rfl [1] rfl ?_)
    rintro _ _ _ ⟨v, rfl, rfl, rfl⟩
    refine hfactL (fun m => (m.own 1 rfl).slice) ?_
    rintro ⟨A_x, c_x, rfl, hc_x⟩
    refine hfactL (fun m => (m.ord 1 rfl).2.1) fun hA_x => ?_
    refine hy (fun _ => y_move rfl) <| hy (fun _ => y_extract rfl rfl) <| hy (fun _ => y_extract rfl rfl) <| hy (fun _ => y_assign rfl) <| hy (fun _ => y_assign rfl) <| hend <| hsub (ρ' := [(8, _), (6, _), (15, _), (5, _), (4, _), (3, _), (2, _), (0, _), (1, _)]) ⟨rfl, rfl, rfl, rfl, rfl, rfl, rfl, rfl, rfl, trivial⟩ <| hmemQ (X' := [_, _, _, _, _, _]) (S' := [_, _]) (fun _ m => m) <| hthen <| hseq <| hseq <| hreg <| hy (fun _ => y_move rfl) <| hy (fun _ => y_mki rfl Tryz.underlying39 (fun _ h => by cases h)) <| hy (fun _ => y_mki rfl Tryz.underlying39 (fun _ h => by cases h)) <| ?_
    refine hx (xh_call rfl Tryz.call69 (errIsC) [] rfl [] rfl ?_)
    rintro _ _ _ ⟨rfl, rfl, rfl⟩
    refine hend <| hsub (ρ' := [(28, _), (8, _), (6, _), (15, _), (5, _), (4, _), (3, _), (2, _), (0, _), (1, _)]) ⟨rfl, rfl, rfl, rfl, rfl, rfl, rfl, rfl, rfl, rfl, trivial⟩ <| hmemQ (X' := [_, _, _, _, _, _]) (S' := [_, _]) (fun _ m => m) <| hthen <| ?_
    refine hif rfl (fun h6 => ?_) (fun h6 => ?_)
    · rw [put_down hb h6]
      have h6' : d.getE (shaL bb) = 6 := h6
      rw [h6']
      refine hseq <| hreg <| hy (fun _ => yV (y_build0 ti33 rfl (by kernel_rfl)) ((rfl : _ = Value.agg (b8s zerosL).toArray))) <| hy (fun _ => y_move rfl) <| ?_
      refine hx0 (xh_stA 3 rfl rfl rfl sz33 z32s b8s_one rfl ?_)
      refine hy (fun _ => y_assign rfl) <| hend <| hsub (ρ' := [(5, _), (28, _), (8, _), (6, _), (15, _), (4, _), (3, _), (2, _), (0, _), (1, _)]) ⟨rfl, rfl, rfl, rfl, rfl, rfl, rfl, rfl, rfl, rfl, trivial⟩ <| hmemQ (X' := [_, _, _, _, _, _]) (S' := [_, _]) (fun _ m => m) <| hthen <| hret <| hthen_ret <| ?_
      exact hretN1 trivial rfl rfl rfl ag33 sz33 z32s (fun m => (m.blk 0 rfl).cells0) [1] rfl [] rfl ⟨st, rfl, rfl, rfl, (hD.le (by omega))⟩
    · refine hcskip <| hthen <| hseq <| hseq <| hreg <| hy (fun _ => y_move rfl) <| hy (fun _ => y_eql rfl rfl) <| hend <| hsub (ρ' := [(32, _), (28, _), (8, _), (6, _), (15, _), (5, _), (4, _), (3, _), (2, _), (0, _), (1, _)]) ⟨rfl, rfl, rfl, rfl, rfl, rfl, rfl, rfl, rfl, rfl, rfl, trivial⟩ <| hthen <| ?_
      refine hif rfl (fun h0 => ?_) (fun h0 => ?_)
      · rw [put_there hb h0]
        have h0' : d.getE (shaL bb) = 0 := h0
        rw [h0']
        refine hseq <| hreg <| hy (fun m => y_ldN rfl ag33 sz33 h32 ((m.blk 2 rfl).cells0)) <| hy (fun _ => y_move rfl) <| ?_
        refine hx0 (xh_stA 3 rfl rfl rfl sz33 h32 b8s_one rfl ?_)
        refine hy (fun _ => y_assign rfl) <| hend <| hsub (ρ' := [(5, _), (32, _), (28, _), (8, _), (6, _), (15, _), (4, _), (3, _), (2, _), (0, _), (1, _)]) ⟨rfl, rfl, rfl, rfl, rfl, rfl, rfl, rfl, rfl, rfl, rfl, trivial⟩ <| hmemQ (X' := [_, _, _, _, _, _]) (S' := [_, _]) (fun _ m => m) <| hthen <| hret <| hthen_ret <| ?_
        exact hretN1 trivial rfl rfl rfl ag33 sz33 h32 (fun m => (m.blk 0 rfl).cells0) [1] rfl [] rfl ⟨st, rfl, rfl, rfl, (hD.le (by omega))⟩
      · rw [put_new hb h6 h0]
        refine hcskip <| hthen <| hseq <| hreg <| hy (fun m => y_ldN rfl ag33 sz33 h32 ((m.blk 2 rfl).cells0)) <| ?_
        refine hx (xh_call rfl Tryz.call70 (hnameC (shaL_length _)) [] rfl [] rfl ?_)
        rintro _ _ _ ⟨rfl, rfl, rfl⟩
        refine hy (fun _ => yV (y_sadd rfl rfl (str_sum (a := [116, 47]) (b := hexs (shaL bb)) (by simp [hhl]))) ((show Value.string (strOf [116, 47] ++ strOf (hexs (shaL bb))) = SV (aheadL (shaL bb)) from congrArg Value.string (strOf_append _ _)))) <| ?_
        refine hx (xh_alloc ti9 (fun g9 => ?_))
        refine hx0 (xh_st1 0 rfl rfl rfl sz9 rfl (by first | exact Nat.le_of_ble_eq_true rfl | simp) ?_)
        refine hend <| hsub (ρ' := [(9, _), (32, _), (28, _), (8, _), (6, _), (15, _), (5, _), (4, _), (3, _), (2, _), (0, _), (1, _)]) ⟨rfl, rfl, rfl, rfl, rfl, rfl, rfl, rfl, rfl, rfl, rfl, rfl, trivial⟩ <| hmemQ (X' := [_, _, _, _, _, _, _]) (S' := [_, _]) (fun _ m => m) <| hthen <| hseq <| hreg <| hy (fun _ => y_mkf rfl rfl) <| hy (fun _ => y_assign rfl) <| hend <| hsub (ρ' := [(10, _), (9, _), (32, _), (28, _), (8, _), (6, _), (15, _), (5, _), (4, _), (3, _), (2, _), (0, _), (1, _)]) ⟨rfl, rfl, rfl, rfl, rfl, rfl, rfl, rfl, rfl, rfl, rfl, rfl, rfl, trivial⟩ <| hthen <| hseq <| hreg <| hy (fun _ => y_mkf rfl rfl) <| hy (fun _ => y_assign rfl) <| hend <| hsub (ρ' := [(11, _), (10, _), (9, _), (32, _), (28, _), (8, _), (6, _), (15, _), (5, _), (4, _), (3, _), (2, _), (0, _), (1, _)]) ⟨rfl, rfl, rfl, rfl, rfl, rfl, rfl, rfl, rfl, rfl, rfl, rfl, rfl, rfl, trivial⟩ <| hthen <| hseq <| hseq <| hreg <| hy (fun _ => y_move rfl) <| hy (fun m => y_ld1 rfl ag42 (ld_blk (m.blk 6 rfl) rfl)) <| hy (fun _ => y_mkf rfl rfl) <| hy (fun _ => y_move rfl) <| hy (fun m => y_ld1 rfl ag42 (ld_blk (m.blk 6 rfl) rfl)) <| hy (fun _ => y_mkf rfl rfl) <| ?_
        refine hx (xh_bsl Tryz.underlying148 ti135 rfl rfl rfl (by simp [Value.cells, B8]) (by decide) (by decide) (fun g46 => ?_))
        have hA_b46 : 0 < 4 → (some (⟨g46, 0, none⟩ : Addr)) ≠ none := fun _ h => by cases h
        refine hmemL (fun w m => m.eqX 1 rfl (show _ = RBlk g9 9 [SV (aheadL (shaL bb))] from rfl)) ?_
        refine hmemL (fun w m => m.eqX 4 rfl (show _ = RBlk g6 33 (b8s (shaL bb)) from rfl)) ?_
        refine hmemL (fun w m => m.eqX 2 rfl (show _ = ROwn 135 1 (.slice (some ⟨g46, 0, none⟩) 4 4) 4 (putVs g g2 g9 g3 g6) from rfl)) ?_
        refine hmemL (fun w m => (m.perm (takeR_perm [7] _ [_] _ rfl)).freeze) ?_
        refine hmemL (fun w m => (m.perm (takeR_perm [2] _ [_] _ rfl)).freeze) ?_
        refine hmemL (fun w m => (m.perm (takeR_perm [5] _ [_] _ rfl)).freeze) ?_
        refine hmemL (fun w m => (m.perm (takeR_perm [1] _ [_] _ rfl)).freeze) ?_
        refine hmemL (S' := RAll (putThings g g2 g9 g3 g6 A n c bb (shaL bb) (aheadL (shaL bb))) :: _) (fun w m => m.allS [3, 2, 1, 0, 4] rfl) ?_
        refine hx (xh_calll rfl Tryz.call76 (allC hD (by omega) (show 4 ≤ 100000 by decide) rfl (put_steps hc hl (by omega) (shaL_length _)) (kk := kk) (Fs := (putFs (aheadL (shaL bb)) bb (shaL bb))) (fs := (putVs g g2 g9 g3 g6)) (L := (putThings g g2 g9 g3 g6 A n c bb (shaL bb) (aheadL (shaL bb))))) [1] rfl (.x 0 rfl .own (.s 0 rfl .nil)) ?_)
        rintro _ _ _ ⟨st1, rfl, rfl, rfl, hD1⟩
        refine ⟨rfl, ?_⟩
        refine hy (fun _ => y_assign rfl) <| hend <| hsub (ρ' := [(12, _), (11, _), (10, _), (9, _), (32, _), (28, _), (8, _), (6, _), (15, _), (5, _), (4, _), (3, _), (2, _), (0, _), (1, _)]) ⟨rfl, rfl, rfl, rfl, rfl, rfl, rfl, rfl, rfl, rfl, rfl, rfl, rfl, rfl, rfl, trivial⟩ <| hmemQ (X' := [_, _, _, _]) (S' := [_, _, _, _, _, _, _]) (fun _ m => m) <| hthen <| hseq <| hreg <| hy (fun _ => y_move rfl) <| hy (fun _ => y_neq rfl rfl) <| hend <| hsub (ρ' := [(49, _), (12, _), (11, _), (10, _), (9, _), (32, _), (28, _), (8, _), (6, _), (15, _), (5, _), (4, _), (3, _), (2, _), (0, _), (1, _)]) ⟨rfl, rfl, rfl, rfl, rfl, rfl, rfl, rfl, rfl, rfl, rfl, rfl, rfl, rfl, rfl, rfl, trivial⟩ <| hthen <| ?_
        refine hif rfl (fun h2 => ?_) (fun h2 => ?_)
        · have hn2 : ¬ (d.putR bb).2 = 0 := h2
          rw [if_neg hn2]
          refine hseq <| hreg <| hy (fun _ => yV (y_build0 ti33 rfl (by kernel_rfl)) ((rfl : _ = Value.agg (b8s zerosL).toArray))) <| hy (fun _ => y_move rfl) <| ?_
          refine hx0 (xh_stA 3 rfl rfl rfl sz33 z32s b8s_one rfl ?_)
          refine hy (fun _ => y_assign rfl) <| hend <| hsub (ρ' := [(5, _), (49, _), (12, _), (11, _), (10, _), (9, _), (32, _), (28, _), (8, _), (6, _), (15, _), (4, _), (3, _), (2, _), (0, _), (1, _)]) ⟨rfl, rfl, rfl, rfl, rfl, rfl, rfl, rfl, rfl, rfl, rfl, rfl, rfl, rfl, rfl, rfl, trivial⟩ <| hmemQ (X' := [_, _, _, _]) (S' := [_, _, _, _, _, _, _]) (fun _ m => m) <| hthen <| hret <| hthen_ret <| ?_
          exact hretN1 trivial rfl rfl rfl ag33 sz33 z32s (fun m => (m.blk 0 rfl).cells0) [1] rfl [] rfl ⟨st1, rfl, rfl, rfl, hD1⟩
        · have h2 := Decidable.not_not.1 h2
          have h2' : (runF (putFs (aheadL (shaL bb)) bb (shaL bb)) d).2 = 0 := h2
          have h2'' : (d.putR bb).2 = 0 := h2'
          rw [if_pos h2'', h2'']
          refine hcskip <| hthen <| hseq <| hreg <| hy (fun m => y_ldN rfl ag33 sz33 h32 ((m.blkS 1 rfl).cells0)) <| ?_
          refine hx0 (xh_stA 3 rfl rfl rfl sz33 h32 b8s_one rfl ?_)
          refine hy (fun _ => y_assign rfl) <| hend <| hsub (ρ' := [(5, _), (49, _), (12, _), (11, _), (10, _), (9, _), (32, _), (28, _), (8, _), (6, _), (15, _), (4, _), (3, _), (2, _), (0, _), (1, _)]) ⟨rfl, rfl, rfl, rfl, rfl, rfl, rfl, rfl, rfl, rfl, rfl, rfl, rfl, rfl, rfl, rfl, trivial⟩ <| hmemQ (X' := [_, _, _, _]) (S' := [_, _, _, _, _, _, _]) (fun _ m => m) <| hthen <| hret <| ?_
          exact hretN1 trivial rfl rfl rfl ag33 sz33 h32 (fun m => (m.blk 0 rfl).cells0) [1] rfl [] rfl ⟨st1, rfl, rfl, rfl, hD1⟩
end Go.Proofs.YtfikjheicjamhaaGreatDoor
end
section
/- Superblocks, over plain lists. No program. -/
set_option linter.unusedVariables false
set_option linter.unusedSimpArgs false
namespace Go.Hx
open Go.Eng
/-- a slot -/
structure Sl where
  full : Bool
  image : List UInt8
  size : Int
deriving DecidableEq
def Sl.zero : Sl := ⟨false, List.replicate 32 0, 0⟩
def Sl.cs (x : Sl) : List Value := Value.bool x.full :: (b8s x.image ++ [.int .i64 x.size])
def Sl.lits (x : Sl) : List Lit := Lit.bool x.full :: ((x.image.map fun b => Lit.int .u8 (b.toNat : Int)) ++ [.int .i64 x.size])
structure Sl.wf (x : Sl) : Prop where
  len : x.image.length = 32
  lo : -9223372036854775808 ≤ x.size
  hi : x.size ≤ 9223372036854775807
/-- may a slot be? -/
def Sl.may (x : Sl) : Prop := 0 ≤ x.size ∧ x.size ≤ 65536 ∧ (x.full = false → x = Sl.zero)
instance (x : Sl) : Decidable x.may := by unfold Sl.may; infer_instance
/-- a superblock -/
structure Sup where
  active : Int
  gen : Int
  s0 : Sl
  s1 : Sl
deriving DecidableEq
def Sup.zero : Sup := ⟨0, 0, Sl.zero, Sl.zero⟩
def Sup.cs (s : Sup) : List Value := .int .i64 s.active :: .int .i64 s.gen :: (s.s0.cs ++ s.s1.cs)
structure Sup.wf (s : Sup) : Prop where
  a0 : -9223372036854775808 ≤ s.active
  a1 : s.active ≤ 9223372036854775807
  g0 : -9223372036854775808 ≤ s.gen
  g1 : s.gen ≤ 9223372036854775807
  w0 : s.s0.wf
  w1 : s.s1.wf
def Sup.may (s : Sup) : Prop := (s.active = 0 ∨ s.active = 1) ∧ 0 ≤ s.gen ∧ s.gen ≤ 2147483647 ∧ s.s0.may ∧ s.s1.may
instance (s : Sup) : Decidable s.may := by unfold Sup.may; infer_instance
def Sl.by_ (x : Sl) : List UInt8 := (if x.full then 1 else 0) :: (x.image ++ le4 x.size.toNat)
def Sup.body (s : Sup) : List UInt8 := [76, 84, 83, 49] ++ [UInt8.ofNat s.active.toNat] ++ le4 s.gen.toNat ++ s.s0.by_ ++ s.s1.by_
def Sup.bytes (s : Sup) : List UInt8 := putL s.body
/-- the slot that is number i -/
def Sup.at (s : Sup) (i : Nat) : Sl := if i = 0 then s.s0 else s.s1
def Sup.put (s : Sup) (i : Nat) (x : Sl) : Sup := if i = 0 then { s with s0 := x } else { s with s1 := x }
end Go.Hx
end
section
/- What is done with superblocks, over plain disks. No program walked. -/
set_option linter.unusedVariables false
set_option linter.unusedSimpArgs false
namespace Go.Proofs.YtfikjheicjamhaaGreatDoor
open Go.Eng Go.Hx
/-- a slot of bytes -/
def rdSl (l : List UInt8) : Sl := ⟨decide (l.getD 0 0 = 1), (l.drop 1).take 32, (num4 (l.drop 33) : Nat)⟩
def rdBody (l : List UInt8) : Sup := ⟨(l.getD 4 0).toNat, (num4 (l.drop 5) : Nat), rdSl (l.drop 9), rdSl (l.drop 46)⟩
/-- the superblock of bytes, or why there is none -/
def rdOk (l : List UInt8) : Prop := l.length = 83 ∧ l.take 4 = [76, 84, 83, 49] ∧ (l.getD 9 0).toNat ≤ 1 ∧ (l.getD 46 0).toNat ≤ 1 ∧ (rdBody l).may
instance (l : List UInt8) : Decidable (rdOk l) := by unfold rdOk; infer_instance
/-- the other slot -/
def _root_.Go.Hx.Sup.other (s : Sup) : Nat := (1 - s.active).toNat
end Go.Proofs.YtfikjheicjamhaaGreatDoor
end
section
/- Plain disks that hold superblocks and their images: what each function of layer 22 leaves. No program. -/
set_option linter.unusedVariables false
set_option linter.unusedSimpArgs false
namespace Go.Proofs.YtfikjheicjamhaaGreatDoor
open Go.Eng Go.Hx
theorem totF_filter (q : FP → Bool) (l : List FP) : totF (l.filter q) ≤ totF l := by
  induction l with
  | nil => exact Nat.le_refl _
  | cons x r ih =>
    rw [List.filter_cons]
    have e : totF (x :: r) = x.2.length + totF r := by simp [totF]
    split
    · have e2 : totF (x :: r.filter q) = x.2.length + totF (r.filter q) := by simp [totF]
      omega
    · omega
theorem totF_filter_mem {q : FP → Bool} {l : List FP} {x : FP} (hx : x ∈ l) (hq : q x = false) : totF (l.filter q) + x.2.length ≤ totF l := by
  induction l with
  | nil => cases hx
  | cons y r ih =>
    rw [List.filter_cons]
    have e : totF (y :: r) = y.2.length + totF r := by simp [totF]
    rcases List.mem_cons.1 hx with rfl | hm
    · rw [hq]
      have := totF_filter q r
      simp only [Bool.false_eq_true, if_false]
      omega
    · have h1 := ih hm
      split
      · have e2 : totF (y :: r.filter q) = y.2.length + totF (r.filter q) := by simp [totF]
        omega
      · omega
theorem totF_ins (l : List FP) (f : FP) : totF (insF l f) ≤ totF l + f.2.length := by
  induction l with
  | nil => simp [insF, totF]
  | cons x r ih =>
    have e : totF (x :: r) = x.2.length + totF r := by simp [totF]
    rw [insF]
    split
    · have e2 : totF (x :: insF r f) = x.2.length + totF (insF r f) := by simp [totF]
      omega
    · have e2 : totF (f :: (x :: r).filter fun y => decide (y.1 ≠ f.1)) = f.2.length + totF ((x :: r).filter fun y => decide (y.1 ≠ f.1)) := by simp [totF]
      have := totF_filter (fun y => decide (y.1 ≠ f.1)) (x :: r)
      omega
/-- a disk that is up for good: what lies on it, how much, and its room -/
structure At (d : RD) (F : List UInt8 → Option (List UInt8)) (T : Nat) (room : Int) : Prop where
  pw : d.pw = -1
  room : d.room = room
  look : ∀ p, lk d.seen p = F p
  tot : totF d.seen ≤ T
def fup (F : List UInt8 → Option (List UInt8)) (p : List UInt8) (v : Option (List UInt8)) : List UInt8 → Option (List UInt8) := fun q => if q = p then v else F q
theorem At.readE {d : RD} {F : List UInt8 → Option (List UInt8)} {T : Nat} {room : Int} (h : At d F T room) (p : List UInt8) : d.readE p = if F p = none then 4 else 0 := by
  have h1 := h.look p
  rw [← lk_find] at h1
  rw [RD.readE, if_neg (by rw [h.pw]; decide)]
  cases hq : d.seen[findN d.seen p]? with
  | none => rw [hq] at h1; rw [if_pos rfl, if_pos (by rw [← h1]; rfl)]
  | some x => rw [hq] at h1; rw [if_neg (by simp), if_neg (by rw [← h1]; simp)]
theorem At.readB {d : RD} {F : List UInt8 → Option (List UInt8)} {T : Nat} {room : Int} (h : At d F T room) (p : List UInt8) : d.readB p = (F p).getD [] := by
  have h1 := h.look p
  rw [← lk_find] at h1
  rw [RD.readB, if_neg (by rw [h.pw]; decide), h1]
theorem At.writeE {d : RD} {F : List UInt8 → Option (List UInt8)} {T : Nat} {room : Int} (h : At d F T room) {p l : List UInt8} (hp : Named p) (hr : (T : Int) + (l.length : Nat) ≤ room) : d.writeE p l = 0 := by
  have h1 := h.tot
  have h2 := h.room
  rw [RD.writeE, if_neg (fun h => h hp), if_neg (by rw [h.pw]; decide), if_neg (by omega)]
theorem At.write {d : RD} {F : List UInt8 → Option (List UInt8)} {T : Nat} {room : Int} (h : At d F T room) {p l : List UInt8} (hp : Named p) (hr : (T : Int) + (l.length : Nat) ≤ room) : At (d.write p l) (fup F p (some l)) (T + l.length) room := by
  have hs : (d.write p l).seen = insF d.seen (p, l) := by
    rw [RD.write, if_pos (h.writeE hp hr)]
    show makeF d.seen 0 p [] l = _
    rw [makeF, if_pos rfl, withF_ins]
  refine ⟨?_, ?_, fun q => ?_, ?_⟩
  · rw [RD.write, if_pos (h.writeE hp hr)]
    show lessP d.pw = -1
    rw [h.pw]; rfl
  · rw [RD.write, if_pos (h.writeE hp hr)]; exact h.room
  · rw [hs, lk_ins]
    unfold fup
    split
    · rfl
    · exact h.look q
  · rw [hs]
    have := totF_ins d.seen (p, l)
    have := h.tot
    have e : (p, l).2.length = l.length := rfl
    omega
theorem At.syncE {d : RD} {F : List UInt8 → Option (List UInt8)} {T : Nat} {room : Int} (h : At d F T room) : d.syncE = 0 := by rw [RD.syncE, if_neg (by rw [h.pw]; decide)]
theorem At.sync {d : RD} {F : List UInt8 → Option (List UInt8)} {T : Nat} {room : Int} (h : At d F T room) : At d.sync F T room := by
  have e : d.sync = { d with lasts := d.seen, waits := [], pw := lessP d.pw } := by rw [RD.sync, if_neg (by rw [h.pw]; decide)]
  rw [e]
  exact ⟨by show lessP d.pw = -1; rw [h.pw]; rfl, h.room, h.look, h.tot⟩
theorem At.renameE {d : RD} {F : List UInt8 → Option (List UInt8)} {T : Nat} {room : Int} (h : At d F T room) {a c x : List UInt8} (hc : Named c) (hx : F a = some x) : d.renameE a c = 0 := by
  rw [RD.renameE, if_neg (fun h => h hc), h.readE, if_neg (by rw [hx]; simp)]
theorem At.rename {d : RD} {F : List UInt8 → Option (List UInt8)} {T : Nat} {room : Int} (h : At d F T room) {a c x : List UInt8} (hc : Named c) (hx : F a = some x) : At (d.rename a c) (fup (fup F a none) c (some x)) T room := by
  have h1 := h.look a
  rw [← lk_find, hx] at h1
  obtain ⟨y, hy, hyx⟩ : ∃ y, d.seen[findN d.seen a]? = some y ∧ y.2 = x := by
    cases hq : d.seen[findN d.seen a]? with
    | none => rw [hq] at h1; cases h1
    | some y => rw [hq] at h1; exact ⟨y, rfl, by simpa using h1⟩
  have hya : y.1 = a := by
    obtain ⟨hi, he⟩ := List.getElem?_eq_some_iff.1 hy
    have := List.findIdx_getElem (p := fun x : FP => decide (x.1 = a)) (xs := d.seen) (w := hi)
    rw [← he]
    exact of_decide_eq_true this
  have hs : (d.rename a c).seen = insF (withoutF d.seen a) (c, x) := by
    rw [RD.rename, if_pos (h.renameE hc hx)]
    show makeF d.seen 1 a c [] = _
    rw [makeF, if_neg (by decide), hy]
    show (if (1 : Int) = 2 then _ else _) = _
    rw [if_neg (by decide), withF_ins, hyx]
  refine ⟨?_, ?_, fun q => ?_, ?_⟩
  · rw [RD.rename, if_pos (h.renameE hc hx)]
    show lessP d.pw = -1
    rw [h.pw]; rfl
  · rw [RD.rename, if_pos (h.renameE hc hx)]; exact h.room
  · rw [hs, lk_ins]
    unfold fup withoutF
    split
    · rfl
    · rw [lk_filter]
      split
      · rfl
      · exact h.look q
  · rw [hs]
    have h2 := totF_ins (withoutF d.seen a) (c, x)
    have h3 : totF (withoutF d.seen a) + y.2.length ≤ totF d.seen := totF_filter_mem (List.mem_of_getElem? hy) (by simp [hya])
    have := h.tot
    have e : (c, x).2.length = x.length := rfl
    rw [hyx] at h3
    omega
end Go.Proofs.YtfikjheicjamhaaGreatDoor
end
section
/- Chunks by their names (layer 13), over plain disks: what was put is got. No program. -/
set_option linter.unusedVariables false
set_option linter.unusedSimpArgs false
namespace Go.Proofs.YtfikjheicjamhaaGreatDoor
open Go.Eng Go.Hx
theorem hexd_ne0 : ∀ i : Nat, i < 16 → hexd.getD i 0 ≠ 0 := by decide
theorem hexs_ne0 (l : List UInt8) : ¬ (0 : UInt8) ∈ hexs l := by
  intro h
  unfold hexs at h
  obtain ⟨x, hx, hc⟩ := List.mem_flatMap.1 h
  have hb := x.toNat_lt
  simp only [hex1, List.mem_cons, List.not_mem_nil, or_false] at hc
  rcases hc with hc | hc
  · exact hexd_ne0 _ (by omega) hc.symm
  · exact hexd_ne0 _ (by omega) hc.symm
theorem nm_place {nm : List UInt8} (h : nm.length = 32) : Named (placeL nm) := by
  refine ⟨by simp [placeL], by rw [placeL_length h]; decide, fun hz => ?_⟩
  unfold placeL at hz
  simp only [List.mem_append, List.mem_cons, List.not_mem_nil, or_false] at hz
  rcases hz with ((hz | hz) | hz) | hz
  · rcases hz with hz | hz <;> exact absurd hz (by decide)
  · exact hexs_ne0 nm (List.mem_of_mem_take hz)
  · exact absurd hz (by decide)
  · exact hexs_ne0 nm hz
theorem nm_ahead {nm : List UInt8} (h : nm.length = 32) : Named (aheadL nm) := by
  refine ⟨by simp [aheadL], by rw [aheadL_length h]; decide, fun hz => ?_⟩
  unfold aheadL at hz
  simp only [List.mem_append, List.mem_cons, List.not_mem_nil, or_false] at hz
  rcases hz with hz | hz
  · rcases hz with hz | hz <;> exact absurd hz (by decide)
  · exact hexs_ne0 nm hz
theorem place_ahead (a b : List UInt8) : placeL a ≠ aheadL b := by
  intro h
  unfold placeL aheadL at h
  simp only [List.cons_append, List.nil_append, List.cons.injEq] at h
  exact absurd h.1 (by decide)
theorem sync_clean {d : RD} (h : d.pw = -1) : d.sync.lasts = d.sync.seen ∧ d.sync.waits = [] := by
  have e : d.sync = { d with lasts := d.seen, waits := [], pw := lessP d.pw } := by rw [RD.sync, if_neg (by rw [h]; decide)]
  rw [e]
  exact ⟨rfl, rfl⟩
/-- a disk that waits for nothing -/
structure SD (d : RD) (F : List UInt8 → Option (List UInt8)) (T : Nat) (room : Int) : Prop where
  at_ : At d F T room
  same : d.lasts = d.seen
  waits : d.waits = []
theorem SD.new (room : Int) : SD (RD.new room) (fun _ => none) 0 room := ⟨⟨rfl, rfl, fun p => rfl, Nat.le_refl _⟩, rfl, rfl⟩
theorem SD.restart {d : RD} {F : List UInt8 → Option (List UInt8)} {T : Nat} {room : Int} (h : SD d F T room) (keep : List Bool) : SD (d.restart keep) F T room := by
  have e : (d.restart keep).seen = d.seen := by
    show (dfold keep d d.waits.length).2 = _
    rw [h.waits, ← h.same]; simp [dfold]
  exact ⟨⟨rfl, h.at_.room, fun p => by rw [e]; exact h.at_.look p, by rw [e]; exact h.at_.tot⟩, rfl, rfl⟩
theorem getE_at {d : RD} {F : List UInt8 → Option (List UInt8)} {T : Nat} {room : Int} (h : At d F T room) {nm : List UInt8} (hF : F (placeL nm) = none) : d.getE nm = 4 := by
  have e : d.readE (placeL nm) = 4 := by rw [h.readE, if_pos hF]
  rw [getE_read (by rw [e]; decide), e]
theorem get_at {d : RD} {F : List UInt8 → Option (List UInt8)} {T : Nat} {room : Int} (h : At d F T room) {b : List UInt8} (hb : b.length ≤ 4096) (hF : F (placeL (shaL b)) = some (sealL b)) : d.getE (shaL b) = 0 ∧ d.getB (shaL b) = b := by
  have e : d.readE (placeL (shaL b)) = 0 := by rw [h.readE, if_neg (by rw [hF]; simp)]
  have eB : d.readB (placeL (shaL b)) = sealL b := by rw [h.readB, hF]; rfl
  have eo : d.opn (shaL b) = (b, 0) := by unfold RD.opn; rw [eB]; exact open_seal (by omega) (by omega)
  have e0 : d.getE (shaL b) = 0 := getE_ok e (by rw [eo]; simp)
  exact ⟨e0, by rw [getB_ok e0, eo]⟩
/-- the files behind a Put -/
def putF (F : List UInt8 → Option (List UInt8)) (b : List UInt8) : List UInt8 → Option (List UInt8) := fup (fup (fup F (aheadL (shaL b)) (some (sealL b))) (aheadL (shaL b)) none) (placeL (shaL b)) (some (sealL b))
theorem putF_place (F : List UInt8 → Option (List UInt8)) (b : List UInt8) : putF F b (placeL (shaL b)) = some (sealL b) := if_pos rfl
theorem SD.putR {d : RD} {F : List UInt8 → Option (List UInt8)} {T : Nat} {room : Int} (h : SD d F T room) {b : List UInt8} (hr : (T : Int) + (sealL b).length ≤ room) :
    ∃ d', d.putR b = (d', 0) ∧ SD d' (putF F b) (T + (sealL b).length) room := by
  have hn := nm_ahead (nm := shaL b) (shaL_length b)
  have hp := nm_place (nm := shaL b) (shaL_length b)
  have h1 := h.at_.write (p := aheadL (shaL b)) (l := sealL b) hn (by omega)
  have h2 := h1.sync
  have hx : fup F (aheadL (shaL b)) (some (sealL b)) (aheadL (shaL b)) = some (sealL b) := if_pos rfl
  have h3 := h2.rename hp hx
  obtain ⟨c1, c2⟩ := sync_clean h3.pw
  refine ⟨_, ?_, ⟨h3.sync, c1, c2⟩⟩
  unfold RD.putR
  rw [runF, if_neg (by show ¬ d.writeE _ _ ≠ 0; rw [h.at_.writeE hn (by omega)]; decide)]
  rw [runF, if_neg (by show ¬ (d.write _ _).syncE ≠ 0; rw [h1.syncE]; decide)]
  rw [runF, if_neg (by show ¬ (d.write _ _).sync.renameE _ _ ≠ 0; rw [h2.renameE hp hx]; decide)]
  rw [runF, if_neg (by show ¬ ((d.write _ _).sync.rename _ _).syncE ≠ 0; rw [h3.syncE]; decide)]
  rfl
theorem SD.put {d : RD} {F : List UInt8 → Option (List UInt8)} {T : Nat} {room : Int} (h : SD d F T room) {b : List UInt8} (hb : b.length ≤ 4096) (hF : F (placeL (shaL b)) = none) (hr : (T : Int) + (sealL b).length ≤ room) :
    ∃ d', d.put b = (d', shaL b, 0) ∧ SD d' (putF F b) (T + (sealL b).length) room := by
  have e4 := getE_at h.at_ hF
  obtain ⟨d', e, hd⟩ := h.putR hr
  refine ⟨d', ?_, hd⟩
  unfold RD.put
  rw [if_neg (by omega), if_neg (by rw [e4]; decide), if_neg (by rw [e4]; decide), e]
  rfl
end Go.Proofs.YtfikjheicjamhaaGreatDoor
end
section
/- Contracts: chunks by their names (layer 13): the law's disk, the document's example. -/
set_option linter.unusedVariables false
set_option linter.unusedSimpArgs false
set_option maxRecDepth 20000
set_option maxHeartbeats 4000000
namespace Go.Proofs.YtfikjheicjamhaaGreatDoor
open Go.Eng Go.Hx
theorem bld_w13 {P : Program} {pl : Nat → Option (Nat × Nat)} {A : Option Addr} {x : RX} {zs : List Value} (hz : zs.length = 6) (p0 : pl 0 = some (0, 1)) (p1 : pl 1 = some (1, 5)) :
    Bld P pl zs [(0, .pointer A), (1, .agg x.cs.toArray)] (.pointer A :: x.cs) := by
  match zs, hz with
  | [_, _, _, _, _, _], _ => exact .cons (vs := [.pointer A]) p0 rfl rfl (by show 0 + 1 ≤ 6; decide) (.cons (vs := x.cs) p1 rfl rfl (by show 1 + 5 ≤ 6; decide) .nil)
theorem begin13C {room : Int} (h1 : 1 ≤ room) (h2 : room ≤ 1048576) : Con Tryz.prog 18 [.int .i64 room] [] [] (fun v_ X_ S_ => ∃ gw gd gs gl y, v_ = (.pointer (some ⟨gw, 0, none⟩)) ∧ X_ = [RBlk gw 63 (.pointer (some ⟨gd, 0, none⟩) :: y.cs), RDisk gd (dinit room gs gl)] ∧ S_ = [RRef y] ∧ (y.d = RD.new room)) := by
  refine henter (N := 21) Tryz.func18 rfl rfl (by simp) fun b => ?_
  refine hseq <| hreg <| hy (fun _ => y_assign rfl) <| hend <| hthen <| hseq <| hreg <| hy (fun _ => y_move rfl) <| ?_
  refine hx (xh_call rfl Tryz.call34 (newC h1 h2) [] rfl [] rfl ?_)
  rintro _ _ _ ⟨g, gs, gl, rfl, rfl, rfl⟩
  refine hy (fun _ => y_move rfl) <| hy (fun _ => y_extract rfl rfl) <| hy (fun _ => y_extract rfl rfl) <| hy (fun _ => y_assign rfl) <| hy (fun _ => y_assign rfl) <| hend <| hsub (ρ' := [(4, _), (3, _), (2, _), (0, _)]) ⟨rfl, rfl, rfl, rfl, trivial⟩ <| hmemQ (X' := [_]) (S' := []) (fun _ m => m) <| hthen <| hseq <| hseq <| hreg <| hy (fun _ => y_move rfl) <| hy (fun _ => y_eqPn rfl rfl (by kernel_rfl)) <| hy (fun _ => y_move rfl) <| ?_
  refine hyg (o := _) rfl rfl rfl (fun _ => y_move rfl) <| hyg (o := _) rfl rfl rfl (fun _ => y_neq rfl rfl) <| hy (fun _ => y_pickF rfl rfl) <| hend <| hsub (ρ' := [(15, _), (4, _), (3, _), (2, _), (0, _)]) ⟨rfl, rfl, rfl, rfl, rfl, trivial⟩ <| hthen <| ?_
  refine hiff rfl ((by decide)) ?_
  refine hcskip <| hthen <| hseq <| hreg <| hy (fun _ => y_move rfl) <| hy (fun _ => y_move rfl) <| ?_
  refine hx (xh_call rfl Tryz.call35 (rnewX) [] rfl [] rfl ?_)
  rintro _ _ _ ⟨y, rfl, rfl, rfl, hy1⟩
  refine hy (fun _ => y_build ti63 rfl rfl (by kernel_rfl) (bld_w13 rfl pl63_0 pl63_1)) <| ?_
  refine hx (xh_box rfl (fun g20 => ?_))
  refine hmemL (fun w m => m.eqX 0 rfl (show _ = RBlk g20 63 (.pointer (some ⟨g, 0, none⟩) :: y.cs) from congrArg (RBlk _ _) (cells_agg _))) ?_
  refine hy (fun _ => y_assign rfl) <| hend <| hsub (ρ' := [(2, _), (15, _), (4, _), (3, _), (0, _)]) ⟨rfl, rfl, rfl, rfl, rfl, trivial⟩ <| hmemQ (X' := [_, _]) (S' := [_]) (fun _ m => m) <| hthen <| hret <| ?_
  exact hret1 trivial rfl rfl [0, 0] rfl [0] rfl ⟨g20, g, gs, gl, y, rfl, rfl, rfl, hy1⟩
def helloL : List UInt8 := [104, 101, 108, 108, 111]
theorem lives13C  : Con Tryz.prog 27 [] [] [RRoots] (fun v_ X_ S_ => v_ = (.bool true) ∧ X_ = [] ∧ S_ = []) := by
  obtain ⟨h10, hsl⟩ := sealL_le helloL
  have hhl : helloL.length = 5 := rfl
  obtain ⟨d', e1, hd⟩ := (SD.new 1000).put (b := helloL) (by decide) rfl (by omega)
  have h32 : (b8s (shaL helloL)).length = 32 := by rw [b8s_length, shaL_length]
  obtain ⟨g1_, g2_⟩ := get_at hd.at_ (b := helloL) (by decide) (putF_place _ _)
  generalize hnm : shaL helloL = nm at h32 g1_ g2_ e1
  have hm : nm.length = 32 := by rw [← hnm, shaL_length]
  refine henter (N := 60) Tryz.func27 rfl rfl (by simp) fun b => ?_
  refine hseq <| hreg <| hy (fun _ => y_assign rfl) <| hend <| hthen <| hseq <| hreg <| ?_
  refine hx (xh_call rfl Tryz.call18 (begin13C (by decide) (by decide)) [] rfl [] rfl ?_)
  rintro _ _ _ ⟨gw, gd, gs, gl, y, rfl, rfl, rfl, hp⟩
  refine hy (fun _ => y_assign rfl) <| hend <| hsub (ρ' := [(1, _), (0, _)]) ⟨rfl, rfl, trivial⟩ <| hmemQ (X' := [_, _]) (S' := [_, _]) (fun _ m => m) <| hthen <| hseq <| hseq <| hreg <| hy (fun _ => y_move rfl) <| hy (fun _ => y_eqPn rfl rfl (by kernel_rfl)) <| hend <| hsub (ρ' := [(9, _), (1, _), (0, _)]) ⟨rfl, rfl, rfl, trivial⟩ <| hthen <| ?_
  refine hiff rfl (rfl) ?_
  have hD0 : DS (dinit 1000 gs gl) (RD.new 1000) 0 := DS.init (by decide)
  refine hcskip <| hthen <| hseq <| hreg <| hy (fun _ => y_move rfl) <| hy (fun _ => y_nilp rfl) <| hy (fun _ => y_fld rfl fa63_0 (by decide)) <| hy (fun m => y_ld1 rfl ag42 (ld_blk (m.blk 0 rfl) (i := 0) rfl)) <| ?_
  refine hx (xh_bsl Tryz.underlying27 ti5 rfl rfl rfl (by simp [Value.cells, B8]) (by decide) (by decide) (fun g15 => ?_))
  have hA_b15 : 0 < 5 → (some (⟨g15, 0, none⟩ : Addr)) ≠ none := fun _ h => by cases h
  refine hx (xh_cvS 0 rfl rfl Tryz.underlying27 Tryz.underlying5 ?_)
  refine hmemL (fun w m => m.eqX 0 rfl (show _ = ROwn 5 1 (.slice (some ⟨g15, 0, none⟩) 5 5) 5 (b8s helloL) from rfl)) ?_
  refine hx (xh_calll rfl Tryz.call21 (putSC hD0 (by decide) (Nat.le_refl 5) hhl (show 5 ≤ 100000 by decide)) [2] rfl (.x 0 rfl .own (.s 1 rfl .nil)) ?_)
  rintro _ _ _ ⟨st1, rfl, rfl, rfl, hD1⟩
  refine ⟨rfl, ?_⟩
  rw [e1]
  rw [e1] at hD1
  refine hy (fun _ => y_move rfl) <| hy (fun _ => y_extract rfl rfl) <| hy (fun _ => y_extract rfl rfl) <| ?_
  refine hx (xh_alloc ti33 (fun g2 => ?_))
  refine hx0 (xh_stA 0 rfl rfl rfl sz33 h32 b8s_one rfl ?_)
  refine hy (fun _ => y_assign rfl) <| hend <| hsub (ρ' := [(3, _), (2, _), (9, _), (1, _), (0, _)]) ⟨rfl, rfl, rfl, rfl, rfl, trivial⟩ <| hmemQ (X' := [_, _, _, _]) (S' := [_, _]) (fun _ m => m) <| hthen <| hseq <| hdrw [5] [(0, some 0), (1, some 0), (2, some 0), (3, some 0), (4, some 0), (5, none), (6, some 1), (7, some 1), (8, some 1), (9, some 1), (10, some 1)] (by kernel_rfl) (by kernel_rfl) rfl 99 <| htyU (y_move rfl) <| htyU (y_nilp rfl) <| htyU (y_fld rfl fa63_0 (by decide)) <| hty (fun m => y_ld1 rfl ag42 (ld_blk (m.blk 3 rfl) (i := 0) rfl)) <| hty (fun m => y_ldN rfl ag33 sz33 h32 ((m.blk 0 rfl).cells0)) <| ?_
  refine htx (xh_call rfl Tryz.call24 (getC hD1 hm) [1] rfl [1] rfl ?_)
  rintro _ _ _ ⟨v, rfl, rfl, rfl⟩
  refine ⟨(fun _ => wk [2, 0, 1, 1] [0, 1] rfl rfl), ?_⟩
  refine htfact (fun m => (m.own 1 rfl).slice) ?_
  rintro ⟨A_x, c_x, rfl, hc_x⟩
  refine htfact (fun m => (m.ord 1 rfl).2.1) fun hA_x => ?_
  rw [g1_, g2_]
  have hw0 : st1.waits.length = 0 := by
    have h := congrArg List.length hD1.waits
    rw [hd.waits] at h
    simpa using h
  have hz6 : strOf ((placeL zerosL).take 6) = ⟨#[99, 47, 48, 48, 47, 48]⟩ := congrArg strOf (show (placeL zerosL).take 6 = [99, 47, 48, 48, 47, 48] by decide)
  refine htyU (y_move rfl) <| htyU (y_extract rfl rfl) <| htyU (y_extract rfl rfl) <| htyU (y_assign rfl) <| htyU (y_assign rfl) <| htend <| hsub (ρ' := [(5, _), (4, _), (3, _), (2, _), (9, _), (1, _), (0, _)]) ⟨rfl, rfl, rfl, rfl, rfl, rfl, rfl, trivial⟩ <| hmemQ (X' := [_, _, _, _, _]) (S' := [_, _]) (fun _ m => m) <| hthen <| hseq <| hreg <| hy (fun _ => yV (y_build0 ti33 rfl (by kernel_rfl)) ((rfl : _ = Value.agg (b8s zerosL).toArray))) <| ?_
  refine hx (xh_call rfl Tryz.call75 (placeC zerosL_length) [] rfl [] rfl ?_)
  rintro _ _ _ ⟨rfl, rfl, rfl⟩
  refine hy (fun _ => y_assign rfl) <| hend <| hsub (ρ' := [(6, _), (5, _), (4, _), (3, _), (2, _), (9, _), (1, _), (0, _)]) ⟨rfl, rfl, rfl, rfl, rfl, rfl, rfl, rfl, trivial⟩ <| hmemQ (X' := [_, _, _, _, _]) (S' := [_, _]) (fun _ m => m) <| hthen <| hseq <| hreg <| hy (fun _ => y_move rfl) <| hy (fun _ => yT (y_eql rfl rfl) ((decide_eq_true rfl))) <| hy (fun _ => y_move rfl) <| hyg (o := _) rfl rfl rfl (fun _ => y_move rfl) <| hyg (o := _) rfl rfl rfl (fun _ => yT (y_eql rfl rfl) ((decide_eq_true rfl))) <| hy (fun _ => y_pickT rfl rfl) <| hy (fun _ => y_move rfl) <| hyg (o := _) rfl rfl rfl (fun _ => y_move rfl) <| hyg (o := _) rfl rfl rfl (fun m => y_b2s rfl Tryz.underlying27 Tryz.underlying5 Tryz.underlying9 (m.ord 1 rfl)) <| hyg (o := _) rfl rfl rfl (fun _ => yT (y_seq rfl rfl) ((decide_eq_true rfl))) <| hy (fun _ => y_pickT rfl rfl) <| hy (fun _ => y_move rfl) <| hyg (o := _) rfl rfl rfl (fun _ => y_move rfl) <| hyg (o := _) rfl rfl rfl (fun _ => y_lenStr rfl Tryz.underlying9) <| hyg (o := _) rfl rfl rfl (fun _ => yT (y_eql rfl rfl) ((decide_eq_true (by rw [strOf_size, placeL_length zerosL_length]; rfl)))) <| hy (fun _ => y_pickT rfl rfl) <| hy (fun _ => y_move rfl) <| hyg (o := _) rfl rfl rfl (fun _ => y_move rfl) <| ?_
  refine hxg (o := _) rfl rfl rfl (xh_call rfl Tryz.call88 (shortC) [] rfl [] rfl ?_)
  rintro _ _ _ ⟨rfl, rfl, rfl⟩
  refine hyg (o := _) rfl rfl rfl (fun _ => yT (y_seq rfl rfl) ((decide_eq_true hz6))) <| hy (fun _ => y_pickT rfl rfl) <| hy (fun _ => y_move rfl) <| hyg (o := _) rfl rfl rfl (fun _ => y_move rfl) <| hyg (o := _) rfl rfl rfl (fun _ => y_nilp rfl) <| hyg (o := _) rfl rfl rfl (fun _ => y_fld rfl fa63_0 (by decide)) <| hyg (o := _) rfl rfl rfl (fun m => y_ld1 rfl ag42 (ld_blk (m.blk 4 rfl) (i := 0) rfl)) <| ?_
  refine hxg (o := _) rfl rfl rfl (xh_call rfl Tryz.call61 (waitsC) [0] rfl [] rfl ?_)
  rintro _ _ _ ⟨rfl, rfl, rfl⟩
  refine hyg (o := _) rfl rfl rfl (fun _ => yT (y_eql rfl rfl) ((decide_eq_true (by rw [hw0]; rfl)))) <| hy (fun _ => y_pickT rfl rfl) <| hy (fun _ => y_assign rfl) <| hend <| hsub (ρ' := [(0, _), (6, _), (5, _), (4, _), (3, _), (2, _), (9, _), (1, _)]) ⟨rfl, rfl, rfl, rfl, rfl, rfl, rfl, rfl, trivial⟩ <| hmemQ (X' := [_, _, _, _, _]) (S' := [_, _]) (fun _ m => m) <| hthen <| hret <| ?_
  exact hret1 trivial rfl rfl [] rfl [] rfl ⟨rfl, rfl, rfl⟩
end Go.Proofs.YtfikjheicjamhaaGreatDoor
end
section
/- Contracts: texts in order (slices.Sort of at most 12). -/
set_option linter.unusedVariables false
set_option linter.unusedSimpArgs false
set_option maxRecDepth 20000
namespace Go.Proofs.YtfikjheicjamhaaGreatDoor
open Go.Eng Go.Hx
def ss (l : List (List UInt8)) : List Value := l.map SV
theorem ss_get {l : List (List UInt8)} {i : Nat} (h : i < l.length) : (ss l)[i]? = some (SV (l.getD i [])) := by simp [ss, List.getElem?_map, List.getElem?_eq_getElem h, List.getD]
theorem ss_one {l : List (List UInt8)} : ∀ u ∈ ss l, u.oneCell' = true := by
  intro u hu
  obtain ⟨x, _, rfl⟩ := List.mem_map.1 hu
  rfl
end Go.Proofs.YtfikjheicjamhaaGreatDoor
end
section
/- Lays of the library function slices.Sort for this seat. -/
namespace Go.Proofs
open Go.Shelf
shelf_lay Lays.n190 Nm 190 at Tryz as Tryz.lays190
end Go.Proofs
end
section
/- Contract: slices.Sort of texts, from the kit's shelf. -/
set_option linter.unusedVariables false
set_option linter.unusedSimpArgs false
set_option maxRecDepth 20000
namespace Go.Proofs.YtfikjheicjamhaaGreatDoor
open Go.Eng Go.Hx Go.Sort
def srt (l : List (List UInt8)) : List (List UInt8) := l.mergeSort fun x y => decide (x ≤ y)
theorem heap_srt {w : World} {g n o : Nat} {os : Array Obj} {cur : Array Value} {e : TypeId} {fr : Nat × Nat} (d : Array (List UInt8)) (hb : w.heap[g]? = some (.cells cur e fr)) :
    (grow (putRow encStr (Go.Sort.ahead w n) g o d) os).heap[g]? = some (.cells (putCells encStr o d cur) e fr) := by
  have hg : g < w.heap.size := (Array.getElem?_eq_some_iff.1 hb).1
  rw [heap_grow_old _ _ (by simpa using hg)]
  simp [putRow, mapBlock, Go.Sort.ahead, Array.getElem?_modify, hb, onCells]
theorem fr_srt {w : World} {g n o : Nat} {os : Array Obj} (d : Array (List UInt8)) : Fr (fun k => k = g) w (grow (putRow encStr (Go.Sort.ahead w n) g o d) os) := by
  refine ⟨rfl, rfl, rfl, by simp, fun k hk hne => ?_⟩
  rw [heap_grow_old _ _ (by simpa using hk)]
  have : g ≠ k := fun e => hne e.symm
  simp [putRow, mapBlock, Go.Sort.ahead, Array.getElem?_modify, this]
theorem take_put (cur : List Value) (o : Nat) (ts : List (List UInt8)) (h : o + ts.length ≤ cur.length) : ((putCells encStr o ts.toArray cur.toArray).toList.drop o).take ts.length = ss ts := by
  apply List.ext_getElem?
  intro j
  by_cases hj : j < ts.length
  · rw [List.getElem?_take_of_lt hj, List.getElem?_drop, Array.getElem?_toList]
    simp [putCells, hj, ss, show o + j < cur.length by omega, SV, strOf]
  · rw [List.getElem?_take_eq_none (by omega), List.getElem?_eq_none (by simp [ss]; omega)]
theorem srt_len (l : List (List UInt8)) : (srt l).length = l.length := List.length_mergeSort ..
theorem sort_c {A : Option Addr} {n c base : Nat} {e : TypeId} {l : List (List UInt8)} {w : World} (h : Go.Eng.Own w base e 1 (.slice A n c) n (ss l)) (hn6 : n ≤ 1000000) :
    Calls Tryz.prog 87 #[.slice A n c] w fun r w' => r = .returned (.tuple #[]) ∧ Go.Eng.Own w' base e 1 (.slice A n c) n (ss (srt l)) ∧ Fr (vblk (.slice A n c)) w w' := by
  obtain ⟨h1, h2⟩ := h
  have hl : l.length = n := by simpa [ss] using h1
  rcases h2 with ⟨hv, hn⟩ | ⟨g, o, cap, cur, hv, hb, ⟨fr, hh, hf, hfl⟩, hnc, hcm, hfit, hcs⟩
  · cases hv
    obtain rfl : l = [] := List.eq_nil_of_length_eq_zero hl
    refine Calls.mono (con_calls sortNoC (by intro s hs; cases hs)) (fun r w' ⟨hr, hf⟩ => ⟨hr, ⟨by simp [srt, ss], .inl ⟨rfl, rfl⟩⟩, hf.mono (fun _ _ e => e.elim)⟩)
  · cases hv
    subst hl
    have hB : Blk w g e cur := ⟨fr, hh, hf, hfl⟩
    have hH : Holds encStr w g o l.toArray := by
      intro j hj
      have hj' : j < l.length := by simpa using hj
      have h3 : ((cur.drop o).take (l.length * 1))[j]? = (ss l)[j]? := by rw [hcs]
      rw [List.getElem?_take_of_lt (by omega), List.getElem?_drop, ss_get hj'] at h3
      refine ⟨?_, hB.frozen (by omega)⟩
      rw [hB.cell h3]
      simp [List.getD, List.getElem?_eq_getElem hj', hj', SV, strOf]
    refine Calls.mono (Any.slices_Sort_string Tryz.lays190 g o c l w hH hB.lt (by omega)) ?_
    rintro r w' ⟨hr, k, os, rfl⟩
    refine ⟨hr, ⟨by simp [ss, srt_len], .inr ⟨g, o, c, (putCells encStr o (srt l).toArray cur.toArray).toList, rfl, hb, ?_, hnc, hcm, by simp [putCells]; omega, ?_⟩⟩, fr_srt _⟩
    · have := heap_srt (n := k) (o := o) (os := os) (srt l).toArray hh
      exact ⟨fr, by simpa [srt] using this, fun i hi => hf i (by simpa [putCells] using hi), by simpa [putCells] using hfl⟩
    · have := take_put cur o (srt l) (by rw [srt_len]; omega)
      rw [srt_len] at this
      rw [Nat.mul_one]; exact this
theorem sortC {A : Option Addr} {n c : Nat} {e : TypeId} {l : List (List UInt8)} (hn : n ≤ 1000000) : Con Tryz.prog 87 [.slice A n c] [ROwn e 1 (.slice A n c) n (ss l)] [] (fun v_ X_ S_ => v_ = (.tuple #[]) ∧ X_ = [ROwn e 1 (.slice A n c) n (ss (srt l))] ∧ S_ = []) := by
  refine fun w m => Calls.mono (sort_c (m.own 0 rfl) hn) ?_
  rintro r w' ⟨hr, ho, hf⟩
  exact ⟨_, _, _, hr, ⟨rfl, rfl, rfl⟩, m.change (r' := ROwn e 1 (.slice A n c) n (ss (srt l))) hf ho (fun k hk => .inl hk)⟩
end Go.Proofs.YtfikjheicjamhaaGreatDoor
end
section
/- Contract: a disk's names. -/
set_option linter.unusedVariables false
set_option linter.unusedSimpArgs false
set_option maxRecDepth 20000
namespace Go.Proofs.YtfikjheicjamhaaGreatDoor
open Go.Eng Go.Hx
theorem perm_erase {α : Type} : ∀ {l : List α} {j : Nat} {x : α}, l[j]? = some x → l.Perm (x :: l.eraseIdx j)
  | [], j, x, h => by simp at h
  | a :: r, 0, x, h => by
    simp only [List.getElem?_cons_zero, Option.some.injEq] at h
    subst h; exact List.Perm.refl _
  | a :: r, j + 1, x, h => by
    have := perm_erase (l := r) (j := j) (x := x) (by simpa using h)
    exact (List.Perm.cons a this).trans (List.Perm.swap x a _)
def pre (p s : List UInt8) : Bool := decide (s.take p.length = p)
theorem slHasPrefixC {s p : List UInt8} : Con Tryz.prog 157 [.string (strOf s), .string (strOf p)] [] [] (fun v_ X_ S_ => v_ = (.bool (pre p s)) ∧ X_ = [] ∧ S_ = []) := by
  have hs1 := strOf_size s
  have hs2 := strOf_size p
  refine henter (N := 18) Tryz.func157 rfl rfl (by simp) fun b => ?_
  by_cases h : p.length ≤ s.length
  · refine hseq <| hreg <| hy (fun _ => y_assign rfl) <| hend <| hthen <| hseq <| hreg <| hy (fun _ => y_move rfl) <| hy (fun _ => y_lenStr rfl Tryz.underlying9) <| hy (fun _ => y_move rfl) <| hy (fun _ => y_lenStr rfl Tryz.underlying9) <| hy (fun _ => yT (y_geq rfl rfl) ((decide_eq_true (by omega)))) <| hy (fun _ => y_move rfl) <| hyg (o := _) rfl rfl rfl (fun _ => y_move rfl) <| hyg (o := _) rfl rfl rfl (fun _ => y_move rfl) <| hyg (o := _) rfl rfl rfl (fun _ => y_lenStr rfl Tryz.underlying9) <| hyg (o := _) rfl rfl rfl (fun _ => yV (y_strTo rfl rfl Tryz.underlying9 (show ((p.length : Nat) : Int) = _ by omega) (by rw [bytesOf_strOf]; exact h)) ((rfl : Value.string _ = .string (strOf (s.take p.length))))) <| hyg (o := _) rfl rfl rfl (fun _ => y_move rfl) <| hyg (o := _) rfl rfl rfl (fun _ => y_seq rfl rfl) <| hy (fun _ => y_pickT rfl rfl) <| hy (fun _ => y_assign rfl) <| hend <| hsub (ρ' := [(4, _), (0, _), (1, _)]) ⟨rfl, rfl, rfl, trivial⟩ <| hthen <| hret <| ?_
    exact hret1 trivial rfl rfl [] rfl [] rfl ⟨(congrArg Value.bool (decide_eq_decide.2 strOf_inj)), rfl, rfl⟩
  · refine hseq <| hreg <| hy (fun _ => y_assign rfl) <| hend <| hthen <| hseq <| hreg <| hy (fun _ => y_move rfl) <| hy (fun _ => y_lenStr rfl Tryz.underlying9) <| hy (fun _ => y_move rfl) <| hy (fun _ => y_lenStr rfl Tryz.underlying9) <| hy (fun _ => yF (y_geq rfl rfl) ((decide_eq_false (by omega)))) <| hy (fun _ => y_move rfl) <| hskip rfl rfl rfl (by decide) <| hskip rfl rfl rfl (by decide) <| hskip rfl rfl rfl (by decide) <| hskip rfl rfl rfl (by decide) <| hskip rfl rfl rfl (by decide) <| hskip rfl rfl rfl (by decide) <| hy (fun _ => y_pickF rfl rfl) <| hy (fun _ => y_assign rfl) <| hend <| hsub (ρ' := [(4, _), (0, _), (1, _)]) ⟨rfl, rfl, rfl, trivial⟩ <| hthen <| hret <| ?_
    exact hret1 trivial rfl rfl [] rfl [] rfl ⟨(congrArg Value.bool (decide_eq_false (fun e => h (by rw [← e, List.length_take]; omega))).symm), rfl, rfl⟩
theorem hasPrefixC {s p : List UInt8} : Con Tryz.prog 86 [.string (strOf s), .string (strOf p)] [] [] (fun v_ X_ S_ => v_ = (.bool (pre p s)) ∧ X_ = [] ∧ S_ = []) := by
  refine henter (N := 8) Tryz.func86 rfl rfl (by simp) fun b => ?_
  refine hseq <| hreg <| hy (fun _ => y_assign rfl) <| hend <| hthen <| hseq <| hreg <| hy (fun _ => y_move rfl) <| hy (fun _ => y_move rfl) <| ?_
  refine hx (xh_call rfl Tryz.call157 (slHasPrefixC) [] rfl [] rfl ?_)
  rintro _ _ _ ⟨rfl, rfl, rfl⟩
  refine hy (fun _ => y_assign rfl) <| hend <| hsub (ρ' := [(4, _), (0, _), (1, _)]) ⟨rfl, rfl, rfl, trivial⟩ <| hmemQ (X' := []) (S' := []) (fun _ m => m) <| hthen <| hret <| ?_
  exact hret1 trivial rfl rfl [] rfl [] rfl ⟨rfl, rfl, rfl⟩
theorem listC {g : Nat} {st : DSt} {p : List UInt8} (hk : st.seen.length ≤ 100000) : Con Tryz.prog 26 [.pointer (some ⟨g, 0, none⟩), .string (strOf p)] [RDisk g st] [] (fun v_ X_ S_ => ∃ v n ks, v_ = v ∧ X_ = [RDisk g st, ROwn 9 1 v n (ss (srt ks))] ∧ S_ = [] ∧ (n = ks.length ∧ ks.Perm ((akeys st.seen).filter (pre p)))) := by
  refine henter (N := 26) Tryz.func26 rfl rfl (by simp) fun b => ?_
  refine hmemC (fun w m => (m.perm (takeR_perm [0] _ [_] _ rfl)).unpack) ?_
  refine hseq <| hreg <| hy (fun _ => y_assign rfl) <| hend <| hthen <| hseq <| hreg <| hy (fun _ => y_assign rfl) <| hend <| hthen <| hseq <| hseq <| hreg <| hy (fun _ => y_move rfl) <| hy (fun _ => y_nilp rfl) <| hy (fun _ => y_fld rfl fa132_1 (by decide)) <| hy (fun m => y_ld1 rfl ag129 (ld_blk (m.blk 0 rfl) rfl)) <| ?_
  refine hx (xh_range 1 rfl rfl Tryz.underlying129 (fun r11 => ?_))
  refine hend <| hsub (ρ' := [(11, _), (5, _), (4, _), (0, _), (1, _)]) ⟨rfl, rfl, rfl, rfl, rfl, trivial⟩ <| hmemQ (X' := [_, _, _, _, _]) (S' := []) (fun _ m => m) <| hthen <| hblock <| ?_
  refine hmemC (fun w m => m.addX (r' := ROwn 9 1 (.slice none 0 0) 0 []) (.refl _ _) (Own.nil _ _ _ _) (fun k hk => hk.elim)) ?_
  refine hloop6 (fun left cur A1 k c1 ks => left.length) (fun left cur A1 k c1 ks => [(5, .slice A1 k c1)]) (fun left cur A1 k c1 ks => [ROwn 9 1 (.slice A1 k c1) k (ss ks), RRng SV r11 st.gs (vals st.seen) (vals left) cur]) (fun left cur A1 k c1 ks => []) (fun left cur A1 k c1 ks => k = ks.length ∧ k + left.length ≤ st.seen.length ∧ (ks ++ (akeys left).filter (pre p)).Perm ((akeys st.seen).filter (pre p))) st.seen none none 0 0 [] [(11, _), (4, _), (0, _), (1, _)] ⟨rfl, rfl, rfl, rfl, trivial⟩ [0, 0] rfl [] rfl (⟨rfl, by omega, List.Perm.refl _⟩) ⟨rfl, trivial⟩ (fun left cur A1 k c1 ks ⟨hkn, hkl, hpm⟩ => ?_)
  refine hseq <| hreg <| ?_
  refine hx (xh_next 1 rfl rfl (fun h0 => ?_) (fun j x hx1 => ?_))
  · obtain rfl : left = [] := List.map_eq_nil_iff.1 h0
    refine hy (fun _ => y_extract rfl rfl) <| hend <| hsub (ρ' := [(13, _), (5, _), (11, _), (4, _), (0, _), (1, _)]) ⟨rfl, rfl, rfl, rfl, rfl, rfl, trivial⟩ <| hthen <| hseq <| ?_
    refine hiff rfl (rfl) ?_
    refine hexit <| hthen_exit <| hthen_exit <| hqblock_exit <| hthen <| hseq <| hreg <| hy (fun _ => y_move rfl) <| ?_
    refine hx (xh_call rfl Tryz.call87 (sortC (by omega)) [0] rfl [] rfl ?_)
    rintro _ _ _ ⟨rfl, rfl, rfl⟩
    refine hend <| hsub (ρ' := [(13, _), (5, _), (11, _), (4, _), (0, _), (1, _)]) ⟨rfl, rfl, rfl, rfl, rfl, rfl, trivial⟩ <| hmemQ (X' := [_, _, _, _, _, _]) (S' := []) (fun _ m => m) <| hthen <| hseq <| hreg <| hy (fun _ => y_move rfl) <| hy (fun _ => y_assign rfl) <| hend <| hsub (ρ' := [(4, _), (13, _), (5, _), (11, _), (0, _), (1, _)]) ⟨rfl, rfl, rfl, rfl, rfl, rfl, trivial⟩ <| hthen <| hret <| ?_
    refine hmemQ (fun w m => m.rngEnd 1 rfl) ?_
    refine hmemQ (X' := RDisk g st :: _) (fun w m => (m.perm (takeR_perm [2, 0, 1, 1, 1] _ [_, _, _, _, _] _ rfl)).pack) ?_
    exact hret1 trivial rfl rfl [0, 0] rfl [] rfl ⟨_, _, _, rfl, rfl, rfl, ⟨hkn, by simpa [akeys] using hpm⟩⟩
  · obtain ⟨key, v⟩ := x
    obtain ⟨r, hr, e⟩ := vals_at hx1
    obtain rfl : v = r.val := e
    have hlt := (List.getElem?_eq_some_iff.1 hr).1
    simp only at hr
    have hpe := perm_erase hr
    have hpa : (akeys left).Perm (key :: akeys (left.eraseIdx j)) := by simpa [akeys] using hpe.map Prod.fst
    have hpf := hpa.filter (pre p)
    refine hy (fun _ => y_extract rfl rfl) <| hend <| hsub (ρ' := [(13, _), (5, _), (11, _), (4, _), (0, _), (1, _)]) ⟨rfl, rfl, rfl, rfl, rfl, rfl, trivial⟩ <| hthen <| hseq <| ?_
    refine hift rfl (rfl) ?_
    refine hcskip <| hthen <| hblock <| hseq <| hreg <| hy (fun m => y_entryM rfl (m.rngX 0 rfl)) <| hy (fun _ => y_extract rfl rfl) <| hy (fun _ => y_assign rfl) <| hend <| hsub (ρ' := [(6, _), (13, _), (5, _), (11, _), (4, _), (0, _), (1, _)]) ⟨rfl, rfl, rfl, rfl, rfl, rfl, rfl, trivial⟩ <| hthen <| hseq <| hreg <| hy (fun _ => y_move rfl) <| hy (fun _ => y_move rfl) <| ?_
    refine hx (xh_call rfl Tryz.call86 (hasPrefixC) [] rfl [] rfl ?_)
    rintro _ _ _ ⟨rfl, rfl, rfl⟩
    refine hend <| hsub (ρ' := [(18, _), (6, _), (13, _), (5, _), (11, _), (4, _), (0, _), (1, _)]) ⟨rfl, rfl, rfl, rfl, rfl, rfl, rfl, rfl, trivial⟩ <| hmemQ (X' := [_, _, _, _, _, _]) (S' := []) (fun _ m => m) <| hthen <| ?_
    refine hifb rfl (fun hpr => ?_) (fun hpr => ?_)
    · have hp2 : (ks ++ [key] ++ (akeys (left.eraseIdx j)).filter (pre p)).Perm ((akeys st.seen).filter (pre p)) := by
        rw [List.filter_cons, if_pos hpr] at hpf
        rw [List.append_assoc]
        exact ((List.Perm.append_left ks hpf).symm.trans hpm)
      refine hreg <| hy (fun _ => y_move rfl) <| hy (fun _ => y_move rfl) <| ?_
      refine hx (xh_bsl Tryz.underlying71 ti9 rfl rfl rfl (by simp [Value.cells, SV]) (by decide) (by decide) (fun g21 => ?_))
      have hA_b21 : 0 < 1 → (some (⟨g21, 0, none⟩ : Addr)) ≠ none := fun _ h => by cases h
      refine hmemL (fun w m => m.eqX 0 rfl (show _ = ROwn 9 1 (.slice (some ⟨g21, 0, none⟩) 1 1) 1 (ss [key]) from rfl)) ?_
      refine hx (xh_app 2 rfl rfl rfl Tryz.underlying71 Tryz.underlying71 (by exact .inl rfl) ti9 rfl (fun m => Src.of_rd (m.ord 0 rfl)) ss_one (by unfold maxLen; omega) (by omega) (fun u => ?_))
      refine hfactL (fun m => (m.own 0 rfl).slice) ?_
      rintro ⟨A_o, c_o, rfl, hc_o⟩
      refine hfactL (fun m => (m.ord 0 rfl).2.1) fun hA_o => ?_
      refine hmemL (fun w m => m.eqX 0 rfl (show _ = ROwn 9 1 (.slice A_o (k + 1) c_o) (k + 1) (ss (ks ++ [key])) from by simp [ss])) ?_
      refine hy (fun _ => y_assign rfl) <| hend <| hsub (ρ' := [(5, _), (18, _), (6, _), (13, _), (11, _), (4, _), (0, _), (1, _)]) ⟨rfl, rfl, rfl, rfl, rfl, rfl, rfl, rfl, trivial⟩ <| hmemQ (X' := [_, _, _, _, _, _, _]) (S' := []) (fun _ m => m) <| hqblock <| ?_
      refine hmemQ (fun w m => m.eqX 2 rfl (show _ = RRng SV r11 st.gs (vals st.seen) (vals (left.eraseIdx j)) (some (key, r.val)) from congrArg (fun q => RRng SV r11 st.gs (vals st.seen) q (some (key, r.val))) (vals_erase left j))) ?_
      refine hnext6 (left.eraseIdx j) (some (key, r.val)) A_o (k + 1) c_o (ks ++ [key]) ⟨rfl, rfl, rfl, rfl, rfl, trivial⟩ [1, 0, 1, 1, 1, 1] rfl [] rfl (⟨by rw [List.length_append, hkn]; rfl, by rw [List.length_eraseIdx, if_pos hlt]; omega, hp2⟩) (by rw [List.length_eraseIdx, if_pos hlt]; omega)
    · have hp2 : (ks ++ (akeys (left.eraseIdx j)).filter (pre p)).Perm ((akeys st.seen).filter (pre p)) := by
        rw [List.filter_cons, if_neg (by rw [show pre p key = false from hpr]; decide)] at hpf
        exact ((List.Perm.append_left ks hpf).symm.trans hpm)
      refine hcskip <| hqblock <| ?_
      refine hmemQ (fun w m => m.eqX 0 rfl (show _ = RRng SV r11 st.gs (vals st.seen) (vals (left.eraseIdx j)) (some (key, r.val)) from congrArg (fun q => RRng SV r11 st.gs (vals st.seen) q (some (key, r.val))) (vals_erase left j))) ?_
      refine hnext6 (left.eraseIdx j) (some (key, r.val)) A1 k c1 ks ⟨rfl, rfl, rfl, rfl, rfl, trivial⟩ [1, 0, 0, 0, 0, 0] rfl [] rfl (⟨hkn, by rw [List.length_eraseIdx, if_pos hlt]; omega, hp2⟩) (by rw [List.length_eraseIdx, if_pos hlt]; omega)
end Go.Proofs.YtfikjheicjamhaaGreatDoor
end
section
/- Contracts: disks of the program as the document's: removing, power, any restart, lists of names. -/
set_option linter.unusedVariables false
set_option linter.unusedSimpArgs false
set_option maxRecDepth 20000
namespace Go.Proofs.YtfikjheicjamhaaGreatDoor
open Go.Eng Go.Hx
theorem dremoveC {g : Nat} {st : DSt} {d : RD} {kk : Nat} {p : List UInt8} (hD : DS st d kk) (hkk : kk ≤ 99000) : Con Tryz.prog 85 [.pointer (some ⟨g, 0, none⟩), .string (strOf p)] [RDisk g st] [] (fun v_ X_ S_ => ∃ st1, v_ = (.int .i64 (d.readE p)) ∧ X_ = [RDisk g st1] ∧ S_ = [] ∧ (DS st1 (d.remove p) (kk + 1))) := by
  exact Con.mono (removeC hD.ok (by omega)) (fun v X S h => by
    obtain ⟨st1, A, j, h1, h2, h3, hw⟩ := h
    exact ⟨st1, by rw [hD.readE]; exact h1, h2, h3, hD.remove hw⟩)
theorem dpowerC {g : Nat} {st : DSt} {d : RD} {kk : Nat} {n : Int} (hD : DS st d kk) (hn : n ≤ 1000000000000) : Con Tryz.prog 20 [.pointer (some ⟨g, 0, none⟩), .int .i64 n] [RDisk g st] [] (fun v_ X_ S_ => ∃ st1, v_ = (.tuple #[]) ∧ X_ = [RDisk g st1] ∧ S_ = [] ∧ (DS st1 (d.power n) kk)) := by
  exact Con.mono powerC (fun v X S h => ⟨_, h.1, h.2.1, h.2.2, hD.power hn⟩)
theorem drestartXC {g : Nat} {st : DSt} {d : RD} {kk : Nat} {A : Option Addr} {n c : Nat} {bs : List Bool} (hD : DS st d kk) (hkk : kk ≤ 99000) (hc : n ≤ c) : Con Tryz.prog 22 [.pointer (some ⟨g, 0, none⟩), .slice A n c] [RDisk g st] [RRd 1 A n (bools bs)] (fun v_ X_ S_ => ∃ st1, v_ = (.tuple #[]) ∧ X_ = [RDisk g st1] ∧ S_ = [] ∧ (DS st1 (d.restart bs) kk)) := by
  have hw : st.waits.length ≤ 1000000 := by have := hD.ok.rest; omega
  exact Con.mono (restartAC hc hD.ok.sm hw) (fun v X S h => by
    obtain ⟨gs, h1, h2, h3⟩ := h
    exact ⟨_, h1, h2, h3, hD.restart bs gs⟩)
/-- the names that begin so, as they stand -/
def namesP (d : RD) (p : List UInt8) : List (List UInt8) := (d.seen.map (·.1)).filter (pre p)
theorem FSim.namesP {fs : Files} {l : List FP} (h : FSim fs l) {q : List UInt8 → Bool} {ks : List (List UInt8)} (hk : ks.Perm ((akeys fs).filter q)) : srt ks = (l.map (·.1)).filter q := by
  have h1 : (srt ks).Perm ((l.map (·.1)).filter q) := (List.mergeSort_perm _ _).trans (hk.trans (h.keys.filter q))
  have h2 : (srt ks).Pairwise (· ≤ ·) := by
    have := List.pairwise_mergeSort (le := fun x y : List UInt8 => decide (x ≤ y)) (fun a b c hab hbc => by simpa using List.le_trans (by simpa using hab) (by simpa using hbc)) (fun a b => by simpa using List.le_total a b) ks
    exact this.imp (fun hab => by simpa using hab)
  have h3 : ((l.map (·.1)).filter q).Pairwise (· ≤ ·) := (h.ord.imp (fun hlt => List.le_of_lt hlt)).filter q
  exact h1.eq_of_pairwise (fun a b _ _ hab hba => List.le_antisymm hab hba) h2 h3
theorem dlistC {g : Nat} {st : DSt} {d : RD} {kk : Nat} {p : List UInt8} (hD : DS st d kk) (hkk : kk ≤ 99000) : Con Tryz.prog 26 [.pointer (some ⟨g, 0, none⟩), .string (strOf p)] [RDisk g st] [] (fun v_ X_ S_ => ∃ v, v_ = v ∧ X_ = [RDisk g st, ROwn 9 1 v (namesP d p).length (ss (namesP d p))] ∧ S_ = [] ∧ ((namesP d p).length ≤ kk)) := by
  have h1 : st.seen.length ≤ kk := hD.ok.seen
  have h2 : d.seen.length ≤ kk := hD.rok.seen
  have h3 : (namesP d p).length ≤ kk := Nat.le_trans (List.length_filter_le _ _) (by rw [List.length_map]; exact h2)
  exact Con.mono (listC (p := p) (by omega)) (fun v X S h => by
    obtain ⟨v1, n, ks, h1, h2, h3', h4, h5⟩ := h
    have e := hD.sim.files.namesP h5
    have hl : n = (namesP d p).length := by
      unfold namesP
      rw [← e, h4]
      exact (List.mergeSort_perm _ _).length_eq.symm
    subst hl
    refine ⟨v1, h1, ?_, h3', h3⟩
    rw [h2, e]
    rfl)
end Go.Proofs.YtfikjheicjamhaaGreatDoor
end
section
/- Contracts: chunks by their names (layer 13): Clean. -/
set_option linter.unusedVariables false
set_option linter.unusedSimpArgs false
set_option maxRecDepth 20000
set_option maxHeartbeats 4000000
namespace Go.Proofs.YtfikjheicjamhaaGreatDoor
open Go.Eng Go.Hx
def tPre : List UInt8 := [116, 47]
def RD.clean (d : RD) : RD × Int := if namesP d tPre = [] then (d, 0) else runF ((namesP d tPre).map rstepF ++ [sstepF]) d
theorem clean1C {g g1 g6 : Nat} {st : DSt} {d : RD} {kk : Nat} {p : List UInt8} (hD : DS st d kk) (hkk : kk ≤ 99000) : Con Tryz.prog 84 [.pointer (some ⟨g1, 0, none⟩), .pointer (some ⟨g6, 0, none⟩)] [RDisk g st] [RBlk g1 42 [.pointer (some ⟨g, 0, none⟩)], RBlk g6 9 [SV p]] (fun v_ X_ S_ => ∃ st1, v_ = (.int .i64 (d.readE p)) ∧ X_ = [RDisk g st1] ∧ S_ = [] ∧ (DS st1 (d.remove p) (kk + 1))) := by
  refine henter (N := 6) Tryz.func84 rfl rfl (by simp) fun b => ?_
  refine hseq <| hreg <| hy (fun _ => y_assign rfl) <| hend <| hthen <| hseq <| hreg <| hy (fun m => y_ld1 rfl ag42 (ld_blk (m.blkS 0 rfl) (i := 0) rfl)) <| hy (fun m => y_ld1 rfl ag9 (ld_blk (m.blkS 1 rfl) (i := 0) rfl)) <| ?_
  refine hx (xh_call rfl Tryz.call85 (dremoveC hD (by omega) (p := p)) [0] rfl [] rfl ?_)
  rintro _ _ _ ⟨st1, rfl, rfl, rfl, hp⟩
  refine hy (fun _ => y_assign rfl) <| hend <| hsub (ρ' := [(2, _), (0, _), (1, _)]) ⟨rfl, rfl, rfl, trivial⟩ <| hmemQ (X' := [_]) (S' := [_, _]) (fun _ m => m) <| hthen <| hret <| ?_
  exact hret1 trivial rfl rfl [0] rfl [] rfl ⟨st1, rfl, rfl, rfl, hp⟩
/-- the blocks of names, the function values over them -/
def clT (gs : List Nat) (ns : List (List UInt8)) : List Res := (gs.zip ns).map fun x => RBlk x.1 9 [SV x.2]
def clV (g1 : Nat) (gs : List Nat) : List Value := gs.map fun g6 => .func (.func 84) #[] #[.pointer (some ⟨g1, 0, none⟩), .pointer (some ⟨g6, 0, none⟩)]
theorem clV_one {g1 : Nat} {gs : List Nat} : ∀ u ∈ clV g1 gs, u.oneCell' = true := by
  intro u hu
  obtain ⟨x, _, rfl⟩ := List.mem_map.1 hu
  rfl
theorem clT_snoc {gs : List Nat} {ns : List (List UInt8)} {k : Nat} (hg : gs.length = k) (hk : k < ns.length) (g6 : Nat) : clT (gs ++ [g6]) (ns.take (k + 1)) = clT gs (ns.take k) ++ [RBlk g6 9 [SV (ns.getD k [])]] := by
  have h1 : ns.take (k + 1) = ns.take k ++ [ns.getD k []] := by
    rw [List.take_add_one, List.getElem?_eq_getElem hk]
    simp [List.getD, List.getElem?_eq_getElem hk]
  unfold clT
  rw [h1, List.zip_append (by rw [List.length_take, hg]; omega), List.map_append]
  rfl
theorem step_remove {g g1 g6 : Nat} {L : List Res} {p : List UInt8} (h1 : RBlk g1 42 [.pointer (some ⟨g, 0, none⟩)] ∈ L) (h2 : RBlk g6 9 [SV p] ∈ L) :
    StepV g L (.func (.func 84) #[] #[.pointer (some ⟨g1, 0, none⟩), .pointer (some ⟨g6, 0, none⟩)]) (rstepF p) :=
  ⟨84, [], [.pointer (some ⟨g1, 0, none⟩), .pointer (some ⟨g6, 0, none⟩)], rfl, Tryz.call84, fun st d kk hD hk => Con.viaS (clean1C hD hk) (by
    obtain ⟨i, hi⟩ := List.mem_iff_getElem?.1 h1
    obtain ⟨j, hj⟩ := List.mem_iff_getElem?.1 h2
    intro s hs
    simp only [List.mem_cons, List.not_mem_nil, or_false] at hs
    rcases hs with rfl | rfl
    · exact ⟨_, List.mem_singleton.2 rfl, View.alls i hi⟩
    · exact ⟨_, List.mem_singleton.2 rfl, View.alls j hj⟩) (fun v X S h => by
    obtain ⟨st1, h1, h2, h3, h4⟩ := h
    exact ⟨[], ⟨st1, h1, h2, rfl, h4⟩, Der.nil⟩)⟩
theorem clean_steps {g g1 : Nat} {gs : List Nat} {ns : List (List UInt8)} (hg : gs.length = ns.length) :
    ∀ (i : Nat) (F : RD → RD × Int), (ns.map rstepF ++ [sstepF])[i]? = some F → ∃ v, (clV g1 gs ++ [.func (.func 77) #[.pointer (some ⟨g, 0, none⟩)] #[]])[i]? = some v ∧ StepV g (RBlk g1 42 [.pointer (some ⟨g, 0, none⟩)] :: clT gs ns) v F := by
  intro i F h
  have hcl : (clV g1 gs).length = ns.length := by simp [clV, hg]
  have hml : (ns.map rstepF).length = ns.length := List.length_map ..
  rcases Nat.lt_or_ge i ns.length with hi | hi
  · rw [List.getElem?_append_left (by omega), List.getElem?_map, List.getElem?_eq_getElem hi] at h
    cases h
    have hgi : i < gs.length := by omega
    refine ⟨_, by rw [List.getElem?_append_left (by omega), clV, List.getElem?_map, List.getElem?_eq_getElem hgi]; rfl, step_remove (by simp) (List.mem_cons_of_mem _ ?_)⟩
    unfold clT
    refine List.mem_map.2 ⟨(gs[i], ns[i]), ?_, rfl⟩
    rw [← List.getElem_zip (h := by simp; omega)]
    exact List.getElem_mem _
  · rcases Nat.eq_or_lt_of_le hi with e | e
    · subst e
      rw [List.getElem?_append_right (by omega), hml, Nat.sub_self] at h
      cases h
      exact ⟨_, by rw [List.getElem?_append_right (by omega), hcl, Nat.sub_self]; rfl, step_sync⟩
    · rw [List.getElem?_append_right (by omega), hml] at h
      have : i - ns.length ≠ 0 := by omega
      obtain ⟨j, hj⟩ : ∃ j, i - ns.length = j + 1 := ⟨i - ns.length - 1, by omega⟩
      rw [hj] at h
      cases h
theorem View.packAll {L : List Res} : View (RPack L) (RAll L) := .of (fun w h => h.2) (fun k h => h)
theorem cleanC {g : Nat} {st : DSt} {d : RD} {kk : Nat} (hD : DS st d kk) (hkk : kk ≤ 40000) : Con Tryz.prog 25 [.pointer (some ⟨g, 0, none⟩)] [RDisk g st] [] (fun v_ X_ S_ => ∃ st1, v_ = (.int .i64 (d.clean).2) ∧ X_ = [RDisk g st1] ∧ S_ = [] ∧ (DS st1 (d.clean).1 (kk + (namesP d tPre).length + 1))) := by
  refine henter (N := 29) Tryz.func25 rfl rfl (by simp) fun b => ?_
  refine hseq <| hreg <| ?_
  refine hx (xh_box rfl (fun g1 => ?_))
  refine hmemL (fun w m => m.eqX 0 rfl (show _ = RBlk g1 42 [.pointer (some ⟨g, 0, none⟩)] from rfl)) ?_
  refine hy (fun _ => y_assign rfl) <| hend <| hmemQ (X' := [_, _]) (S' := []) (fun _ m => m) <| hthen <| hseq <| hreg <| hy (fun m => y_ld1 rfl ag42 (ld_blk (m.blk 0 rfl) rfl)) <| ?_
  refine hx (xh_call rfl Tryz.call26 (dlistC hD (by omega) (p := tPre)) [1] rfl [] rfl ?_)
  rintro _ _ _ ⟨v, rfl, rfl, rfl, hn⟩
  refine hfactL (fun m => (m.own 1 rfl).slice) ?_
  rintro ⟨A_x, c_x, rfl, hc_x⟩
  refine hfactL (fun m => (m.ord 1 rfl).2.1) fun hA_x => ?_
  generalize hns : namesP d tPre = ns at hn hc_x hA_x ⊢
  refine hy (fun _ => y_assign rfl) <| hend <| hsub (ρ' := [(3, _), (2, _), (1, _), (0, _)]) ⟨rfl, rfl, rfl, rfl, trivial⟩ <| hmemQ (X' := [_, _, _]) (S' := []) (fun _ m => m) <| hthen <| hseq <| hseq <| hreg <| hy (fun _ => y_move rfl) <| hy (fun _ => y_lenS rfl Tryz.underlying71) <| hy (fun _ => y_eql rfl rfl) <| hend <| hsub (ρ' := [(11, _), (3, _), (2, _), (1, _), (0, _)]) ⟨rfl, rfl, rfl, rfl, rfl, trivial⟩ <| hthen <| ?_
  refine hifb rfl (fun h0 => ?_) (fun h0 => ?_)
  · have h0 := of_decide_eq_true h0
    have hz : ns = [] := List.eq_nil_of_length_eq_zero (by omega)
    have e0 : d.clean = (d, 0) := by unfold RD.clean; rw [hns, if_pos hz]
    rw [e0]
    refine hseq <| hreg <| hy (fun _ => y_assign rfl) <| hend <| hthen <| hret <| hthen_ret <| ?_
    exact hret1 trivial rfl rfl [0] rfl [] rfl ⟨st, rfl, rfl, rfl, (hD.le (by omega))⟩
  · have h0 := of_decide_eq_false h0
    have hz : ns ≠ [] := fun e => h0 (by rw [e]; rfl)
    have e0 : d.clean = runF (ns.map rstepF ++ [sstepF]) d := by unfold RD.clean; rw [hns, if_neg hz]
    rw [e0]
    refine hcskip <| hthen <| hseq <| hreg <| hy (fun _ => y_assign rfl) <| hend <| hthen <| hseq <| hseq <| hreg <| hy (fun _ => y_move rfl) <| hy (fun _ => y_lenS rfl Tryz.underlying71) <| hy (fun _ => y_move rfl) <| hend <| hthen <| hblock <| ?_
    refine hmemC (fun w m => m.addX (r' := ROwn 135 1 (.slice none 0 0) 0 []) (.refl _ _) (Own.nil _ _ _ _) (fun k hk => hk.elim)) ?_
    refine hmemC (fun w m => m.packNil) ?_
    refine hloop4 (fun k gs A1 c1 => ns.length - k) (fun k gs A1 c1 => [(4, .slice A1 k c1), (14, .int .i64 (k : Nat))]) (fun k gs A1 c1 => [ROwn 135 1 (.slice A1 k c1) k (clV g1 gs), RPack (clT gs (ns.take k))]) (fun k gs A1 c1 => []) (fun k gs A1 c1 => k ≤ ns.length ∧ gs.length = k) 0 [] none 0 [(13, _), (12, _), (11, _), (3, _), (2, _), (1, _), (0, _)] ⟨rfl, rfl, rfl, rfl, rfl, rfl, rfl, trivial⟩ [1, 0] rfl [] rfl (⟨Nat.zero_le _, rfl⟩) ⟨rfl, rfl, trivial⟩ (fun k gs A1 c1 ⟨hkn, hgk⟩ => ?_)
    refine hseq <| hreg <| hy (fun _ => y_lss rfl rfl) <| hend <| hthen <| hseq <| ?_
    refine hif rfl (fun hlt => ?_) (fun hlt => ?_)
    · have hk2 : k < ns.length := by omega
      refine hcskip <| hthen <| hseq <| hblock <| hseq <| hreg <| hy (fun _ => y_idxS1 rfl rfl Tryz.underlying71 sz9 hA_x rfl (by omega)) <| hy (fun m => y_ld1 rfl ag9 ((m.ord 3 rfl).cell (ss_get hk2))) <| ?_
      refine hx (xh_alloc ti9 (fun g6 => ?_))
      refine hx0 (xh_st1 0 rfl rfl rfl sz9 rfl (by first | exact Nat.le_of_ble_eq_true rfl | simp) ?_)
      refine hend <| hsub (ρ' := [(6, _), (15, _), (4, _), (14, _), (13, _), (12, _), (11, _), (3, _), (2, _), (1, _), (0, _)]) ⟨rfl, rfl, rfl, rfl, rfl, rfl, rfl, rfl, rfl, rfl, rfl, trivial⟩ <| hmemQ (X' := [_, _, _, _, _, _]) (S' := []) (fun _ m => m) <| hthen <| hreg <| hy (fun _ => y_move rfl) <| hy (fun _ => y_mkf rfl rfl) <| ?_
      refine hx (xh_bsl Tryz.underlying148 ti135 rfl rfl rfl (by simp [Value.cells, B8]) (by decide) (by decide) (fun g20 => ?_))
      have hA_b20 : 0 < 1 → (some (⟨g20, 0, none⟩ : Addr)) ≠ none := fun _ h => by cases h
      refine hmemL (fun w m => m.eqX 1 rfl (show _ = RBlk g6 9 [SV (ns.getD k [])] from rfl)) ?_
      refine hmemL (fun w m => m.eqX 1 rfl (show _ = ROwn 135 1 (.slice (some ⟨g20, 0, none⟩) 1 1) 1 (clV g1 [g6]) from rfl)) ?_
      refine hx (xh_app 2 rfl rfl rfl Tryz.underlying148 Tryz.underlying148 (by exact .inl rfl) ti135 rfl (fun m => Src.of_rd (m.ord 0 rfl)) clV_one (by unfold maxLen; omega) (by omega) (fun u => ?_))
      refine hfactL (fun m => (m.own 0 rfl).slice) ?_
      rintro ⟨A_o, c_o, rfl, hc_o⟩
      refine hfactL (fun m => (m.ord 0 rfl).2.1) fun hA_o => ?_
      refine hmemL (fun w m => m.eqX 0 rfl (show _ = ROwn 135 1 (.slice A_o (k + 1) c_o) (k + 1) (clV g1 (gs ++ [g6])) from by simp [clV])) ?_
      refine hy (fun _ => y_assign rfl) <| hend <| hsub (ρ' := [(4, _), (6, _), (15, _), (14, _), (13, _), (12, _), (11, _), (3, _), (2, _), (1, _), (0, _)]) ⟨rfl, rfl, rfl, rfl, rfl, rfl, rfl, rfl, rfl, rfl, rfl, trivial⟩ <| hmemQ (X' := [_, _, _, _, _, _, _]) (S' := []) (fun _ m => m) <| hqblock <| hthen <| hreg <| hy (fun _ => y_add rfl rfl (w64 (by omega) (by omega))) <| hy (fun _ => y_move rfl) <| hend <| hsub (ρ' := [(14, _), (4, _), (6, _), (15, _), (13, _), (12, _), (11, _), (3, _), (2, _), (1, _), (0, _)]) ⟨rfl, rfl, rfl, rfl, rfl, rfl, rfl, rfl, rfl, rfl, rfl, trivial⟩ <| ?_
      refine hmemQ (X' := RPack (clT (gs ++ [g6]) (ns.take (k + 1))) :: _) (fun w m => (Mem.packPut (m.perm (takeR_perm [2, 2] _ [_, _] _ rfl))).packPerm (by rw [clT_snoc hgk hk2]; exact (List.perm_append_singleton _ _).symm)) ?_
      refine hnext4 (k + 1) (gs ++ [g6]) A_o c_o ⟨rfl, rfl, rfl, rfl, rfl, rfl, rfl, rfl, rfl, trivial⟩ [1, 0, 1, 1, 1] rfl [] rfl (⟨by omega, by rw [List.length_append, hgk]; rfl⟩) (by omega)
    · obtain rfl : k = ns.length := by omega
      rw [List.take_length]
      refine hexit <| hthen_exit <| hthen_exit <| hqblock_exit <| hthen <| hseq <| hreg <| hy (fun _ => y_move rfl) <| hy (fun m => y_ld1 rfl ag42 (ld_blk (m.blk 4 rfl) rfl)) <| hy (fun _ => y_mkf rfl rfl) <| ?_
      refine hx (xh_bsl Tryz.underlying148 ti135 rfl rfl rfl (by simp [Value.cells, B8]) (by decide) (by decide) (fun g26 => ?_))
      have hA_b26 : 0 < 1 → (some (⟨g26, 0, none⟩ : Addr)) ≠ none := fun _ h => by cases h
      refine hmemL (fun w m => m.eqX 0 rfl (show _ = ROwn 135 1 (.slice (some ⟨g26, 0, none⟩) 1 1) 1 [.func (.func 77) #[.pointer (some ⟨g, 0, none⟩)] #[]] from rfl)) ?_
      refine hx (xh_app 1 rfl rfl rfl Tryz.underlying148 Tryz.underlying148 (by exact .inl rfl) ti135 rfl (fun m => Src.of_rd (m.ord 0 rfl)) (by simp; rfl) (by unfold maxLen; omega) (by omega) (fun u => ?_))
      refine hfactL (fun m => (m.own 0 rfl).slice) ?_
      rintro ⟨A_o, c_o, rfl, hc_o⟩
      refine hfactL (fun m => (m.ord 0 rfl).2.1) fun hA_o => ?_
      refine hmemL (X' := RPack (RBlk g1 42 [.pointer (some ⟨g, 0, none⟩)] :: clT gs ns) :: _) (fun w m => (Mem.packPut (m.perm (takeR_perm [5, 2] _ [_, _] _ rfl))).packPerm (List.Perm.refl _)) ?_
      refine hmemL (fun w m => (m.perm (takeR_perm [0] _ [_] _ rfl)).freeze) ?_
      refine hmemL (fun w m => m.asV 0 rfl View.packAll) ?_
      refine hx (xh_calll rfl Tryz.call76 (allC hD (by omega) (by omega) (by simp) (clean_steps hgk) (kk := kk) (Fs := (ns.map rstepF ++ [sstepF])) (fs := (clV g1 gs ++ [.func (.func 77) #[.pointer (some ⟨g, 0, none⟩)] #[]])) (L := (RBlk g1 42 [.pointer (some ⟨g, 0, none⟩)] :: clT gs ns))) [2] rfl (.x 0 rfl .own (.s 0 rfl .nil)) ?_)
      rintro _ _ _ ⟨st1, rfl, rfl, rfl, hD1⟩
      refine ⟨rfl, ?_⟩
      refine hy (fun _ => y_assign rfl) <| hend <| hsub (ρ' := [(2, _), (15, _), (4, _), (14, _), (13, _), (12, _), (11, _), (3, _), (1, _), (0, _)]) ⟨rfl, rfl, rfl, rfl, rfl, rfl, rfl, rfl, rfl, rfl, trivial⟩ <| hmemQ (X' := [_, _, _, _]) (S' := [_, _]) (fun _ m => m) <| hthen <| hret <| ?_
      exact hret1 trivial rfl rfl [0] rfl [] rfl ⟨st1, rfl, rfl, rfl, (by rw [← Nat.add_assoc] at hD1; exact hD1)⟩
end Go.Proofs.YtfikjheicjamhaaGreatDoor
end
section
/- Plain disks with so much power, and what a restart may find behind a failure. No program. -/
set_option linter.unusedVariables false
set_option linter.unusedSimpArgs false
namespace Go.Proofs.YtfikjheicjamhaaGreatDoor
open Go.Eng Go.Hx
/-- a disk with power for n more operations, all of it synced -/
structure Pat (d : RD) (F : List UInt8 → Option (List UInt8)) (T : Nat) (room : Int) (n : Nat) : Prop where
  pw : d.pw = (n : Int)
  room : d.room = room
  look : ∀ p, lk d.seen p = F p
  same : d.lasts = d.seen
  waits : d.waits = []
  tot : totF d.seen ≤ T
/-- what a restart may find -/
structure Crash (d : RD) (Q : (List UInt8 → Option (List UInt8)) → Prop) (T : Nat) (room : Int) : Prop where
  re : ∀ keep, ∃ F, At (d.restart keep) F T room ∧ Q F
  nr : ∀ c ∈ d.waits, c.1 ≠ 2
theorem Crash.mono {d : RD} {Q Q' : (List UInt8 → Option (List UInt8)) → Prop} {T T' : Nat} {room : Int} (h : Crash d Q T room) (hQ : ∀ F, Q F → Q' F) (hT : T ≤ T') : Crash d Q' T' room := by
  refine ⟨fun keep => ?_, h.nr⟩
  obtain ⟨F, h1, h2⟩ := h.re keep
  exact ⟨F, ⟨h1.pw, h1.room, h1.look, Nat.le_trans h1.tot hT⟩, hQ F h2⟩
theorem Pat.crash {d : RD} {F : List UInt8 → Option (List UInt8)} {T : Nat} {room : Int} {n : Nat} (h : Pat d F T room n) : Crash d (fun F' => ∀ p, F' p = F p) T room := by
  refine ⟨fun keep => ⟨F, ⟨rfl, h.room, fun p => ?_, ?_⟩, fun p => rfl⟩, fun c hc => by rw [h.waits] at hc; cases hc⟩
  · have e : (d.restart keep).seen = d.seen := by
      show (dfold keep d d.waits.length).2 = _
      rw [h.waits, ← h.same]; simp [dfold]
    rw [e]; exact h.look p
  · have e : (d.restart keep).seen = d.seen := by
      show (dfold keep d d.waits.length).2 = _
      rw [h.waits, ← h.same]; simp [dfold]
    rw [e]; exact h.tot
theorem restart_one {d : RD} {c : RC} (hw : d.waits = [c]) (keep : List Bool) : (d.restart keep).seen = (dstep (keep, d.lasts) c).2 := by
  show (dfold keep d d.waits.length).2 = _
  rw [dfold, hw]
  rfl
theorem lessP_succ (n : Nat) : lessP ((n + 1 : Nat) : Int) = (n : Int) := by unfold lessP; rw [if_pos (by omega)]; omega
/-- one write, and its sync -/
theorem Pat.write0 {d : RD} {F : List UInt8 → Option (List UInt8)} {T : Nat} {room : Int} (h : Pat d F T room 0) {p l : List UInt8} (hp : Named p) : d.writeE p l = 6 := by
  rw [RD.writeE, if_neg (fun k => k hp), if_pos (by simpa using h.pw)]
theorem Pat.writeE {d : RD} {F : List UInt8 → Option (List UInt8)} {T : Nat} {room : Int} {n : Nat} (h : Pat d F T room (n + 1)) {p l : List UInt8} (hp : Named p) (hr : (T : Int) + (l.length : Nat) ≤ room) : d.writeE p l = 0 := by
  have h1 := h.tot
  have h2 := h.room
  rw [RD.writeE, if_neg (fun k => k hp), if_neg (by rw [h.pw]; omega), if_neg (by omega)]
theorem Pat.write {d : RD} {F : List UInt8 → Option (List UInt8)} {T : Nat} {room : Int} {n : Nat} (h : Pat d F T room (n + 1)) {p l : List UInt8} (hp : Named p) (hr : (T : Int) + (l.length : Nat) ≤ room) :
    (n = 0 ∧ (d.write p l).syncE = 6 ∧ Crash (d.write p l) (fun F' => ∀ q, q ≠ p → F' q = F q) (T + l.length) room) ∨
    (∃ m, n = m + 1 ∧ (d.write p l).syncE = 0 ∧ Pat (d.write p l).sync (fup F p (some l)) (T + l.length) room m) := by
  have hW : d.write p l = d.did 0 p [] l := by rw [RD.write, if_pos (h.writeE hp hr)]
  have hs : (d.write p l).seen = insF d.seen (p, l) := by
    rw [hW]
    show makeF d.seen 0 p [] l = _
    rw [makeF, if_pos rfl, withF_ins]
  have hpw : (d.write p l).pw = (n : Int) := by rw [hW]; show lessP d.pw = _; rw [h.pw, lessP_succ]
  have ht := h.tot
  have ins : ∀ l' : List UInt8, l'.length ≤ l.length → totF (insF d.seen (p, l')) ≤ T + l.length := fun l' hl => by
    have := totF_ins d.seen (p, l')
    have e : (p, l').2.length = l'.length := rfl
    omega
  match n, hpw with
  | 0, hpw =>
    refine .inl ⟨rfl, by rw [RD.syncE, if_pos (by simpa using hpw)], fun keep => ?_, fun c hc => ?_⟩
    · have hwt : (d.write p l).waits = [(0, p, [], l)] := by rw [hW]; show d.waits ++ _ = _; rw [h.waits]; rfl
      have hla : (d.write p l).lasts = d.seen := by rw [hW]; exact h.same
      have hre := restart_one hwt keep
      rw [hla] at hre
      have hroom : ((d.write p l).restart keep).room = room := by rw [hW]; exact h.room
      unfold dstep at hre
      by_cases hb : keep.headD false = true
      · rw [if_pos hb, if_pos rfl] at hre
        have hre2 : ∀ l' : List UInt8, l'.length ≤ l.length → ((d.write p l).restart keep).seen = makeF d.seen 0 p [] l' → ∃ F', At ((d.write p l).restart keep) F' (T + l.length) room ∧ ∀ q, q ≠ p → F' q = F q := fun l' hl he => by
          rw [makeF, if_pos rfl, withF_ins] at he
          refine ⟨fup F p (some l'), ⟨rfl, hroom, fun q => ?_, by rw [he]; exact ins l' hl⟩, fun q hq => if_neg hq⟩
          rw [he, lk_ins]
          unfold fup
          split
          · rfl
          · exact h.look q
        by_cases hb2 : keep.tail.headD false = true
        · simp only [hb2, if_true] at hre
          exact hre2 l (Nat.le_refl _) hre
        · simp only [hb2, if_false] at hre
          exact hre2 (l.take (l.length / 2)) (by rw [List.length_take]; omega) hre
      · rw [if_neg hb] at hre
        exact ⟨F, ⟨rfl, hroom, fun q => by rw [hre]; exact h.look q, by rw [hre]; show totF d.seen ≤ _; omega⟩, fun q _ => rfl⟩
    · have hwt : (d.write p l).waits = [(0, p, [], l)] := by rw [hW]; show d.waits ++ _ = _; rw [h.waits]; rfl
      rw [hwt] at hc
      rw [List.mem_singleton.1 hc]; show (0 : Int) ≠ 2; decide
  | m + 1, hpw =>
    have hne : ¬ (d.write p l).pw = 0 := by rw [hpw]; omega
    refine .inr ⟨m, rfl, by rw [RD.syncE, if_neg hne], ?_⟩
    have e : (d.write p l).sync = { (d.write p l) with lasts := (d.write p l).seen, waits := [], pw := lessP (d.write p l).pw } := by rw [RD.sync, if_neg hne]
    rw [e]
    refine ⟨by show lessP (d.write p l).pw = _; rw [hpw, lessP_succ], by show (d.write p l).room = _; rw [hW]; exact h.room, fun q => ?_, rfl, rfl, ?_⟩
    · show lk (d.write p l).seen q = _
      rw [hs, lk_ins]
      unfold fup
      split
      · rfl
      · exact h.look q
    · show totF (d.write p l).seen ≤ _
      rw [hs]; exact ins l (Nat.le_refl _)
/-- one rename, and its sync -/
theorem Pat.rename {d : RD} {F : List UInt8 → Option (List UInt8)} {T : Nat} {room : Int} {n : Nat} (h : Pat d F T room (n + 1)) {a c x : List UInt8} (hc : Named c) (hx : F a = some x) :
    d.renameE a c = 0 ∧ ((n = 0 ∧ (d.rename a c).syncE = 6 ∧ Crash (d.rename a c) (fun F' => (∀ q, F' q = F q) ∨ ∀ q, F' q = fup (fup F a none) c (some x) q) T room) ∨
    (∃ m, n = m + 1 ∧ (d.rename a c).syncE = 0 ∧ Pat (d.rename a c).sync (fup (fup F a none) c (some x)) T room m)) := by
  have h1 := h.look a
  rw [← lk_find, hx] at h1
  obtain ⟨y, hy, hyx⟩ : ∃ y, d.seen[findN d.seen a]? = some y ∧ y.2 = x := by
    cases hq : d.seen[findN d.seen a]? with
    | none => rw [hq] at h1; cases h1
    | some y => rw [hq] at h1; exact ⟨y, rfl, by simpa using h1⟩
  have hya : y.1 = a := by
    obtain ⟨hi, he⟩ := List.getElem?_eq_some_iff.1 hy
    have := List.findIdx_getElem (p := fun x : FP => decide (x.1 = a)) (xs := d.seen) (w := hi)
    rw [← he]
    exact of_decide_eq_true this
  have hE : d.renameE a c = 0 := by
    rw [RD.renameE, if_neg (fun k => k hc), RD.readE, if_neg (by rw [h.pw]; omega), if_neg (by rw [hy]; simp)]
  have hR : d.rename a c = d.did 1 a c [] := by rw [RD.rename, if_pos hE]
  have hmk : ∀ b, makeF d.seen 1 a c b = insF (withoutF d.seen a) (c, x) := fun b => by
    rw [makeF, if_neg (by decide), hy]
    show (if (1 : Int) = 2 then _ else _) = _
    rw [if_neg (by decide), withF_ins, hyx]
  have hlk : ∀ q, lk (insF (withoutF d.seen a) (c, x)) q = fup (fup F a none) c (some x) q := fun q => by
    rw [lk_ins]
    unfold fup withoutF
    split
    · rfl
    · rw [lk_filter]
      split
      · rfl
      · exact h.look q
  have htt : totF (insF (withoutF d.seen a) (c, x)) ≤ T := by
    have h2 := totF_ins (withoutF d.seen a) (c, x)
    have h3 : totF (withoutF d.seen a) + y.2.length ≤ totF d.seen := totF_filter_mem (List.mem_of_getElem? hy) (by simp [hya])
    have := h.tot
    have e : (c, x).2.length = x.length := rfl
    rw [hyx] at h3
    omega
  have hs : (d.rename a c).seen = insF (withoutF d.seen a) (c, x) := by rw [hR]; exact hmk []
  have hpw : (d.rename a c).pw = (n : Int) := by rw [hR]; show lessP d.pw = _; rw [h.pw, lessP_succ]
  refine ⟨hE, ?_⟩
  match n, hpw with
  | 0, hpw =>
    have hwt : (d.rename a c).waits = [(1, a, c, [])] := by rw [hR]; show d.waits ++ _ = _; rw [h.waits]; rfl
    refine .inl ⟨rfl, by rw [RD.syncE, if_pos (by simpa using hpw)], fun keep => ?_, fun k hk => ?_⟩
    · have hla : (d.rename a c).lasts = d.seen := by rw [hR]; exact h.same
      have hre := restart_one hwt keep
      rw [hla] at hre
      have hroom : ((d.rename a c).restart keep).room = room := by rw [hR]; exact h.room
      unfold dstep at hre
      by_cases hb : keep.headD false = true
      · rw [if_pos hb, if_neg (by show ¬ (1 : Int) = 0; decide)] at hre
        have hre3 : ((d.rename a c).restart keep).seen = insF (withoutF d.seen a) (c, x) := hre.trans (hmk [])
        exact ⟨_, ⟨rfl, hroom, fun q => by rw [hre3, hlk], by rw [hre3]; exact htt⟩, .inr fun q => rfl⟩
      · rw [if_neg hb] at hre
        exact ⟨F, ⟨rfl, hroom, fun q => by rw [hre]; exact h.look q, by rw [hre]; exact h.tot⟩, .inl fun q => rfl⟩
    · rw [hwt] at hk
      rw [List.mem_singleton.1 hk]; show (1 : Int) ≠ 2; decide
  | m + 1, hpw =>
    have hne : ¬ (d.rename a c).pw = 0 := by rw [hpw]; omega
    refine .inr ⟨m, rfl, by rw [RD.syncE, if_neg hne], ?_⟩
    have e : (d.rename a c).sync = { (d.rename a c) with lasts := (d.rename a c).seen, waits := [], pw := lessP (d.rename a c).pw } := by rw [RD.sync, if_neg hne]
    rw [e]
    refine ⟨by show lessP (d.rename a c).pw = _; rw [hpw, lessP_succ], by show (d.rename a c).room = _; rw [hR]; exact h.room, fun q => ?_, rfl, rfl, ?_⟩
    · show lk (d.rename a c).seen q = _
      rw [hs, hlk]
    · show totF (d.rename a c).seen ≤ _
      rw [hs]; exact htt
end Go.Proofs.YtfikjheicjamhaaGreatDoor
end
section
/- Chunks by their names (layer 13), over plain disks: a Put with so much power, what a restart finds, and a Clean. No program. -/
set_option linter.unusedVariables false
set_option linter.unusedSimpArgs false
namespace Go.Proofs.YtfikjheicjamhaaGreatDoor
open Go.Eng Go.Hx
theorem syncN {d : RD} (h : d.syncE = 6) : d.sync = d := by
  have : d.pw = 0 := by
    unfold RD.syncE at h
    split at h
    · assumption
    · exact absurd h (by decide)
  rw [RD.sync, if_pos this]
theorem Pat.noRead {d : RD} {F : List UInt8 → Option (List UInt8)} {T : Nat} {room : Int} (h : Pat d F T room 0) (p : List UInt8) : d.readE p = 6 := by rw [RD.readE, if_pos (by simpa using h.pw)]
theorem Pat.noRename {d : RD} {F : List UInt8 → Option (List UInt8)} {T : Nat} {room : Int} (h : Pat d F T room 0) {a c : List UInt8} (hc : Named c) : d.renameE a c = 6 := by rw [RD.renameE, if_neg (fun k => k hc), h.noRead]
theorem Pat.readE {d : RD} {F : List UInt8 → Option (List UInt8)} {T : Nat} {room : Int} {n : Nat} (h : Pat d F T room (n + 1)) (p : List UInt8) : d.readE p = if F p = none then 4 else 0 := by
  have h1 := h.look p
  rw [← lk_find] at h1
  rw [RD.readE, if_neg (by rw [h.pw]; omega)]
  cases hq : d.seen[findN d.seen p]? with
  | none => rw [hq] at h1; rw [← h1]; simp
  | some y => rw [hq] at h1; rw [← h1]; simp
/-- what a restart finds of a Put: nothing but the place ahead is touched, or all is done -/
def halfF (F : List UInt8 → Option (List UInt8)) (b : List UInt8) (F' : List UInt8 → Option (List UInt8)) : Prop := F' (placeL (shaL b)) = F (placeL (shaL b)) ∨ F' (placeL (shaL b)) = some (sealL b)
theorem Pat.putR {d : RD} {F : List UInt8 → Option (List UInt8)} {T : Nat} {room : Int} {n : Nat} (h : Pat d F T room n) {b : List UInt8} (hr : (T : Int) + (sealL b).length ≤ room) :
    (∃ m d', n = m + 4 ∧ d.putR b = (d', 0) ∧ Pat d' (putF F b) (T + (sealL b).length) room m) ∨
    (n < 4 ∧ ∃ d', d.putR b = (d', 6) ∧ Crash d' (halfF F b) (T + (sealL b).length) room) := by
  have hn := nm_ahead (nm := shaL b) (shaL_length b)
  have hp := nm_place (nm := shaL b) (shaL_length b)
  have s0 : placeL (shaL b) ≠ aheadL (shaL b) := place_ahead _ _
  have eR : d.putR b = runF [wstepF (aheadL (shaL b)) (sealL b), sstepF, nstepF (aheadL (shaL b)) (placeL (shaL b)), sstepF] d := rfl
  rw [runF] at eR
  match n, h with
  | 0, h =>
    have e6 : (wstepF (aheadL (shaL b)) (sealL b) d).2 = 6 := h.write0 hn
    have e7 : wstepF (aheadL (shaL b)) (sealL b) d = (d, 6) := Prod.ext (by show d.write _ _ = d; rw [RD.write, if_neg (by rw [h.write0 hn]; decide)]) e6
    exact .inr ⟨by decide, d, by rw [eR, if_pos (by rw [e6]; decide), e7], h.crash.mono (fun F' hF => .inl (hF _)) (by omega)⟩
  | n + 1, h =>
    have hE := h.writeE hn (l := sealL b) hr
    rw [if_neg (by show ¬ d.writeE _ _ ≠ 0; rw [hE]; decide), runF] at eR
    rcases h.write hn (l := sealL b) hr with ⟨rfl, h1, h2⟩ | ⟨m, rfl, h1, h2⟩
    · refine .inr ⟨by decide, _, ?_, h2.mono (fun F' hF => .inl (hF _ s0)) (Nat.le_refl _)⟩
      rw [eR, if_pos (by show (d.write _ _).syncE ≠ 0; rw [h1]; decide)]
      exact Prod.ext (syncN h1) h1
    · rw [if_neg (by show ¬ (d.write _ _).syncE ≠ 0; rw [h1]; decide), runF] at eR
      match m, h2 with
      | 0, h2 =>
        have e6 := h2.noRename (a := aheadL (shaL b)) hp
        refine .inr ⟨by decide, (d.write (aheadL (shaL b)) (sealL b)).sync, ?_, h2.crash.mono (fun F' hF => .inl (by rw [hF]; exact if_neg s0)) (Nat.le_refl _)⟩
        rw [eR, if_pos (by show (d.write _ _).sync.renameE _ _ ≠ 0; rw [e6]; decide)]
        exact Prod.ext (by show (d.write _ _).sync.rename _ _ = _; rw [RD.rename, if_neg (by rw [e6]; decide)]) e6
      | m + 1, h2 =>
        have hx : fup F (aheadL (shaL b)) (some (sealL b)) (aheadL (shaL b)) = some (sealL b) := if_pos rfl
        obtain ⟨h3, h4⟩ := h2.rename hp hx
        rw [if_neg (by show ¬ (d.write _ _).sync.renameE _ _ ≠ 0; rw [h3]; decide), runF] at eR
        rcases h4 with ⟨rfl, h5, h6⟩ | ⟨k, rfl, h5, h6⟩
        · refine .inr ⟨by decide, _, ?_, h6.mono (fun F' hF => ?_) (Nat.le_refl _)⟩
          · rw [eR, if_pos (by show ((d.write _ _).sync.rename _ _).syncE ≠ 0; rw [h5]; decide)]
            exact Prod.ext (syncN h5) h5
          · rcases hF with hF | hF
            · exact .inl (by rw [hF]; exact if_neg s0)
            · exact .inr (by rw [hF]; exact if_pos rfl)
        · exact .inl ⟨k, _, rfl, eR.trans (if_neg (by show ¬ ((d.write _ _).sync.rename _ _).syncE ≠ 0; rw [h5]; decide)), h6⟩
/-- a Put with so much power, and a restart -/
theorem put_crash {b : List UInt8} (hb : b.length ≤ 60) (n : Nat) :
    (((4 ≤ n ∧ ∃ d', ((RD.new 1000).power (n : Int)).put b = (d', shaL b, 0)) ∨ (n < 4 ∧ ∃ d', ((RD.new 1000).power (n : Int)).put b = (d', zerosL, 6)))) ∧
    ∀ keep, ∃ F, SD ((((RD.new 1000).power (n : Int)).put b).1.restart keep) F 100 1000 ∧ (F (placeL (shaL b)) = none ∨ F (placeL (shaL b)) = some (sealL b)) := by
  obtain ⟨h10, hsl⟩ := sealL_le b
  have h0 := (SD.new 1000)
  have hP : Pat ((RD.new 1000).power (n : Int)) (fun _ => none) 0 1000 n := ⟨by show max (n : Int) (-1) = n; omega, rfl, fun p => rfl, rfl, rfl, Nat.le_refl _⟩
  have hcr : ∀ {d' : RD} {T : Nat}, Crash d' (halfF (fun _ => none) b) T 1000 → T ≤ 100 → ∀ keep, ∃ F, SD (d'.restart keep) F 100 1000 ∧ (F (placeL (shaL b)) = none ∨ F (placeL (shaL b)) = some (sealL b)) := fun hc hT keep => by
    obtain ⟨F, h1, h2⟩ := (hc.mono (fun _ h => h) hT).re keep
    exact ⟨F, ⟨h1, rfl, rfl⟩, h2⟩
  generalize hd : (RD.new 1000).power (n : Int) = d at hP
  have ePut : d.getE (shaL b) = 6 ∨ d.getE (shaL b) = 4 := by
    match n, hP with
    | 0, hP => exact .inl (by rw [getE_read (by rw [hP.noRead]; decide), hP.noRead])
    | n + 1, hP => exact .inr (by have e : d.readE (placeL (shaL b)) = 4 := by rw [hP.readE, if_pos rfl]
                                  rw [getE_read (by rw [e]; decide), e])
  rcases ePut with e6 | e4
  · have e : d.put b = (d, zerosL, 6) := by unfold RD.put; rw [if_neg (by omega), if_pos e6]
    have hn4 : n < 4 := by
      match n, hP with
      | 0, _ => decide
      | n + 1, hP =>
        have e : d.readE (placeL (shaL b)) = 4 := by rw [hP.readE, if_pos rfl]
        rw [getE_read (by rw [e]; decide), e] at e6
        exact absurd e6 (by decide)
    refine ⟨.inr ⟨hn4, d, e⟩, fun keep => ?_⟩
    rw [e]
    exact hcr (hP.crash.mono (fun F' hF => .inl (hF _)) (Nat.le_refl _)) (by decide) keep
  · have e : d.put b = ((d.putR b).1, if (d.putR b).2 = 0 then shaL b else zerosL, (d.putR b).2) := by
      unfold RD.put; rw [if_neg (by omega), if_neg (by rw [e4]; decide), if_neg (by rw [e4]; decide)]
    rcases hP.putR (b := b) (by omega) with ⟨m, d', hn, eR, h1⟩ | ⟨hn, d', eR, h1⟩
    · rw [eR] at e
      refine ⟨.inl ⟨by omega, d', by rw [e]; rfl⟩, fun keep => ?_⟩
      rw [e]
      exact hcr (h1.crash.mono (fun F' hF => .inr (by rw [hF]; exact putF_place _ _)) (Nat.le_refl _)) (by omega) keep
    · rw [eR] at e
      refine ⟨.inr ⟨hn, d', by rw [e]; rfl⟩, fun keep => ?_⟩
      rw [e]
      exact hcr h1 (by omega) keep
/-- a Put, of what may be there -/
theorem SD.put2 {d : RD} {F : List UInt8 → Option (List UInt8)} {T : Nat} {room : Int} (h : SD d F T room) {b : List UInt8} (hb : b.length ≤ 4096) (hF : F (placeL (shaL b)) = none ∨ F (placeL (shaL b)) = some (sealL b)) (hr : (T : Int) + (sealL b).length ≤ room) :
    ∃ d' F', d.put b = (d', shaL b, 0) ∧ SD d' F' (T + (sealL b).length) room ∧ F' (placeL (shaL b)) = some (sealL b) := by
  rcases hF with hF | hF
  · obtain ⟨d', e, hd⟩ := h.put hb hF hr
    exact ⟨d', _, e, hd, putF_place _ _⟩
  · obtain ⟨h1, h2⟩ := get_at h.at_ hb hF
    refine ⟨d, F, ?_, ⟨⟨h.at_.pw, h.at_.room, h.at_.look, by have := h.at_.tot; omega⟩, h.same, h.waits⟩, hF⟩
    unfold RD.put
    rw [if_neg (by omega), if_neg (by rw [h1]; decide), if_pos h1]
/-- what Get tells of it -/
theorem get_two {d : RD} {F : List UInt8 → Option (List UInt8)} {T : Nat} {room : Int} (h : At d F T room) {b : List UInt8} (hb : b.length ≤ 4096) (hF : F (placeL (shaL b)) = none ∨ F (placeL (shaL b)) = some (sealL b)) :
    (d.getE (shaL b) = 4) ∨ (d.getE (shaL b) = 0 ∧ d.getB (shaL b) = b) := by
  rcases hF with hF | hF
  · exact .inl (getE_at h hF)
  · exact .inr (get_at h hb hF)
theorem At.remove {d : RD} {F : List UInt8 → Option (List UInt8)} {T : Nat} {room : Int} (h : At d F T room) {p x : List UInt8} (hF : F p = some x) : d.readE p = 0 ∧ At (d.remove p) (fup F p none) T room ∧ (d.remove p).seen = withoutF d.seen p := by
  have hE : d.readE p = 0 := by rw [h.readE, if_neg (by rw [hF]; simp)]
  have hs : (d.remove p).seen = withoutF d.seen p := by
    rw [RD.remove, if_pos hE]
    show makeF d.seen 2 p [] [] = _
    have h1 := h.look p
    rw [← lk_find, hF] at h1
    rw [makeF, if_neg (by decide)]
    cases hq : d.seen[findN d.seen p]? with
    | none => rw [hq] at h1; cases h1
    | some y => exact if_pos rfl
  refine ⟨hE, ⟨?_, by rw [RD.remove, if_pos hE]; exact h.room, fun q => ?_, ?_⟩, hs⟩
  · rw [RD.remove, if_pos hE]
    show lessP d.pw = -1
    rw [h.pw]; rfl
  · rw [hs]
    unfold fup withoutF
    rw [lk_filter]
    split
    · rfl
    · exact h.look q
  · rw [hs]
    exact Nat.le_trans (totF_filter _ _) h.tot
theorem At.cleans {T : Nat} {room : Int} : ∀ (ns : List (List UInt8)) {d : RD} {F : List UInt8 → Option (List UInt8)}, At d F T room → ns.Nodup → (∀ p ∈ ns, F p ≠ none) →
    ∃ d', runF (ns.map rstepF ++ [sstepF]) d = (d', 0) ∧ At d' (fun q => if q ∈ ns then none else F q) T room
  | [], d, F, h, _, _ => by
    refine ⟨d.sync, ?_, ?_⟩
    · show runF [sstepF] d = _
      rw [runF, if_neg (by show ¬ d.syncE ≠ 0; rw [h.syncE]; decide)]
      rfl
    · simpa using h.sync
  | p :: r, d, F, h, hn, hm => by
    obtain ⟨x, hx⟩ : ∃ x, F p = some x := by
      cases hq : F p with
      | none => exact absurd hq (hm p (List.mem_cons_self ..))
      | some x => exact ⟨x, rfl⟩
    obtain ⟨hE, h1, _⟩ := h.remove hx
    rw [List.nodup_cons] at hn
    obtain ⟨d', e, h2⟩ := At.cleans r h1 hn.2 (fun q hq => by
      have hne : q ≠ p := fun e => hn.1 (e ▸ hq)
      unfold fup
      rw [if_neg hne]
      exact hm q (List.mem_cons_of_mem _ hq))
    refine ⟨d', ?_, ⟨h2.pw, h2.room, fun q => ?_, h2.tot⟩⟩
    · show runF (rstepF p :: (r.map rstepF ++ [sstepF])) d = _
      rw [runF, if_neg (by show ¬ d.readE p ≠ 0; rw [hE]; decide)]
      exact e
    · rw [h2.look q]
      unfold fup
      by_cases hq : q = p
      · subst hq; simp
      · simp [hq]
end Go.Proofs.YtfikjheicjamhaaGreatDoor
end
section
/- Slices of booleans that came in, as lists. -/
set_option linter.unusedVariables false
set_option linter.unusedSimpArgs false
set_option maxRecDepth 20000
namespace Go.Proofs.YtfikjheicjamhaaGreatDoor
open Go.Eng Go.Hx
theorem bool_cells {P : Program} {e : TypeId} (he : P.underlying e = some .bool) : ∀ {n : Nat} {ys : List Cell}, ys.length = n → (∀ i, i < n → Ty P e ((ys.drop i).take 1)) → ∃ l : List Bool, ys.map Cell.val = bools l ∧ l.length = n := by
  intro n ys hl h
  refine ⟨ys.map fun y => match y.val with | .bool z => z | _ => false, ?_, by simpa using hl⟩
  apply List.ext_getElem?
  intro i
  simp only [bools, List.map_map, List.getElem?_map]
  by_cases hi : i < n
  · obtain ⟨c, hc⟩ := ty_bool he (h i hi)
    have h2 : ((ys.drop i).take 1)[0]? = some (.v (.bool c)) := by rw [hc]; rfl
    rw [List.getElem?_take, if_pos (by omega), List.getElem?_drop, Nat.add_zero] at h2
    rw [h2]
    simp [Cell.val]
  · rw [List.getElem?_eq_none (by omega)]
    rfl
theorem ty_bools {xs : List Cell} (h : Ty Tryz.prog 28 xs) : ∃ A n c ys l, xs = [.s 1 A n c ys] ∧ n ≤ c ∧ n ≤ 140737488351232 ∧ ys.map Cell.val = bools l ∧ l.length = n := by
  obtain ⟨A, n, c, ys, rfl, h1, h2, h3, h4⟩ := ty_slice Tryz.underlying28 h
  have c1 : Tryz.prog.cellsOf 4 = 1 := by kernel_rfl
  have b1 : Tryz.prog.bytesOf 4 = 1 := by kernel_rfl
  rw [c1] at h3 h4 ⊢
  rw [b1] at h2
  obtain ⟨l, h5, h6⟩ := bool_cells Tryz.underlying4 (by omega : ys.length = n) (fun i hi => by have := h4 i hi; rwa [Nat.mul_one] at this)
  exact ⟨A, n, c, ys, l, rfl, h1, by omega, h5, h6⟩
end Go.Proofs.YtfikjheicjamhaaGreatDoor
end
section
/- The law StoreCrashes, computed. -/
set_option linter.unusedVariables false
set_option linter.unusedSimpArgs false
set_option maxRecDepth 20000
set_option maxHeartbeats 4000000
namespace Go.Proofs.YtfikjheicjamhaaGreatDoor
open Go.Eng Go.Hx
theorem DS.names {st : DSt} {d : RD} {k : Nat} (h : DS st d k) (p : List UInt8) : (namesP d p).length ≤ k := Nat.le_trans (List.length_filter_le _ _) (by rw [List.length_map]; exact h.rok.seen)
theorem At.clean_ok {d : RD} {F : List UInt8 → Option (List UInt8)} {T : Nat} {room : Int} (h : At d F T room) (hnd : (namesP d tPre).Nodup) : d.clean.2 = 0 ∧ namesP d.clean.1 tPre = [] := by
  by_cases hz : namesP d tPre = []
  · have e : d.clean = (d, 0) := by unfold RD.clean; rw [if_pos hz]
    rw [e]
    exact ⟨rfl, hz⟩
  · have e : d.clean = runF ((namesP d tPre).map rstepF ++ [sstepF]) d := by unfold RD.clean; rw [if_neg hz]
    obtain ⟨d', e1, h1⟩ := At.cleans (namesP d tPre) h hnd (fun p hp => by
      have hm := (List.mem_filter.1 hp).1
      rw [← h.look p]
      exact lk_mem.2 hm)
    rw [e, e1]
    refine ⟨rfl, ?_⟩
    refine List.eq_nil_iff_forall_not_mem.2 fun q hq => ?_
    obtain ⟨hm, hpre⟩ := List.mem_filter.1 hq
    have h2 := lk_mem.2 hm
    rw [h1.look q] at h2
    by_cases hqn : q ∈ namesP d tPre
    · exact h2 (if_pos hqn)
    · rw [if_neg hqn, ← h.look q] at h2
      exact hqn (List.mem_filter.2 ⟨lk_mem.1 h2, hpre⟩)
theorem storeCrashesC {A : Option Addr} {n c : Nat} {l : List UInt8} {z : Int} {K : Option Addr} {mk ck : Nat} {bs : List Bool} (hc : n ≤ c) (hn : n ≤ 140737488351232) (hz : -9223372036854775808 ≤ z ∧ z ≤ 9223372036854775807) (hck : mk ≤ ck) (hmk : mk ≤ 140737488351232) : Con Tryz.prog 4 [.slice A n c, .int .i64 z, .slice K mk ck] [] [RRd 1 A n (b8s l), RRd 1 K mk (bools bs), RRoots] (fun v_ X_ S_ => v_ = (.bool true) ∧ X_ = [] ∧ S_ = []) := by
  obtain ⟨k, hk, hk6⟩ : ∃ k : Nat, around z 6 = (k : Int) ∧ k < 6 := by
    have := around_lt z 6 (by decide)
    exact ⟨(around z 6).toNat, by omega, by omega⟩
  have hll : (l.take 60).length ≤ 60 := by rw [List.length_take]; omega
  refine henter (N := 157) Tryz.func4 rfl rfl (by simp) fun b => ?_
  refine hfactC (fun m => rdB (m.rd 0 rfl)) ?_
  rintro ⟨hl_r, hA_r⟩
  refine hfactC (fun m => rdX (m.rd 1 rfl)) ?_
  rintro ⟨hl_rk, hA_rk⟩
  refine hseq <| hreg <| hy (fun _ => y_assign rfl) <| hend <| hthen <| hseq <| hreg <| ?_
  refine hx (xh_call rfl Tryz.call18 (begin13C (by decide) (by decide)) [] rfl [] rfl ?_)
  rintro _ _ _ ⟨gw, gd, gs, gl, y, rfl, rfl, rfl, hp⟩
  refine hy (fun _ => y_assign rfl) <| hend <| hsub (ρ' := [(7, _), (6, _), (0, _), (1, _), (2, _)]) ⟨rfl, rfl, rfl, rfl, rfl, trivial⟩ <| hmemQ (X' := [_, _]) (S' := [_, _, _, _]) (fun _ m => m) <| hthen <| hseq <| hseq <| hreg <| hy (fun _ => y_move rfl) <| hy (fun _ => y_eqPn rfl rfl (by kernel_rfl)) <| hend <| hsub (ρ' := [(21, _), (7, _), (6, _), (0, _), (1, _), (2, _)]) ⟨rfl, rfl, rfl, rfl, rfl, rfl, trivial⟩ <| hthen <| ?_
  refine hiff rfl (rfl) ?_
  have hD0 : DS (dinit 1000 gs gl) (RD.new 1000) 0 := DS.init (by decide)
  refine hfactC (fun m => (m.rd 1 rfl).1) fun hl8 => ?_
  rw [b8s_length, Nat.mul_one] at hl8
  have hlm : (l.take 60).length = min n 60 := by rw [List.length_take, hl8]; omega
  refine hcskip <| hthen <| hseq <| hreg <| hy (fun _ => y_move rfl) <| ?_
  refine hx (xh_call rfl Tryz.call19 (fewC (by omega) (by omega)) [] rfl [1] rfl ?_)
  rintro _ _ _ ⟨v, rfl, rfl, rfl⟩
  refine hfactL (fun m => (m.own 0 rfl).slice) ?_
  rintro ⟨A_x, c_x, rfl, hc_x⟩
  refine hfactL (fun m => (m.ord 0 rfl).2.1) fun hA_x => ?_
  refine hy (fun _ => y_assign rfl) <| hend <| hsub (ρ' := [(8, _), (21, _), (7, _), (6, _), (0, _), (1, _), (2, _)]) ⟨rfl, rfl, rfl, rfl, rfl, rfl, rfl, trivial⟩ <| hmemQ (X' := [_, _, _]) (S' := [_, _, _, _]) (fun _ m => m) <| hthen <| hseq <| hreg <| hy (fun _ => y_move rfl) <| ?_
  generalize hbb : l.take 60 = bb at hll hlm ⊢
  obtain ⟨hpc, hre⟩ := put_crash hll k
  obtain ⟨h10, hsl⟩ := sealL_le bb
  have hlen : ((RD.new 1000).power (k : Int)).put bb |>.2.1.length = 32 := by
    rcases hpc with ⟨_, d', e⟩ | ⟨_, d', e⟩
    · rw [e]; exact shaL_length _
    · rw [e]; exact zerosL_length
  refine hx (xh_call rfl Tryz.call9 (aroundC (by omega) (by omega) (by omega)) [] rfl [] rfl ?_)
  rintro _ _ _ ⟨rfl, rfl, rfl⟩
  rw [hk]
  refine hy (fun _ => y_assign rfl) <| hend <| hsub (ρ' := [(9, _), (8, _), (21, _), (7, _), (6, _), (0, _), (1, _), (2, _)]) ⟨rfl, rfl, rfl, rfl, rfl, rfl, rfl, rfl, trivial⟩ <| hmemQ (X' := [_, _, _]) (S' := [_, _, _, _]) (fun _ m => m) <| hthen <| hseq <| hreg <| hy (fun _ => y_move rfl) <| hy (fun _ => y_nilp rfl) <| hy (fun _ => y_fld rfl fa63_0 (by decide)) <| hy (fun m => y_ld1 rfl ag42 (ld_blk (m.blk 1 rfl) (i := 0) rfl)) <| hy (fun _ => y_move rfl) <| ?_
  refine hx (xh_call rfl Tryz.call20 (dpowerC hD0 (by omega)) [2] rfl [] rfl ?_)
  rintro _ _ _ ⟨st1, rfl, rfl, rfl, hD1⟩
  refine hend <| hsub (ρ' := [(9, _), (8, _), (21, _), (7, _), (6, _), (0, _), (1, _), (2, _)]) ⟨rfl, rfl, rfl, rfl, rfl, rfl, rfl, rfl, trivial⟩ <| hmemQ (X' := [_, _, _]) (S' := [_, _, _, _]) (fun _ m => m) <| hthen <| hseq <| hreg <| hy (fun _ => y_move rfl) <| hy (fun _ => y_nilp rfl) <| hy (fun _ => y_fld rfl fa63_0 (by decide)) <| hy (fun m => y_ld1 rfl ag42 (ld_blk (m.blk 2 rfl) rfl)) <| hy (fun _ => y_move rfl) <| ?_
  refine hx (xh_calll rfl Tryz.call21 (putSC hD1 (by decide) hc_x hlm (Nat.le_trans (Nat.min_le_right _ _) (by decide))) [0] rfl (.x 0 rfl .own (.s 3 rfl .nil)) ?_)
  rintro _ _ _ ⟨st12, rfl, rfl, rfl, hD2⟩
  refine ⟨rfl, ?_⟩
  have hp32 : (b8s (((RD.new 1000).power (k : Int)).put bb).2.1).length = 32 := by rw [b8s_length, hlen]
  refine hy (fun _ => y_move rfl) <| hy (fun _ => y_extract rfl rfl) <| hy (fun _ => y_extract rfl rfl) <| ?_
  refine hx (xh_alloc ti33 (fun g10 => ?_))
  refine hx0 (xh_stA 0 rfl rfl rfl sz33 hp32 b8s_one rfl ?_)
  refine hy (fun _ => y_assign rfl) <| hend <| hsub (ρ' := [(11, _), (10, _), (9, _), (8, _), (21, _), (7, _), (6, _), (0, _), (1, _), (2, _)]) ⟨rfl, rfl, rfl, rfl, rfl, rfl, rfl, rfl, rfl, rfl, trivial⟩ <| hmemQ (X' := [_, _, _, _]) (S' := [_, _, _, _]) (fun _ m => m) <| hthen <| hseq <| hseq <| ?_
  refine hcutk1 (fun (st2:DSt) => [(58, .bool false)]) (fun (st2:DSt) => [RDisk gd st2]) (fun (st2:DSt) => []) (fun (st2:DSt) => DS st2 (((RD.new 1000).power (k : Int)).put bb).1 4) [(11, _), (10, _), (9, _), (8, _), (21, _), (7, _), (6, _), (0, _), (1, _), (2, _)] ⟨rfl, rfl, rfl, rfl, rfl, rfl, rfl, rfl, rfl, rfl, trivial⟩ [1] rfl ?_ (fun st2 hE2 => ?_)
  · rcases hpc with ⟨hk4, d', e1⟩ | ⟨hk4, d', e1⟩
    · refine hreg <| hy (fun _ => y_move rfl) <| hy (fun _ => yT (y_eql rfl rfl) ((decide_eq_true (by rw [e1])))) <| hy (fun _ => y_move rfl) <| hy (fun _ => yT (y_gtr rfl rfl) ((decide_eq_true (by omega)))) <| hy (fun _ => y_bne Tryz.underlying4 rfl rfl) <| hy (fun _ => y_move rfl) <| hyg (o := _) rfl rfl rfl (fun _ => y_move rfl) <| hyg (o := _) rfl rfl rfl (fun _ => yF (y_neq rfl rfl) ((by rw [e1]; simp))) <| hyg (o := _) rfl rfl rfl (fun _ => y_move rfl) <| hskip rfl rfl rfl (by decide) <| hskip rfl rfl rfl (by decide) <| hskip rfl rfl rfl (by decide) <| hskipU rfl rfl rfl <| hskipU rfl rfl rfl <| hskipU rfl rfl rfl <| hskip rfl rfl rfl (by decide) <| hyg (o := _) rfl rfl rfl (fun _ => y_pickF rfl rfl) <| hy (fun _ => y_pickF rfl rfl) <| hend <| hsub (ρ' := [(58, _), (11, _), (10, _), (9, _), (8, _), (21, _), (7, _), (6, _), (0, _), (1, _), (2, _)]) ⟨rfl, rfl, rfl, rfl, rfl, rfl, rfl, rfl, rfl, rfl, rfl, trivial⟩ <| ?_
      exact hqcutk1 (R := fun (st2:DSt) => [(58, .bool false)]) (X1 := fun (st2:DSt) => [RDisk gd st2]) (S1 := fun (st2:DSt) => []) (I := fun (st2:DSt) => DS st2 (((RD.new 1000).power (k : Int)).put bb).1 4) st12 ⟨rfl, rfl, rfl, rfl, rfl, rfl, rfl, rfl, rfl, rfl, rfl, trivial⟩ [1, 0, 0, 0] rfl [0, 1, 2, 3] rfl hD2
    · refine hreg <| hy (fun _ => y_move rfl) <| hy (fun _ => yF (y_eql rfl rfl) ((decide_eq_false (by rw [e1]; simp)))) <| hy (fun _ => y_move rfl) <| hy (fun _ => yF (y_gtr rfl rfl) ((decide_eq_false (by omega)))) <| hy (fun _ => y_bne Tryz.underlying4 rfl rfl) <| hy (fun _ => y_move rfl) <| hyg (o := _) rfl rfl rfl (fun _ => y_move rfl) <| hyg (o := _) rfl rfl rfl (fun _ => yT (y_neq rfl rfl) ((by rw [e1]; simp))) <| hyg (o := _) rfl rfl rfl (fun _ => y_move rfl) <| hyg (o := _) rfl rfl rfl (fun _ => y_move rfl) <| hyg (o := _) rfl rfl rfl (fun _ => yF (y_neq rfl rfl) ((by rw [e1]; simp))) <| hyg (o := _) rfl rfl rfl (fun _ => y_move rfl) <| hyg (o := _) rfl rfl rfl (fun m => y_ldN rfl ag33 sz33 hp32 ((m.blk 0 rfl).cells0)) <| hyg (o := _) rfl rfl rfl (fun _ => yV (y_build0 ti33 rfl (by kernel_rfl)) ((rfl : _ = Value.agg (b8s zerosL).toArray))) <| hyg (o := _) rfl rfl rfl (fun _ => yF (y_neD33 rfl rfl hlen zerosL_length) ((by rw [e1]; simp))) <| hyg (o := _) rfl rfl rfl (fun _ => y_pickF rfl rfl) <| hyg (o := _) rfl rfl rfl (fun _ => y_pickT rfl rfl) <| hy (fun _ => y_pickF rfl rfl) <| hend <| hsub (ρ' := [(58, _), (11, _), (10, _), (9, _), (8, _), (21, _), (7, _), (6, _), (0, _), (1, _), (2, _)]) ⟨rfl, rfl, rfl, rfl, rfl, rfl, rfl, rfl, rfl, rfl, rfl, trivial⟩ <| ?_
      exact hqcutk1 (R := fun (st2:DSt) => [(58, .bool false)]) (X1 := fun (st2:DSt) => [RDisk gd st2]) (S1 := fun (st2:DSt) => []) (I := fun (st2:DSt) => DS st2 (((RD.new 1000).power (k : Int)).put bb).1 4) st12 ⟨rfl, rfl, rfl, rfl, rfl, rfl, rfl, rfl, rfl, rfl, rfl, trivial⟩ [1, 0, 0, 0] rfl [0, 1, 2, 3] rfl hD2
  · generalize hq : (((RD.new 1000).power (k : Int)).put bb).1 = d1 at hE2 hre
    refine hthen <| ?_
    refine hiff rfl (rfl) ?_
    refine hmemC (fun w m => m.asV 2 rfl (View.takeV (k := min mk 9) (Nat.min_le_left _ _))) ?_
    refine hfactC (fun m => rdX (m.rd 0 rfl)) ?_
    rintro ⟨hl_rf, hA_rf⟩
    rw [show (bools bs).take (min mk 9 * 1) = bools (bs.take (min mk 9)) by simp [bools]]
    obtain ⟨F1, hS1, hF1⟩ := hre (bs.take (min mk 9))
    refine hcskip <| hthen <| hseq <| hdrwB [1, 1, 1] [0, 1, 2, 3, 4] rfl rfl [9] [(0, some 0), (1, some 0), (2, some 0), (3, some 0), (4, some 0), (5, some 0), (6, some 0), (7, some 0), (8, some 0), (9, none)] (by kernel_rfl) (by kernel_rfl) rfl 99 <| htyU (y_move rfl) <| htyU (y_nilp rfl) <| htyU (y_fld rfl fa63_0 (by decide)) <| hty (fun m => y_ld1 rfl ag42 (ld_blk (m.blk 2 rfl) (i := 0) rfl)) <| htyU (y_move rfl) <| htyU (y_move rfl) <| htyU (y_lenS rfl Tryz.underlying28) <| htyU (y_min rfl rfl) <| htyU (y_slTo rfl rfl Tryz.underlying28 sz4 (show ((min mk 9 : Nat) : Int) = _ by omega) (by omega)) <| ?_
    refine htx (xh_call rfl Tryz.call22 (drestartXC hE2 (by decide) (by omega)) [0] rfl [0] rfl ?_)
    rintro _ _ _ ⟨st13, rfl, rfl, rfl, hE3⟩
    refine ⟨(fun _ => wk [1, 1, 1] [0, 1, 2, 3, 4] rfl rfl), ?_⟩
    refine htend <| hsub (ρ' := [(58, _), (11, _), (10, _), (9, _), (8, _), (21, _), (7, _), (6, _), (0, _), (1, _), (2, _)]) ⟨rfl, rfl, rfl, rfl, rfl, rfl, rfl, rfl, rfl, rfl, rfl, trivial⟩ <| hmemQ (X' := [_, _, _, _]) (S' := [_, _, _, _, _]) (fun _ m => m) <| hthen <| hseq <| hreg <| hy (fun _ => y_move rfl) <| ?_
    refine hx (xh_calll rfl Tryz.call23 (rshaSumC (by omega)) [] rfl (.x 2 rfl .own .nil) ?_)
    rintro _ _ _ ⟨rfl, rfl, rfl⟩
    refine ⟨rfl, ?_⟩
    refine hx (xh_alloc ti33 (fun g12 => ?_))
    have hm := shaL_length bb
    have h32 : (b8s (shaL bb)).length = 32 := by rw [b8s_length, hm]
    refine hx0 (xh_stA 0 rfl rfl rfl sz33 h32 b8s_one rfl ?_)
    refine hend <| hsub (ρ' := [(12, _), (58, _), (11, _), (10, _), (9, _), (8, _), (21, _), (7, _), (6, _), (0, _), (1, _), (2, _)]) ⟨rfl, rfl, rfl, rfl, rfl, rfl, rfl, rfl, rfl, rfl, rfl, rfl, trivial⟩ <| hmemQ (X' := [_, _, _, _, _]) (S' := [_, _, _, _, _]) (fun _ m => m) <| hthen <| hseq <| hdrwB [0, 1, 1, 1] [0, 1, 2, 3, 4] rfl rfl [5] [(0, some 0), (1, some 0), (2, some 0), (3, some 0), (4, some 0), (5, none), (6, some 1), (7, some 1), (8, some 1), (9, some 1), (10, some 1)] (by kernel_rfl) (by kernel_rfl) rfl 99 <| htyU (y_move rfl) <| htyU (y_nilp rfl) <| htyU (y_fld rfl fa63_0 (by decide)) <| hty (fun m => y_ld1 rfl ag42 (ld_blk (m.blk 3 rfl) (i := 0) rfl)) <| hty (fun m => y_ldN rfl ag33 sz33 h32 ((m.blk 0 rfl).cells0)) <| ?_
    refine htx (xh_call rfl Tryz.call24 (getC hE3 hm) [1] rfl [4] rfl ?_)
    rintro _ _ _ ⟨v2, rfl, rfl, rfl⟩
    refine ⟨(fun _ => wk [2, 2, 2, 2] [0, 1, 2, 3, 4] rfl rfl), ?_⟩
    refine htfact (fun m => (m.own 1 rfl).slice) ?_
    rintro ⟨A_x2, c_x2, rfl, hc_x2⟩
    refine htfact (fun m => (m.ord 1 rfl).2.1) fun hA_x2 => ?_
    refine htyU (y_move rfl) <| htyU (y_extract rfl rfl) <| htyU (y_extract rfl rfl) <| htyU (y_assign rfl) <| htyU (y_assign rfl) <| htend <| hsub (ρ' := [(14, _), (13, _), (12, _), (58, _), (11, _), (10, _), (9, _), (8, _), (21, _), (7, _), (6, _), (0, _), (1, _), (2, _)]) ⟨rfl, rfl, rfl, rfl, rfl, rfl, rfl, rfl, rfl, rfl, rfl, rfl, rfl, rfl, trivial⟩ <| hmemQ (X' := [_, _, _, _, _, _]) (S' := [_, _, _, _, _]) (fun _ m => m) <| hthen <| hseq <| hseq <| ?_
    generalize hq2 : d1.restart (bs.take (min mk 9)) = d2 at hE3 hS1 ⊢
    obtain ⟨d3, F3, e3, hS3, hF3⟩ := hS1.put2 (b := bb) (by omega) hF1 (by omega)
    obtain ⟨g1_, g2_⟩ := get_at hS3.at_ (b := bb) (by omega) hF3
    rcases get_two hS1.at_ (b := bb) (by omega) hF1 with hE0 | ⟨hE0, hB0⟩
    · refine hreg <| hy (fun _ => y_move rfl) <| hy (fun _ => yF (y_eql rfl rfl) ((decide_eq_false (by rw [hE0]; decide)))) <| hy (fun _ => y_move rfl) <| hskip rfl rfl rfl (by decide) <| hskip rfl rfl rfl (by decide) <| hskip rfl rfl rfl (by decide) <| hskip rfl rfl rfl (by decide) <| hskip rfl rfl rfl (by decide) <| hy (fun _ => y_pickF rfl rfl) <| hend <| hsub (ρ' := [(88, _), (14, _), (13, _), (12, _), (58, _), (11, _), (10, _), (9, _), (8, _), (21, _), (7, _), (6, _), (0, _), (1, _), (2, _)]) ⟨rfl, rfl, rfl, rfl, rfl, rfl, rfl, rfl, rfl, rfl, rfl, rfl, rfl, rfl, rfl, trivial⟩ <| hthen <| ?_
      refine hiff rfl (rfl) ?_
      refine hcskip <| hthen <| hseq <| hreg <| hy (fun _ => y_move rfl) <| hy (fun _ => y_nilp rfl) <| hy (fun _ => y_fld rfl fa63_0 (by decide)) <| hy (fun m => y_ld1 rfl ag42 (ld_blk (m.blk 5 rfl) (i := 0) rfl)) <| hy (fun _ => y_move rfl) <| ?_
      refine hx (xh_calll rfl Tryz.call21 (putSC hE3 (by decide) hc_x hlm (Nat.le_trans (Nat.min_le_right _ _) (by decide))) [0] rfl (.x 3 rfl .own (.s 4 rfl .nil)) ?_)
      rintro _ _ _ ⟨st14, rfl, rfl, rfl, hE4⟩
      refine ⟨rfl, ?_⟩
      rw [e3]
      rw [e3] at hE4
      refine hy (fun _ => y_move rfl) <| hy (fun _ => y_extract rfl rfl) <| hy (fun _ => y_extract rfl rfl) <| ?_
      refine hx (xh_alloc ti33 (fun g15 => ?_))
      refine hx0 (xh_stA 0 rfl rfl rfl sz33 h32 b8s_one rfl ?_)
      refine hy (fun _ => y_assign rfl) <| hend <| hsub (ρ' := [(16, _), (15, _), (88, _), (14, _), (13, _), (12, _), (58, _), (11, _), (10, _), (9, _), (8, _), (21, _), (7, _), (6, _), (0, _), (1, _), (2, _)]) ⟨rfl, rfl, rfl, rfl, rfl, rfl, rfl, rfl, rfl, rfl, rfl, rfl, rfl, rfl, rfl, rfl, rfl, trivial⟩ <| hmemQ (X' := [_, _, _, _, _, _, _]) (S' := [_, _, _, _, _]) (fun _ m => m) <| hthen <| hseq <| hdrwB [0, 1, 1, 1, 1, 1] [0, 1, 2, 3, 4] rfl rfl [5] [(0, some 0), (1, some 0), (2, some 0), (3, some 0), (4, some 0), (5, none), (6, some 1), (7, some 1), (8, some 1), (9, some 1), (10, some 1)] (by kernel_rfl) (by kernel_rfl) rfl 99 <| htyU (y_move rfl) <| htyU (y_nilp rfl) <| htyU (y_fld rfl fa63_0 (by decide)) <| hty (fun m => y_ld1 rfl ag42 (ld_blk (m.blk 5 rfl) (i := 0) rfl)) <| hty (fun m => y_ldN rfl ag33 sz33 h32 ((m.blk 2 rfl).cells0)) <| ?_
      refine htx (xh_call rfl Tryz.call24 (getC hE4 hm) [1] rfl [4] rfl ?_)
      rintro _ _ _ ⟨v3, rfl, rfl, rfl⟩
      refine ⟨(fun _ => wk [2, 2, 2, 2, 2, 2] [0, 1, 2, 3, 4] rfl rfl), ?_⟩
      refine htfact (fun m => (m.own 1 rfl).slice) ?_
      rintro ⟨A_x3, c_x3, rfl, hc_x3⟩
      refine htfact (fun m => (m.ord 1 rfl).2.1) fun hA_x3 => ?_
      refine htyU (y_move rfl) <| htyU (y_extract rfl rfl) <| htyU (y_extract rfl rfl) <| htyU (y_assign rfl) <| htyU (y_assign rfl) <| htend <| hsub (ρ' := [(18, _), (17, _), (16, _), (15, _), (88, _), (14, _), (13, _), (12, _), (58, _), (11, _), (10, _), (9, _), (8, _), (21, _), (7, _), (6, _), (0, _), (1, _), (2, _)]) ⟨rfl, rfl, rfl, rfl, rfl, rfl, rfl, rfl, rfl, rfl, rfl, rfl, rfl, rfl, rfl, rfl, rfl, rfl, rfl, trivial⟩ <| hmemQ (X' := [_, _, _, _, _, _, _, _]) (S' := [_, _, _, _, _]) (fun _ m => m) <| hthen <| hseq <| ?_
      rw [g1_, g2_]
      have hord := hE4.sim.files.ord
      have hnd : (namesP d3 tPre).Nodup := List.Pairwise.sublist List.filter_sublist (List.Pairwise.imp (fun hlt e => by rw [e] at hlt; exact List.lt_irrefl _ hlt) hord)
      obtain ⟨hc1, hc2⟩ := hS3.at_.clean_ok hnd
      have hnl := hE4.names tPre
      refine hreg <| hy (fun _ => y_move rfl) <| hy (fun _ => yF (y_eql rfl rfl) ((decide_eq_false (by rw [hE0]; decide)))) <| hy (fun _ => y_move rfl) <| hyg (o := _) rfl rfl rfl (fun _ => y_move rfl) <| hyg (o := _) rfl rfl rfl (fun _ => yT (y_eql rfl rfl) ((decide_eq_true hE0))) <| hy (fun _ => y_pickF rfl rfl) <| hy (fun _ => y_move rfl) <| hskip rfl rfl rfl (by decide) <| hskip rfl rfl rfl (by decide) <| hy (fun _ => y_pickT rfl rfl) <| hy (fun _ => y_move rfl) <| hyg (o := _) rfl rfl rfl (fun _ => y_move rfl) <| hyg (o := _) rfl rfl rfl (fun _ => yT (y_eql rfl rfl) ((decide_eq_true rfl))) <| hy (fun _ => y_pickT rfl rfl) <| hy (fun _ => y_move rfl) <| hyg (o := _) rfl rfl rfl (fun m => y_ldN rfl ag33 sz33 h32 ((m.blk 2 rfl).cells0)) <| hyg (o := _) rfl rfl rfl (fun m => y_ldN rfl ag33 sz33 h32 ((m.blk 4 rfl).cells0)) <| hyg (o := _) rfl rfl rfl (fun _ => yT (y_eqD33 rfl rfl hm hm) ((decide_eq_true rfl))) <| hy (fun _ => y_pickT rfl rfl) <| hy (fun _ => y_move rfl) <| hyg (o := _) rfl rfl rfl (fun _ => y_move rfl) <| hyg (o := _) rfl rfl rfl (fun _ => yT (y_eql rfl rfl) ((decide_eq_true rfl))) <| hy (fun _ => y_pickT rfl rfl) <| hy (fun _ => y_move rfl) <| hyg (o := _) rfl rfl rfl (fun _ => y_move rfl) <| hyg (o := _) rfl rfl rfl (fun m => y_b2s rfl Tryz.underlying27 Tryz.underlying5 Tryz.underlying9 (m.ord 1 rfl)) <| hyg (o := _) rfl rfl rfl (fun _ => y_move rfl) <| hyg (o := _) rfl rfl rfl (fun m => y_b2s rfl Tryz.underlying27 Tryz.underlying5 Tryz.underlying9 (m.ord 6 rfl)) <| hyg (o := _) rfl rfl rfl (fun _ => yT (y_seq rfl rfl) ((decide_eq_true rfl))) <| hy (fun _ => y_pickT rfl rfl) <| hy (fun _ => y_move rfl) <| hyg (o := _) rfl rfl rfl (fun _ => y_move rfl) <| hyg (o := _) rfl rfl rfl (fun _ => y_nilp rfl) <| hyg (o := _) rfl rfl rfl (fun _ => y_fld rfl fa63_0 (by decide)) <| hyg (o := _) rfl rfl rfl (fun m => y_ld1 rfl ag42 (ld_blk (m.blk 7 rfl) (i := 0) rfl)) <| ?_
      refine hxg (o := _) rfl rfl rfl (xh_call rfl Tryz.call25 (cleanC hE4 (by decide)) [0] rfl [] rfl ?_)
      rintro _ _ _ ⟨st15, rfl, rfl, rfl, hE5⟩
      refine hyg (o := _) rfl rfl rfl (fun _ => yT (y_eql rfl rfl) ((decide_eq_true hc1))) <| hy (fun _ => y_pickT rfl rfl) <| hy (fun _ => y_move rfl) <| hyg (o := _) rfl rfl rfl (fun _ => y_move rfl) <| hyg (o := _) rfl rfl rfl (fun _ => y_nilp rfl) <| hyg (o := _) rfl rfl rfl (fun _ => y_fld rfl fa63_0 (by decide)) <| hyg (o := _) rfl rfl rfl (fun m => y_ld1 rfl ag42 (ld_blk (m.blk 7 rfl) (i := 0) rfl)) <| ?_
      refine hxg (o := _) rfl rfl rfl (xh_call rfl Tryz.call26 (dlistC hE5 (by omega) (p := tPre)) [0] rfl [] rfl ?_)
      rintro _ _ _ ⟨v4, rfl, rfl, rfl, hp7⟩
      refine hfactL (fun m => (m.own 1 rfl).slice) ?_
      rintro ⟨A_x4, c_x4, rfl, hc_x4⟩
      refine hfactL (fun m => (m.ord 1 rfl).2.1) fun hA_x4 => ?_
      refine hyg (o := _) rfl rfl rfl (fun _ => y_lenS rfl Tryz.underlying71) <| hyg (o := _) rfl rfl rfl (fun _ => yT (y_eql rfl rfl) ((decide_eq_true (by rw [hc2]; rfl)))) <| hy (fun _ => y_pickT rfl rfl) <| hy (fun _ => y_move rfl) <| ?_
      refine hxg (o := _) rfl rfl rfl (xh_call rfl Tryz.call27 (lives13C) [] rfl [4] rfl ?_)
      rintro _ _ _ ⟨rfl, rfl, rfl⟩
      refine hy (fun _ => y_pickT rfl rfl) <| hy (fun _ => y_assign rfl) <| hend <| hsub (ρ' := [(6, _), (18, _), (17, _), (16, _), (15, _), (88, _), (14, _), (13, _), (12, _), (58, _), (11, _), (10, _), (9, _), (8, _), (21, _), (7, _), (0, _), (1, _), (2, _)]) ⟨rfl, rfl, rfl, rfl, rfl, rfl, rfl, rfl, rfl, rfl, rfl, rfl, rfl, rfl, rfl, rfl, rfl, rfl, rfl, trivial⟩ <| hmemQ (X' := [_, _, _, _, _, _, _, _, _]) (S' := [_, _, _, _, _]) (fun _ m => m) <| hthen <| hret <| ?_
      exact hret1 trivial rfl rfl [] rfl [] rfl ⟨rfl, rfl, rfl⟩
    · refine hreg <| hy (fun _ => y_move rfl) <| hy (fun _ => yT (y_eql rfl rfl) ((decide_eq_true hE0))) <| hy (fun _ => y_move rfl) <| hyg (o := _) rfl rfl rfl (fun _ => y_move rfl) <| hyg (o := _) rfl rfl rfl (fun m => y_b2s rfl Tryz.underlying27 Tryz.underlying5 Tryz.underlying9 (m.ord 1 rfl)) <| hyg (o := _) rfl rfl rfl (fun _ => y_move rfl) <| hyg (o := _) rfl rfl rfl (fun m => y_b2s rfl Tryz.underlying27 Tryz.underlying5 Tryz.underlying9 (m.ord 4 rfl)) <| hyg (o := _) rfl rfl rfl (fun _ => yF (y_sne rfl rfl) ((by rw [hB0]; simp))) <| hy (fun _ => y_pickT rfl rfl) <| hend <| hsub (ρ' := [(88, _), (14, _), (13, _), (12, _), (58, _), (11, _), (10, _), (9, _), (8, _), (21, _), (7, _), (6, _), (0, _), (1, _), (2, _)]) ⟨rfl, rfl, rfl, rfl, rfl, rfl, rfl, rfl, rfl, rfl, rfl, rfl, rfl, rfl, rfl, trivial⟩ <| hthen <| ?_
      refine hiff rfl (rfl) ?_
      refine hcskip <| hthen <| hseq <| hreg <| hy (fun _ => y_move rfl) <| hy (fun _ => y_nilp rfl) <| hy (fun _ => y_fld rfl fa63_0 (by decide)) <| hy (fun m => y_ld1 rfl ag42 (ld_blk (m.blk 5 rfl) (i := 0) rfl)) <| hy (fun _ => y_move rfl) <| ?_
      refine hx (xh_calll rfl Tryz.call21 (putSC hE3 (by decide) hc_x hlm (Nat.le_trans (Nat.min_le_right _ _) (by decide))) [0] rfl (.x 3 rfl .own (.s 4 rfl .nil)) ?_)
      rintro _ _ _ ⟨st14, rfl, rfl, rfl, hE4⟩
      refine ⟨rfl, ?_⟩
      rw [e3]
      rw [e3] at hE4
      refine hy (fun _ => y_move rfl) <| hy (fun _ => y_extract rfl rfl) <| hy (fun _ => y_extract rfl rfl) <| ?_
      refine hx (xh_alloc ti33 (fun g15 => ?_))
      refine hx0 (xh_stA 0 rfl rfl rfl sz33 h32 b8s_one rfl ?_)
      refine hy (fun _ => y_assign rfl) <| hend <| hsub (ρ' := [(16, _), (15, _), (88, _), (14, _), (13, _), (12, _), (58, _), (11, _), (10, _), (9, _), (8, _), (21, _), (7, _), (6, _), (0, _), (1, _), (2, _)]) ⟨rfl, rfl, rfl, rfl, rfl, rfl, rfl, rfl, rfl, rfl, rfl, rfl, rfl, rfl, rfl, rfl, rfl, trivial⟩ <| hmemQ (X' := [_, _, _, _, _, _, _]) (S' := [_, _, _, _, _]) (fun _ m => m) <| hthen <| hseq <| hdrwB [0, 1, 1, 1, 1, 1] [0, 1, 2, 3, 4] rfl rfl [5] [(0, some 0), (1, some 0), (2, some 0), (3, some 0), (4, some 0), (5, none), (6, some 1), (7, some 1), (8, some 1), (9, some 1), (10, some 1)] (by kernel_rfl) (by kernel_rfl) rfl 99 <| htyU (y_move rfl) <| htyU (y_nilp rfl) <| htyU (y_fld rfl fa63_0 (by decide)) <| hty (fun m => y_ld1 rfl ag42 (ld_blk (m.blk 5 rfl) (i := 0) rfl)) <| hty (fun m => y_ldN rfl ag33 sz33 h32 ((m.blk 2 rfl).cells0)) <| ?_
      refine htx (xh_call rfl Tryz.call24 (getC hE4 hm) [1] rfl [4] rfl ?_)
      rintro _ _ _ ⟨v3, rfl, rfl, rfl⟩
      refine ⟨(fun _ => wk [2, 2, 2, 2, 2, 2] [0, 1, 2, 3, 4] rfl rfl), ?_⟩
      refine htfact (fun m => (m.own 1 rfl).slice) ?_
      rintro ⟨A_x3, c_x3, rfl, hc_x3⟩
      refine htfact (fun m => (m.ord 1 rfl).2.1) fun hA_x3 => ?_
      refine htyU (y_move rfl) <| htyU (y_extract rfl rfl) <| htyU (y_extract rfl rfl) <| htyU (y_assign rfl) <| htyU (y_assign rfl) <| htend <| hsub (ρ' := [(18, _), (17, _), (16, _), (15, _), (88, _), (14, _), (13, _), (12, _), (58, _), (11, _), (10, _), (9, _), (8, _), (21, _), (7, _), (6, _), (0, _), (1, _), (2, _)]) ⟨rfl, rfl, rfl, rfl, rfl, rfl, rfl, rfl, rfl, rfl, rfl, rfl, rfl, rfl, rfl, rfl, rfl, rfl, rfl, trivial⟩ <| hmemQ (X' := [_, _, _, _, _, _, _, _]) (S' := [_, _, _, _, _]) (fun _ m => m) <| hthen <| hseq <| ?_
      rw [g1_, g2_]
      have hord := hE4.sim.files.ord
      have hnd : (namesP d3 tPre).Nodup := List.Pairwise.sublist List.filter_sublist (List.Pairwise.imp (fun hlt e => by rw [e] at hlt; exact List.lt_irrefl _ hlt) hord)
      obtain ⟨hc1, hc2⟩ := hS3.at_.clean_ok hnd
      have hnl := hE4.names tPre
      refine hreg <| hy (fun _ => y_move rfl) <| hy (fun _ => yT (y_eql rfl rfl) ((decide_eq_true hE0))) <| hy (fun _ => y_move rfl) <| hskip rfl rfl rfl (by decide) <| hskip rfl rfl rfl (by decide) <| hy (fun _ => y_pickT rfl rfl) <| hy (fun _ => y_move rfl) <| hskip rfl rfl rfl (by decide) <| hskip rfl rfl rfl (by decide) <| hy (fun _ => y_pickT rfl rfl) <| hy (fun _ => y_move rfl) <| hyg (o := _) rfl rfl rfl (fun _ => y_move rfl) <| hyg (o := _) rfl rfl rfl (fun _ => yT (y_eql rfl rfl) ((decide_eq_true rfl))) <| hy (fun _ => y_pickT rfl rfl) <| hy (fun _ => y_move rfl) <| hyg (o := _) rfl rfl rfl (fun m => y_ldN rfl ag33 sz33 h32 ((m.blk 2 rfl).cells0)) <| hyg (o := _) rfl rfl rfl (fun m => y_ldN rfl ag33 sz33 h32 ((m.blk 4 rfl).cells0)) <| hyg (o := _) rfl rfl rfl (fun _ => yT (y_eqD33 rfl rfl hm hm) ((decide_eq_true rfl))) <| hy (fun _ => y_pickT rfl rfl) <| hy (fun _ => y_move rfl) <| hyg (o := _) rfl rfl rfl (fun _ => y_move rfl) <| hyg (o := _) rfl rfl rfl (fun _ => yT (y_eql rfl rfl) ((decide_eq_true rfl))) <| hy (fun _ => y_pickT rfl rfl) <| hy (fun _ => y_move rfl) <| hyg (o := _) rfl rfl rfl (fun _ => y_move rfl) <| hyg (o := _) rfl rfl rfl (fun m => y_b2s rfl Tryz.underlying27 Tryz.underlying5 Tryz.underlying9 (m.ord 1 rfl)) <| hyg (o := _) rfl rfl rfl (fun _ => y_move rfl) <| hyg (o := _) rfl rfl rfl (fun m => y_b2s rfl Tryz.underlying27 Tryz.underlying5 Tryz.underlying9 (m.ord 6 rfl)) <| hyg (o := _) rfl rfl rfl (fun _ => yT (y_seq rfl rfl) ((decide_eq_true rfl))) <| hy (fun _ => y_pickT rfl rfl) <| hy (fun _ => y_move rfl) <| hyg (o := _) rfl rfl rfl (fun _ => y_move rfl) <| hyg (o := _) rfl rfl rfl (fun _ => y_nilp rfl) <| hyg (o := _) rfl rfl rfl (fun _ => y_fld rfl fa63_0 (by decide)) <| hyg (o := _) rfl rfl rfl (fun m => y_ld1 rfl ag42 (ld_blk (m.blk 7 rfl) (i := 0) rfl)) <| ?_
      refine hxg (o := _) rfl rfl rfl (xh_call rfl Tryz.call25 (cleanC hE4 (by decide)) [0] rfl [] rfl ?_)
      rintro _ _ _ ⟨st15, rfl, rfl, rfl, hE5⟩
      refine hyg (o := _) rfl rfl rfl (fun _ => yT (y_eql rfl rfl) ((decide_eq_true hc1))) <| hy (fun _ => y_pickT rfl rfl) <| hy (fun _ => y_move rfl) <| hyg (o := _) rfl rfl rfl (fun _ => y_move rfl) <| hyg (o := _) rfl rfl rfl (fun _ => y_nilp rfl) <| hyg (o := _) rfl rfl rfl (fun _ => y_fld rfl fa63_0 (by decide)) <| hyg (o := _) rfl rfl rfl (fun m => y_ld1 rfl ag42 (ld_blk (m.blk 7 rfl) (i := 0) rfl)) <| ?_
      refine hxg (o := _) rfl rfl rfl (xh_call rfl Tryz.call26 (dlistC hE5 (by omega) (p := tPre)) [0] rfl [] rfl ?_)
      rintro _ _ _ ⟨v4, rfl, rfl, rfl, hp7⟩
      refine hfactL (fun m => (m.own 1 rfl).slice) ?_
      rintro ⟨A_x4, c_x4, rfl, hc_x4⟩
      refine hfactL (fun m => (m.ord 1 rfl).2.1) fun hA_x4 => ?_
      refine hyg (o := _) rfl rfl rfl (fun _ => y_lenS rfl Tryz.underlying71) <| hyg (o := _) rfl rfl rfl (fun _ => yT (y_eql rfl rfl) ((decide_eq_true (by rw [hc2]; rfl)))) <| hy (fun _ => y_pickT rfl rfl) <| hy (fun _ => y_move rfl) <| ?_
      refine hxg (o := _) rfl rfl rfl (xh_call rfl Tryz.call27 (lives13C) [] rfl [4] rfl ?_)
      rintro _ _ _ ⟨rfl, rfl, rfl⟩
      refine hy (fun _ => y_pickT rfl rfl) <| hy (fun _ => y_assign rfl) <| hend <| hsub (ρ' := [(6, _), (18, _), (17, _), (16, _), (15, _), (88, _), (14, _), (13, _), (12, _), (58, _), (11, _), (10, _), (9, _), (8, _), (21, _), (7, _), (0, _), (1, _), (2, _)]) ⟨rfl, rfl, rfl, rfl, rfl, rfl, rfl, rfl, rfl, rfl, rfl, rfl, rfl, rfl, rfl, rfl, rfl, rfl, rfl, trivial⟩ <| hmemQ (X' := [_, _, _, _, _, _, _, _, _]) (S' := [_, _, _, _, _]) (fun _ m => m) <| hthen <| hret <| ?_
      exact hret1 trivial rfl rfl [] rfl [] rfl ⟨rfl, rfl, rfl⟩
theorem storeCrashes (A : Option Addr) (n c : Nat) (l : List UInt8) (z : Int) (K : Option Addr) (mk ck : Nat) (zs : List Cell) (W : World) (h1 : Rd W 1 A n (b8s l)) (hc : n ≤ c) (hn : n ≤ 140737488351232) (hz : -9223372036854775808 ≤ z ∧ z ≤ 9223372036854775807) (hk : (RCell (.s 1 K mk ck zs)).holds W) (hK : Ty Tryz.prog 28 [.s 1 K mk ck zs]) (hro : RRoots.holds W) :
    Calls Tryz.prog 4 #[.slice A n c, .int .i64 z, .slice K mk ck] W fun e w' => e = .returned (.bool true) ∧ Fr No W w' := by
  obtain ⟨_, _, _, _, ks, e8, hkc, hk2, hks, hkl⟩ := ty_bools hK
  cases e8
  have h3 := (View.rowOf (n := mk) (c := ck) (A := K) hks).ok.1 W hk
  exact con_calls (storeCrashesC hc hn hz hkc hk2) (by
    intro s hs
    simp only [List.mem_cons, List.not_mem_nil, or_false] at hs
    rcases hs with rfl | rfl | rfl
    · exact h1
    · exact h3
    · exact hro)
end Go.Proofs.YtfikjheicjamhaaGreatDoor
end
