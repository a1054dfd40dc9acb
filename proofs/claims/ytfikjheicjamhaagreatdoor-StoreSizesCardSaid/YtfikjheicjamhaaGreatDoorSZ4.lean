/- What the claim leans on, part 4. -/
import Derived.Test.YtfikjheicjamhaaGreatDoorSZ3
section
/- The law StoreSizes, computed. -/
set_option linter.unusedVariables false
set_option linter.unusedSimpArgs false
set_option maxRecDepth 20000
set_option maxHeartbeats 4000000
namespace Go.Proofs.YtfikjheicjamhaaGreatDoor
open Go.Eng Go.Hx
theorem rep_b8t (k : Nat) : List.replicate k (Value.int .u8 0) = b8s (List.replicate k 0) := by simp [b8s, B8]
theorem storeSizesC {z : Int} (hz : -9223372036854775808 ≤ z ∧ z ≤ 9223372036854775807) : Con Tryz.prog 6 [.int .i64 z] [] [RRoots] (fun v_ X_ S_ => v_ = (.bool true) ∧ X_ = [] ∧ S_ = []) := by
  obtain ⟨K, hK, hK3⟩ : ∃ K : Nat, around z 12 = (K : Int) ∧ K < 12 := by
    have := around_lt z 12 (by decide)
    exact ⟨(around z 12).toNat, by omega, by omega⟩
  obtain ⟨k, hk⟩ : ∃ k, k = 4090 + K := ⟨_, rfl⟩
  have hks : (4090 : Int) + (K : Int) = (k : Int) := by omega
  have hrep : (List.replicate k (0 : UInt8)).length = k := List.length_replicate
  have hrv := rep_b8t k
  generalize hbb : List.replicate k (0 : UInt8) = bb at hrep hrv
  obtain ⟨h10, hsl⟩ := sealL_le bb
  have hpl : ((RD.new 10000).put bb).2.1.length = 32 := by
    by_cases h : 4096 < bb.length
    · rw [put_big h]; exact zerosL_length
    · obtain ⟨d', e1, hd⟩ := (SD.new 10000).put (b := bb) (by omega) rfl (by omega)
      rw [e1]; exact shaL_length _
  have hp32 : (b8s ((RD.new 10000).put bb).2.1).length = 32 := by rw [b8s_length, hpl]
  refine henter (N := 70) Tryz.func6 rfl rfl (by simp) fun b => ?_
  refine hseq <| hreg <| hy (fun _ => y_assign rfl) <| hend <| hthen <| hseq <| hreg <| ?_
  refine hx (xh_call rfl Tryz.call18 (begin13C (by decide) (by decide)) [] rfl [] rfl ?_)
  rintro _ _ _ ⟨gw, gd, gs, gl, y, rfl, rfl, rfl, hp⟩
  refine hy (fun _ => y_assign rfl) <| hend <| hsub (ρ' := [(3, _), (2, _), (0, _)]) ⟨rfl, rfl, rfl, trivial⟩ <| hmemQ (X' := [_, _]) (S' := [_, _]) (fun _ m => m) <| hthen <| hseq <| hseq <| hreg <| hy (fun _ => y_move rfl) <| hy (fun _ => y_eqPn rfl rfl (by kernel_rfl)) <| hend <| hsub (ρ' := [(11, _), (3, _), (2, _), (0, _)]) ⟨rfl, rfl, rfl, rfl, trivial⟩ <| hthen <| ?_
  refine hiff rfl (rfl) ?_
  have hD0 : DS (dinit 10000 gs gl) (RD.new 10000) 0 := DS.init (by decide)
  refine hcskip <| hthen <| hseq <| hreg <| hy (fun _ => y_move rfl) <| ?_
  refine hx (xh_call rfl Tryz.call9 (aroundC (by omega) (by omega) (by omega)) [] rfl [] rfl ?_)
  rintro _ _ _ ⟨rfl, rfl, rfl⟩
  rw [hK]
  refine hy (fun _ => yV (y_add rfl rfl (w64 (by omega) (by omega))) ((show Value.int .i64 ((4090 : Int) + (K : Int)) = .int .i64 (k : Int) by rw [hks]))) <| hy (fun _ => y_assign rfl) <| hend <| hsub (ρ' := [(4, _), (11, _), (3, _), (2, _), (0, _)]) ⟨rfl, rfl, rfl, rfl, rfl, trivial⟩ <| hmemQ (X' := [_, _]) (S' := [_, _]) (fun _ m => m) <| hthen <| hseq <| ?_
  refine hcutk2 (fun (st1:DSt) (g5:Nat) => [(5, .pointer (some ⟨g5, 0, none⟩)), (6, .int .i64 ((RD.new 10000).put bb).2.2)]) (fun (st1:DSt) (g5:Nat) => [RDisk gd st1, RBlk g5 33 (b8s ((RD.new 10000).put bb).2.1)]) (fun (st1:DSt) (g5:Nat) => []) (fun (st1:DSt) (g5:Nat) => DS st1 ((RD.new 10000).put bb).1 4) [(4, _), (11, _), (3, _), (2, _), (0, _)] ⟨rfl, rfl, rfl, rfl, rfl, trivial⟩ [1] rfl ?_ (fun st1 g5 hD1 => ?_)
  · refine hdrwPB [0] [0, 1] rfl rfl [5, 6, 10, 11] (.take 0 3 <| .take 1 3 <| .take 2 3 <| .take 3 3 <| .take 4 3 <| .alt 5 (.alt 6 (.take 7 3 <| .take 8 3 <| .take 9 4 <| .alt 10 (.alt 11 (.take 12 4 <| .done) (.stop)) (.stop)) (.alt 10 (.alt 6 (.take 7 3 <| .take 8 3 <| .take 9 4 <| .alt 11 (.take 12 4 <| .done) (.stop)) (.stop)) (.stop))) (.alt 10 (.alt 5 (.alt 6 (.take 7 3 <| .take 8 3 <| .take 9 4 <| .alt 11 (.take 12 4 <| .done) (.stop)) (.stop)) (.stop)) (.stop))) (by kernel_rfl) (by kernel_rfl) rfl 3 <| hpyU (y_move rfl) <| hpyU (y_nilp rfl) <| hpyU (y_fld rfl fa63_0 (by decide)) <| hpy (fun m => y_ld1 rfl ag42 (ld_blk (m.blk 0 rfl) (i := 0) rfl)) <| hpyU (y_move rfl) <| ?_
    refine hpfork ?_ ?_
    · refine hpx (xh_mksl (n := k) Tryz.underlying27 ti5 rfl rfl rfl (by omega) (by omega) (fun g21 => ⟨(fun _ => wk [1] [0, 1] rfl rfl), ?_⟩))
      have hA_b21 : ∀ {n : Nat}, 0 < n → (some (⟨g21, 0, none⟩ : Addr)) ≠ none := fun _ h => by cases h
      refine hpfork ?_ ?_
      · refine hpmem (fun w m => m.eqX 0 rfl (show _ = RBlk g21 5 (b8s bb) from congrArg (RBlk _ _) hrv)) ?_
        refine hpx (xh_calll rfl Tryz.call21 (putSC hD0 (by decide) (Nat.le_refl k) hrep (by omega)) [2] rfl (.x 0 rfl (.blk (by rw [b8s_length]; omega)) (.s 1 rfl .nil)) ?_)
        rintro _ _ _ ⟨st1, rfl, rfl, rfl, hD1⟩
        refine ⟨rfl, ?_⟩
        refine ⟨(fun _ => wk [2] [0, 1] rfl rfl), ?_⟩
        refine hpyU (y_move rfl) <| hpyU (y_extract rfl rfl) <| hpyU (y_extract rfl rfl) <| ?_
        refine hpx (xh_alloc ti33 (fun g5 => ⟨(fun _ => wk [3] [0, 1] rfl rfl), ?_⟩))
        refine hpx0 (xh_stA 0 rfl rfl rfl sz33 hp32 b8s_one rfl ⟨(fun h => absurd h (by decide)), ?_⟩)
        refine hpyU (y_assign rfl) <| hpend <| hsub (ρ' := [(6, _), (5, _), (4, _), (11, _), (3, _), (2, _), (0, _)]) ⟨rfl, rfl, rfl, rfl, rfl, rfl, rfl, trivial⟩ <| hmemQ (X' := [_, _, _, _]) (S' := [_, _]) (fun _ m => m) <| ?_
        exact hqcutk2 (R := fun (st1:DSt) (g5:Nat) => [(5, .pointer (some ⟨g5, 0, none⟩)), (6, .int .i64 ((RD.new 10000).put bb).2.2)]) (X1 := fun (st1:DSt) (g5:Nat) => [RDisk gd st1, RBlk g5 33 (b8s ((RD.new 10000).put bb).2.1)]) (S1 := fun (st1:DSt) (g5:Nat) => []) (I := fun (st1:DSt) (g5:Nat) => DS st1 ((RD.new 10000).put bb).1 4) st1 g5 ⟨rfl, rfl, rfl, rfl, rfl, rfl, rfl, trivial⟩ [1, 0, 1] rfl [0, 1] rfl hD1
      · refine hpx (xh_alloc ti33 (fun g5 => ⟨(fun _ => wk [2] [0, 1] rfl rfl), ?_⟩))
        refine hpmem (fun w m => m.eqX 1 rfl (show _ = RBlk g21 5 (b8s bb) from congrArg (RBlk _ _) hrv)) ?_
        refine hpx (xh_calll rfl Tryz.call21 (putSC hD0 (by decide) (Nat.le_refl k) hrep (by omega)) [3] rfl (.x 0 rfl (.blk (by rw [b8s_length]; omega)) (.s 1 rfl .nil)) ?_)
        rintro _ _ _ ⟨st1, rfl, rfl, rfl, hD1⟩
        refine ⟨rfl, ?_⟩
        refine ⟨(fun _ => wk [3] [0, 1] rfl rfl), ?_⟩
        refine hpyU (y_move rfl) <| hpyU (y_extract rfl rfl) <| hpyU (y_extract rfl rfl) <| ?_
        refine hpx0 (xh_stA 2 rfl rfl rfl sz33 hp32 b8s_one rfl ⟨(fun h => absurd h (by decide)), ?_⟩)
        refine hpyU (y_assign rfl) <| hpend <| hsub (ρ' := [(6, _), (5, _), (4, _), (11, _), (3, _), (2, _), (0, _)]) ⟨rfl, rfl, rfl, rfl, rfl, rfl, rfl, trivial⟩ <| hmemQ (X' := [_, _, _, _]) (S' := [_, _]) (fun _ m => m) <| ?_
        exact hqcutk2 (R := fun (st1:DSt) (g5:Nat) => [(5, .pointer (some ⟨g5, 0, none⟩)), (6, .int .i64 ((RD.new 10000).put bb).2.2)]) (X1 := fun (st1:DSt) (g5:Nat) => [RDisk gd st1, RBlk g5 33 (b8s ((RD.new 10000).put bb).2.1)]) (S1 := fun (st1:DSt) (g5:Nat) => []) (I := fun (st1:DSt) (g5:Nat) => DS st1 ((RD.new 10000).put bb).1 4) st1 g5 ⟨rfl, rfl, rfl, rfl, rfl, rfl, rfl, trivial⟩ [1, 0, 1] rfl [0, 1] rfl hD1
    · refine hpx (xh_alloc ti33 (fun g5 => ⟨(fun _ => wk [1] [0, 1] rfl rfl), ?_⟩))
      refine hpx (xh_mksl (n := k) Tryz.underlying27 ti5 rfl rfl rfl (by omega) (by omega) (fun g21 => ⟨(fun _ => wk [2] [0, 1] rfl rfl), ?_⟩))
      have hA_b21 : ∀ {n : Nat}, 0 < n → (some (⟨g21, 0, none⟩ : Addr)) ≠ none := fun _ h => by cases h
      refine hpmem (fun w m => m.eqX 0 rfl (show _ = RBlk g21 5 (b8s bb) from congrArg (RBlk _ _) hrv)) ?_
      refine hpx (xh_calll rfl Tryz.call21 (putSC hD0 (by decide) (Nat.le_refl k) hrep (by omega)) [3] rfl (.x 0 rfl (.blk (by rw [b8s_length]; omega)) (.s 1 rfl .nil)) ?_)
      rintro _ _ _ ⟨st1, rfl, rfl, rfl, hD1⟩
      refine ⟨rfl, ?_⟩
      refine ⟨(fun _ => wk [3] [0, 1] rfl rfl), ?_⟩
      refine hpyU (y_move rfl) <| hpyU (y_extract rfl rfl) <| hpyU (y_extract rfl rfl) <| ?_
      refine hpx0 (xh_stA 2 rfl rfl rfl sz33 hp32 b8s_one rfl ⟨(fun h => absurd h (by decide)), ?_⟩)
      refine hpyU (y_assign rfl) <| hpend <| hsub (ρ' := [(6, _), (5, _), (4, _), (11, _), (3, _), (2, _), (0, _)]) ⟨rfl, rfl, rfl, rfl, rfl, rfl, rfl, trivial⟩ <| hmemQ (X' := [_, _, _, _]) (S' := [_, _]) (fun _ m => m) <| ?_
      exact hqcutk2 (R := fun (st1:DSt) (g5:Nat) => [(5, .pointer (some ⟨g5, 0, none⟩)), (6, .int .i64 ((RD.new 10000).put bb).2.2)]) (X1 := fun (st1:DSt) (g5:Nat) => [RDisk gd st1, RBlk g5 33 (b8s ((RD.new 10000).put bb).2.1)]) (S1 := fun (st1:DSt) (g5:Nat) => []) (I := fun (st1:DSt) (g5:Nat) => DS st1 ((RD.new 10000).put bb).1 4) st1 g5 ⟨rfl, rfl, rfl, rfl, rfl, rfl, rfl, trivial⟩ [1, 0, 1] rfl [0, 1] rfl hD1
  · by_cases h4 : 4096 < k
    · have hP : (RD.new 10000).put bb = (RD.new 10000, zerosL, 3) := put_big (by omega)
      rw [hP] at hD1 ⊢
      dsimp only at hD1 ⊢
      have hsn : st1.seen = [] := List.eq_nil_of_length_eq_zero hD1.sim.files.len1
      refine hthen <| hseq <| hseq <| hreg <| hy (fun _ => y_move rfl) <| hy (fun _ => y_gtr rfl rfl) <| hend <| hsub (ρ' := [(26, _), (5, _), (6, _), (4, _), (11, _), (3, _), (2, _), (0, _)]) ⟨rfl, rfl, rfl, rfl, rfl, rfl, rfl, rfl, trivial⟩ <| hthen <| ?_
      refine hift rfl ((decide_eq_true (by omega))) ?_
      refine hseq <| hreg <| hy (fun _ => y_move rfl) <| hy (fun _ => yT (y_eql rfl rfl) ((decide_eq_true rfl))) <| hy (fun _ => y_move rfl) <| hyg (o := _) rfl rfl rfl (fun m => y_ldN rfl ag33 sz33 z32s ((m.blk 1 rfl).cells0)) <| hyg (o := _) rfl rfl rfl (fun _ => yV (y_build0 ti33 rfl (by kernel_rfl)) ((rfl : _ = Value.agg (b8s zerosL).toArray))) <| hyg (o := _) rfl rfl rfl (fun _ => yT (y_eqD33 rfl rfl zerosL_length zerosL_length) ((decide_eq_true rfl))) <| hy (fun _ => y_pickT rfl rfl) <| hy (fun _ => y_move rfl) <| hyg (o := _) rfl rfl rfl (fun _ => y_move rfl) <| hyg (o := _) rfl rfl rfl (fun _ => y_nilp rfl) <| hyg (o := _) rfl rfl rfl (fun _ => y_fld rfl fa63_0 (by decide)) <| hyg (o := _) rfl rfl rfl (fun m => y_ld1 rfl ag42 (ld_blk (m.blk 2 rfl) (i := 0) rfl)) <| ?_
      refine hxg (o := _) rfl rfl rfl (xh_call rfl Tryz.call26 (listNoC hsn (p := ([] : List UInt8))) [0] rfl [] rfl ?_)
      rintro _ _ _ ⟨rfl, rfl, rfl⟩
      refine hyg (o := _) rfl rfl rfl (fun _ => y_lenS rfl Tryz.underlying71) <| hyg (o := _) rfl rfl rfl (fun _ => yT (y_eql rfl rfl) ((decide_eq_true rfl))) <| hy (fun _ => y_pickT rfl rfl) <| hy (fun _ => y_move rfl) <| ?_
      refine hxg (o := _) rfl rfl rfl (xh_call rfl Tryz.call27 (lives13C) [] rfl [1] rfl ?_)
      rintro _ _ _ ⟨rfl, rfl, rfl⟩
      refine hy (fun _ => y_pickT rfl rfl) <| hy (fun _ => y_assign rfl) <| hend <| hsub (ρ' := [(2, _), (26, _), (5, _), (6, _), (4, _), (11, _), (3, _), (0, _)]) ⟨rfl, rfl, rfl, rfl, rfl, rfl, rfl, rfl, trivial⟩ <| hmemQ (X' := [_, _, _]) (S' := [_, _]) (fun _ m => m) <| hthen <| hret <| hthen_ret <| ?_
      exact hret1 trivial rfl rfl [] rfl [] rfl ⟨rfl, rfl, rfl⟩
    · obtain ⟨d', e1, hd⟩ := (SD.new 10000).put (b := bb) (by omega) rfl (by omega)
      obtain ⟨g1_, g2_⟩ := get_at hd.at_ (b := bb) (by omega) (putF_place _ _)
      rw [e1] at hD1 ⊢
      dsimp only at hD1 ⊢
      have hm := shaL_length bb
      have h32 : (b8s (shaL bb)).length = 32 := by rw [b8s_length, hm]
      refine hthen <| hseq <| hseq <| hreg <| hy (fun _ => y_move rfl) <| hy (fun _ => y_gtr rfl rfl) <| hend <| hsub (ρ' := [(26, _), (5, _), (6, _), (4, _), (11, _), (3, _), (2, _), (0, _)]) ⟨rfl, rfl, rfl, rfl, rfl, rfl, rfl, rfl, trivial⟩ <| hthen <| ?_
      refine hiff rfl ((decide_eq_false (by omega))) ?_
      refine hcskip <| hthen <| hseq <| hdrw [5] [(0, some 0), (1, some 0), (2, some 0), (3, some 0), (4, some 0), (5, none), (6, some 1), (7, some 1), (8, some 1), (9, some 1), (10, some 1)] (by kernel_rfl) (by kernel_rfl) rfl 99 <| htyU (y_move rfl) <| htyU (y_nilp rfl) <| htyU (y_fld rfl fa63_0 (by decide)) <| hty (fun m => y_ld1 rfl ag42 (ld_blk (m.blk 2 rfl) (i := 0) rfl)) <| hty (fun m => y_ldN rfl ag33 sz33 h32 ((m.blk 1 rfl).cells0)) <| ?_
      refine htx (xh_call rfl Tryz.call24 (getC hD1 hm) [0] rfl [1] rfl ?_)
      rintro _ _ _ ⟨v, rfl, rfl, rfl⟩
      refine ⟨(fun _ => wk [0, 1, 1] [0, 1] rfl rfl), ?_⟩
      refine htfact (fun m => (m.own 1 rfl).slice) ?_
      rintro ⟨A_x, c_x, rfl, hc_x⟩
      refine htfact (fun m => (m.ord 1 rfl).2.1) fun hA_x => ?_
      rw [g1_, g2_]
      refine htyU (y_move rfl) <| htyU (y_extract rfl rfl) <| htyU (y_extract rfl rfl) <| htyU (y_assign rfl) <| htyU (y_assign rfl) <| htend <| hsub (ρ' := [(8, _), (7, _), (26, _), (5, _), (6, _), (4, _), (11, _), (3, _), (2, _), (0, _)]) ⟨rfl, rfl, rfl, rfl, rfl, rfl, rfl, rfl, rfl, rfl, trivial⟩ <| hmemQ (X' := [_, _, _, _]) (S' := [_, _]) (fun _ m => m) <| hthen <| hseq <| hreg <| hy (fun _ => y_move rfl) <| hy (fun _ => yT (y_eql rfl rfl) ((decide_eq_true rfl))) <| hy (fun _ => y_move rfl) <| hyg (o := _) rfl rfl rfl (fun _ => y_move rfl) <| hyg (o := _) rfl rfl rfl (fun _ => yT (y_eql rfl rfl) ((decide_eq_true rfl))) <| hy (fun _ => y_pickT rfl rfl) <| hy (fun _ => y_move rfl) <| hyg (o := _) rfl rfl rfl (fun _ => y_move rfl) <| hyg (o := _) rfl rfl rfl (fun _ => y_lenS rfl Tryz.underlying27) <| hyg (o := _) rfl rfl rfl (fun _ => y_move rfl) <| hyg (o := _) rfl rfl rfl (fun _ => yT (y_eql rfl rfl) ((decide_eq_true (by rw [hrep])))) <| hy (fun _ => y_pickT rfl rfl) <| hy (fun _ => y_move rfl) <| ?_
      refine hxg (o := _) rfl rfl rfl (xh_call rfl Tryz.call27 (lives13C) [] rfl [1] rfl ?_)
      rintro _ _ _ ⟨rfl, rfl, rfl⟩
      refine hy (fun _ => y_pickT rfl rfl) <| hy (fun _ => y_assign rfl) <| hend <| hsub (ρ' := [(2, _), (8, _), (7, _), (26, _), (5, _), (6, _), (4, _), (11, _), (3, _), (0, _)]) ⟨rfl, rfl, rfl, rfl, rfl, rfl, rfl, rfl, rfl, rfl, trivial⟩ <| hmemQ (X' := [_, _, _, _]) (S' := [_, _]) (fun _ m => m) <| hthen <| hret <| ?_
      exact hret1 trivial rfl rfl [] rfl [] rfl ⟨rfl, rfl, rfl⟩
theorem storeSizes (z : Int) (W : World) (hz : -9223372036854775808 ≤ z ∧ z ≤ 9223372036854775807) (hro : RRoots.holds W) :
    Calls Tryz.prog 6 #[.int .i64 z] W fun e w' => e = .returned (.bool true) ∧ Fr No W w' :=
  con_calls (storeSizesC hz) (by
    intro s hs
    simp only [List.mem_cons, List.not_mem_nil, or_false] at hs
    rcases hs with rfl
    exact hro)
end Go.Proofs.YtfikjheicjamhaaGreatDoor
end
