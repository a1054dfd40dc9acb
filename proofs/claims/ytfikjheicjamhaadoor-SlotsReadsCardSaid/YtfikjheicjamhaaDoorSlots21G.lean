/- The law SlotsReads. -/
import Derived.Test.YtfikjheicjamhaaDoorG12
import Derived.Test.YtfikjheicjamhaaDoorSlots20G
set_option linter.unusedVariables false
set_option linter.unusedSimpArgs false
set_option maxRecDepth 20000
set_option maxHeartbeats 4000000
namespace Go.Proofs.YtfikjheicjamhaaDoor
open Go.Eng Go.Hx
def _root_.Go.Hx.Sup.lits (s : Sup) : List Lit := Lit.int .i64 s.active :: Lit.int .i64 s.gen :: (s.s0.lits ++ s.s1.lits)
theorem Sup_lits_inj {s q : Sup} (h : s.wf) (h' : q.wf) : s.lits = q.lits ↔ s = q := by
  constructor
  · intro e
    obtain ⟨a, g, x, y⟩ := s
    obtain ⟨a', g', x', y'⟩ := q
    simp only [Sup.lits, List.cons.injEq, Lit.int.injEq, true_and] at e
    obtain ⟨e1, e2, e3⟩ := e
    obtain ⟨e4, e5⟩ := (two_inj h.w0 h.w1 h'.w0 h'.w1).1 e3
    simp only at e4 e5
    rw [e1, e2, e4, e5]
  · rintro rfl; rfl
theorem sup_c0 {s : Sup} : (s.cs.drop 0).take 1 = [.int .i64 s.active] := rfl
theorem sup_c1 {s : Sup} : (s.cs.drop 1).take 1 = [.int .i64 s.gen] := rfl
theorem sup_c2 {s : Sup} (h : s.wf) : (s.cs.drop 2).take 34 = s.s0.cs := by
  have := two_at h.w0 h.w1 (j := 0) (by decide)
  rw [Nat.zero_mul, List.drop_zero, if_pos rfl] at this
  rw [Sup.cs, List.drop_succ_cons, List.drop_succ_cons, List.drop_zero]
  exact this
theorem sup_c3 {s : Sup} (h : s.wf) : (s.cs.drop 36).take 34 = s.s1.cs := by
  have := two_at h.w0 h.w1 (j := 1) (by decide)
  rw [Nat.one_mul, if_neg (by decide)] at this
  rw [Sup.cs, List.drop_succ_cons, List.drop_succ_cons]
  exact this
theorem kl_sup {s : Sup} (h : s.wf) : Tryd.prog.keyLits 4 27 s.cs = some s.lits := by
  have e : s.lits = [[Lit.int .i64 s.active], [Lit.int .i64 s.gen], s.s0.lits, s.s1.lits].flatten := by simp [Sup.lits]
  rw [e]
  refine kl_struct (d := 3) Tryd.underlying27 (by rw [Sup.cs_len h]; kernel_rfl) (by kernel_rfl) (mapM_some ?_)
  have c0 : Tryd.prog.cellsOf 3 = 1 := by kernel_rfl
  have c1 : Tryd.prog.cellsOf 25 = 34 := by kernel_rfl
  simp only [List.map_cons, List.map_nil, c0, c1]
  rw [sup_c0, sup_c1, sup_c2 h, sup_c3 h, kl_i64 (d := 2) Tryd.underlying3 h.a0 h.a1, kl_i64 (d := 2) Tryd.underlying3 h.g0 h.g1, kl_slot h.w0 (by kernel_rfl) c1, kl_slot h.w1 (by kernel_rfl) c1]
theorem y_neS {N : Nat} {D : List Deferred} {ρ : Env} {w : World} {ty t' : TypeId} {x y : Operand} {a c : Sup} (hx : ev ρ x = some (.agg a.cs.toArray)) (hy : ev ρ y = some (.agg c.cs.toArray)) (ha : a.wf) (hc : c.wf) :
    Yl Tryd.prog N D ρ w (.binOp .neq 27 x y t') ty (.bool (decide (¬ a = c))) :=
  y_neK (m := 6) hx hy (by decide) (by kernel_rfl) (by kernel_rfl) ag27 (by rw [Sup.cs_len ha]; kernel_rfl) (by rw [Sup.cs_len hc]; kernel_rfl) (kl_sup ha) (kl_sup hc) (Sup_lits_inj ha hc)
theorem slotsReadsC {A : Option Addr} {n c : Nat} {l : List UInt8} {s : Sup} {z : Int} {y : UInt8} (hc : n ≤ c) (hn : n ≤ 140737488351232) (h : s.wf) (hz : -9223372036854775808 ≤ z ∧ z ≤ 9223372036854775807) : Con Tryd.prog 4 [.slice A n c, .agg s.cs.toArray, .int .i64 z, B8 y] [] [RRd 1 A n (b8s l), RRoots] (fun v_ X_ S_ => v_ = (.bool true) ∧ X_ = [] ∧ S_ = []) := by
  have hG := good_wf h
  have hM := good_may s
  have hbl := Sup.bytes_len hG
  refine henter (N := 90) Tryd.func4 rfl rfl (by simp) fun b => ?_
  refine hfactC (fun m => rdB (m.rd 0 rfl)) ?_
  rintro ⟨hl_r, hA_r⟩
  refine hseq <| hreg <| ?_
  refine hx (xh_box rfl (fun g5 => ?_))
  refine hmemL (fun w m => m.eqX 0 rfl (show _ = RBlk g5 27 s.cs from congrArg (RBlk _ _) (cells_agg _))) ?_
  refine hy (fun _ => y_assign rfl) <| hend <| hmemQ (X' := [_]) (S' := [_, _]) (fun _ m => m) <| hthen <| hseq <| hreg <| hy (fun m => yV (y_ldN rfl ag27 sz27 (Sup.cs_len h) ((m.blk 0 rfl).cells0)) ((rfl : _ = Value.agg s.cs.toArray))) <| ?_
  refine hx (xh_call rfl Tryd.call13 (goodSC h) [] rfl [] rfl ?_)
  rintro _ _ _ ⟨rfl, rfl, rfl⟩
  refine hx (xh_call rfl Tryd.call19 (rbytesSC hG hM) [] rfl [] rfl ?_)
  rintro _ _ _ ⟨v, rfl, rfl, rfl⟩
  refine hfactL (fun m => (m.own 0 rfl).slice) ?_
  rintro ⟨A_x, c_x, rfl, hc_x⟩
  refine hfactL (fun m => (m.ord 0 rfl).2.1) fun hA_x => ?_
  refine hy (fun _ => y_assign rfl) <| hend <| hsub (ρ' := [(9, _), (8, _), (5, _), (0, _), (1, _), (2, _), (3, _)]) ⟨rfl, rfl, rfl, rfl, rfl, rfl, rfl, trivial⟩ <| hmemQ (X' := [_, _]) (S' := [_, _]) (fun _ m => m) <| hthen <| hseq <| hreg <| hy (fun _ => y_move rfl) <| hy (fun _ => y_move rfl) <| hy (fun _ => y_lenS rfl Tryd.underlying32) <| ?_
  refine hx (xh_call rfl Tryd.call14 (aroundC (by omega) (by omega) (by omega)) [] rfl [] rfl ?_)
  rintro _ _ _ ⟨rfl, rfl, rfl⟩
  refine hy (fun _ => y_assign rfl) <| hend <| hsub (ρ' := [(10, _), (9, _), (8, _), (5, _), (0, _), (1, _), (2, _), (3, _)]) ⟨rfl, rfl, rfl, rfl, rfl, rfl, rfl, rfl, trivial⟩ <| hmemQ (X' := [_, _]) (S' := [_, _]) (fun _ m => m) <| hthen <| hseq <| hreg <| hy (fun _ => y_move rfl) <| ?_
  refine hx (xh_calll rfl Tryd.call21 (fewC (by omega) (by omega) (m := 200)) [] rfl (.x 0 rfl .own .nil) ?_)
  rintro _ _ _ ⟨v2, rfl, rfl, rfl⟩
  refine ⟨rfl, ?_⟩
  refine hfactL (fun m => (m.own 0 rfl).slice) ?_
  rintro ⟨A_x2, c_x2, rfl, hc_x2⟩
  refine hfactL (fun m => (m.ord 0 rfl).2.1) fun hA_x2 => ?_
  refine hy (fun _ => y_assign rfl) <| hend <| hsub (ρ' := [(11, _), (10, _), (9, _), (8, _), (5, _), (0, _), (1, _), (2, _), (3, _)]) ⟨rfl, rfl, rfl, rfl, rfl, rfl, rfl, rfl, rfl, trivial⟩ <| hmemQ (X' := [_, _, _]) (S' := [_, _]) (fun _ m => m) <| hthen <| hseq <| hreg <| ?_
  have hmin : min 87 200 = 87 := by decide
  have htk : s.good.bytes.take 200 = s.good.bytes := List.take_of_length_le (by omega)
  obtain ⟨k, hk, hkl⟩ : ∃ k : Nat, around z ((87 : Nat) : Int) = (k : Int) ∧ k < 87 := by
    have := around_lt z ((87 : Nat) : Int) (by decide)
    exact ⟨(around z ((87 : Nat) : Int)).toNat, by omega, by omega⟩
  rw [hmin, htk, hk]
  rw [hmin] at hA_x2 hc_x2
  generalize s.good.bytes = ow at hbl htk
  refine hy (fun _ => y_move rfl) <| hy (fun _ => y_move rfl) <| hy (fun _ => y_move rfl) <| hy (fun _ => y_idxS1 rfl rfl Tryd.underlying32 sz5 hA_x2 rfl (by omega)) <| ?_
  refine hx0 (xh_stO 0 rfl rfl rfl sz5 rfl (by omega) ?_)
  refine hend <| hsub (ρ' := [(11, _), (10, _), (9, _), (8, _), (5, _), (0, _), (1, _), (2, _), (3, _)]) ⟨rfl, rfl, rfl, rfl, rfl, rfl, rfl, rfl, rfl, trivial⟩ <| hmemQ (X' := [_, _, _]) (S' := [_, _]) (fun _ m => m) <| hthen <| hseq <| hreg <| hy (fun _ => y_move rfl) <| ?_
  obtain ⟨odd, hodd⟩ : ∃ odd, odd = ow.set k y := ⟨_, rfl⟩
  have hoddl : odd.length = 87 := by rw [hodd, List.length_set, hbl]
  refine hmemL (fun w m => m.eqX 0 rfl (show _ = ROwn 5 1 (.slice A_x2 87 c_x2) 87 (b8s odd) from by rw [hodd, b8s_set])) ?_
  refine hx (xh_call rfl Tryd.call21 (fewC (by omega) (by omega) (m := 100)) [] rfl [0] rfl ?_)
  rintro _ _ _ ⟨v3, rfl, rfl, rfl⟩
  refine hfactL (fun m => (m.own 0 rfl).slice) ?_
  rintro ⟨A_x3, c_x3, rfl, hc_x3⟩
  refine hfactL (fun m => (m.ord 0 rfl).2.1) fun hA_x3 => ?_
  refine hy (fun _ => y_assign rfl) <| hend <| hsub (ρ' := [(12, _), (11, _), (10, _), (9, _), (8, _), (5, _), (0, _), (1, _), (2, _), (3, _)]) ⟨rfl, rfl, rfl, rfl, rfl, rfl, rfl, rfl, rfl, rfl, trivial⟩ <| hmemQ (X' := [_, _, _, _]) (S' := [_, _]) (fun _ m => m) <| hthen <| hseq <| hreg <| hy (fun _ => y_move rfl) <| ?_
  refine hx (xh_calll rfl Tryd.call21 (fewC (by omega) (by omega) (m := 200)) [] rfl (.x 2 rfl .own .nil) ?_)
  rintro _ _ _ ⟨v4, rfl, rfl, rfl⟩
  refine ⟨rfl, ?_⟩
  refine hfactL (fun m => (m.own 0 rfl).slice) ?_
  rintro ⟨A_x4, c_x4, rfl, hc_x4⟩
  refine hfactL (fun m => (m.ord 0 rfl).2.1) fun hA_x4 => ?_
  refine hy (fun _ => y_move rfl) <| ?_
  refine hx (xh_bsl Tryd.underlying32 ti5 rfl rfl rfl (by simp [Value.cells, B8]) (by decide) (by decide) (fun g38 => ?_))
  have hA_b38 : 0 < 1 → (some (⟨g38, 0, none⟩ : Addr)) ≠ none := fun _ h => by cases h
  rw [hmin, htk]
  rw [hmin] at hA_x4 hc_x4
  refine hmemL (fun w m => m.eqX 0 rfl (show _ = ROwn 5 1 (.slice (some ⟨g38, 0, none⟩) 1 1) 1 (b8s [y]) from rfl)) ?_
  refine hx (xh_app 1 rfl rfl rfl Tryd.underlying32 Tryd.underlying32 (by exact .inl rfl) ti5 rfl (fun m => Src.of_rd (m.ord 0 rfl)) b8s_one (by unfold maxLen; omega) (by omega) (fun u => ?_))
  refine hfactL (fun m => (m.own 0 rfl).slice) ?_
  rintro ⟨A_x42, c_x42, rfl, hc_x4⟩
  refine hfactL (fun m => (m.ord 0 rfl).2.1) fun hA_x4 => ?_
  have hmore : b8s ow ++ b8s [y] = b8s (ow ++ [y]) := (b8s_append _ _).symm
  refine hmemL (fun w m => m.eqX 0 rfl (show _ = ROwn 5 1 (.slice A_x42 (87 + 1) c_x42) (87 + 1) (b8s (ow ++ [y])) from congrArg (ROwn _ _ _ _) hmore)) ?_
  refine hmemL (fun w m => (m.perm (takeR_perm [4] _ [_] _ rfl)).freeze) ?_
  refine hmemL (fun w m => m.asV 0 rfl .own) ?_
  refine hfactL (fun m => rdB (m.rd 0 rfl)) ?_
  rintro ⟨hl_xr, hA_xr⟩
  refine hmemL (fun w m => (m.perm (takeR_perm [3] _ [_] _ rfl)).freeze) ?_
  refine hmemL (fun w m => m.asV 0 rfl .own) ?_
  refine hfactL (fun m => rdB (m.rd 0 rfl)) ?_
  rintro ⟨hl_x2r, hA_x2r⟩
  refine hmemL (fun w m => (m.perm (takeR_perm [2] _ [_] _ rfl)).freeze) ?_
  refine hmemL (fun w m => m.asV 0 rfl .own) ?_
  refine hmemL (fun w m => (m.perm (takeR_perm [0] _ [_] _ rfl)).freeze) ?_
  refine hmemL (fun w m => m.asV 0 rfl .own) ?_
  refine hmemL (fun w m => m.asV 6 rfl (View.take (k := k) (by omega))) ?_
  refine hfactL (fun m => rdB (m.rd 0 rfl)) ?_
  rintro ⟨hl_v1, hA_v1⟩
  refine hmemL (fun w m => m.asV 5 rfl (View.take (k := 87 - 4) (by omega))) ?_
  refine hfactL (fun m => rdB (m.rd 0 rfl)) ?_
  rintro ⟨hl_v2, hA_v2⟩
  refine hy (fun _ => y_assign rfl) <| hend <| hsub (ρ' := [(13, _), (12, _), (11, _), (10, _), (9, _), (8, _), (5, _), (0, _), (1, _), (2, _), (3, _)]) ⟨rfl, rfl, rfl, rfl, rfl, rfl, rfl, rfl, rfl, rfl, rfl, trivial⟩ <| hmemQ (X' := [_, _]) (S' := [_, _, _, _, _, _, _, _, _, _, _, _]) (fun _ m => m) <| hthen <| hseq <| hdrw [2, 14, 16, 17] [(0, some 3), (1, some 0), (3, some 3), (4, some 3), (5, some 3), (6, some 3), (7, some 3), (8, some 3), (9, some 1), (10, some 4), (11, some 1), (12, some 1), (13, some 1), (15, some 2), (2, none), (14, none), (16, none), (17, none), (18, some 4)] (by kernel_rfl) (by kernel_rfl) rfl 99 <| htyU (y_move rfl) <| htyU (y_move rfl) <| htyU (y_move rfl) <| htyU (y_move rfl) <| htyU (y_move rfl) <| htyU (y_move rfl) <| htyU (y_slTo rfl rfl Tryd.underlying32 sz5 rfl (by omega)) <| htyU (y_move rfl) <| htyU (y_move rfl) <| htyU (y_move rfl) <| htyU (y_lenS rfl Tryd.underlying32) <| htyU (y_sub rfl rfl (w64 (by omega) (by omega))) <| htyU (y_slTo rfl rfl Tryd.underlying32 sz5 (show ((87 - 4 : Nat) : Int) = ((87 : Nat) : Int) - 4 by omega) (by omega)) <| htyU (y_move rfl) <| ?_
  refine htx (xh_call rfl Tryd.call22 (rcrcPutC (by omega)) [] rfl [4] rfl ?_)
  rintro _ _ _ ⟨v5, rfl, rfl, rfl⟩
  refine ⟨(fun _ => wk [1, 1] [0, 1, 2, 3, 4, 5, 6, 7, 8, 9, 10, 11] rfl rfl), ?_⟩
  refine htfact (fun m => (m.own 0 rfl).slice) ?_
  rintro ⟨A_x5, c_x5, rfl, hc_x5⟩
  refine htfact (fun m => (m.ord 0 rfl).2.1) fun hA_x5 => ?_
  refine htx (xh_call rfl Tryd.call22 (rcrcPutC (by omega)) [] rfl [0] rfl ?_)
  rintro _ _ _ ⟨v6, rfl, rfl, rfl⟩
  refine ⟨(fun _ => wk [2, 2] [0, 1, 2, 3, 4, 5, 6, 7, 8, 9, 10, 11] rfl rfl), ?_⟩
  refine htfact (fun m => (m.own 0 rfl).slice) ?_
  rintro ⟨A_x6, c_x6, rfl, hc_x6⟩
  refine htfact (fun m => (m.ord 0 rfl).2.1) fun hA_x6 => ?_
  refine htx (xh_call rfl Tryd.call22 (rcrcPutC (by omega)) [] rfl [2] rfl ?_)
  rintro _ _ _ ⟨v7, rfl, rfl, rfl⟩
  refine ⟨(fun _ => wk [3, 3] [0, 1, 2, 3, 4, 5, 6, 7, 8, 9, 10, 11] rfl rfl), ?_⟩
  refine htfact (fun m => (m.own 0 rfl).slice) ?_
  rintro ⟨A_x7, c_x7, rfl, hc_x7⟩
  refine htfact (fun m => (m.ord 0 rfl).2.1) fun hA_x7 => ?_
  refine htx (xh_bsl Tryd.underlying47 ti32 rfl rfl rfl (by simp [Value.cells, B8]) (by decide) (by decide) (fun g57 => ⟨(fun _ => wk [4, 4] [0, 1, 2, 3, 4, 5, 6, 7, 8, 9, 10, 11] rfl rfl), ?_⟩))
  have hA_b57 : 0 < 8 → (some (⟨g57, 0, none⟩ : Addr)) ≠ none := fun _ h => by cases h
  refine htyU (y_assign rfl) <| htend <| hsub (ρ' := [(14, _), (13, _), (12, _), (11, _), (10, _), (9, _), (8, _), (5, _), (0, _), (1, _), (2, _), (3, _)]) ⟨rfl, rfl, rfl, rfl, rfl, rfl, rfl, rfl, rfl, rfl, rfl, rfl, trivial⟩ <| hmemQ (X' := [_, _, _, _, _, _]) (S' := [_, _, _, _, _, _, _, _, _, _, _, _]) (fun _ m => m) <| hthen <| hseq <| hseq <| hreg <| hy (fun _ => y_assign rfl) <| hend <| hthen <| hblock <| ?_
  obtain ⟨rows, hrows⟩ : ∃ rows : List BRow, rows = [⟨A_x3, min n 100, c_x3, l.take 100⟩, ⟨A_x5, min n 100 + 4, c_x5, putL (l.take 100)⟩, ⟨A_x, 87, c_x, ow⟩, ⟨A_x2, 87, c_x2, odd⟩, ⟨A_x, k, c_x, ow.take k⟩, ⟨A_x42, 87 + 1, c_x42, ow ++ [y]⟩, ⟨A_x6, 87 - 4 + 4, c_x6, putL (odd.take (87 - 4))⟩, ⟨A_x7, 87 + 1 + 4, c_x7, putL (ow ++ [y])⟩] := ⟨_, rfl⟩
  refine hmemC (fun w m => (m.perm (takeR_perm [3] _ [_] _ rfl)).freeze) ?_
  refine hmemC (fun w m => m.asV 0 rfl .own) ?_
  refine hmemC (fun w m => (m.perm (takeR_perm [2] _ [_] _ rfl)).freeze) ?_
  refine hmemC (fun w m => m.asV 0 rfl .own) ?_
  refine hmemC (fun w m => (m.perm (takeR_perm [1] _ [_] _ rfl)).freeze) ?_
  refine hmemC (fun w m => m.asV 0 rfl .own) ?_
  refine hmemC (fun w m => m.rows (rows := rows) (by rw [hrows]; exact .cons 10 rfl (by dsimp only; omega) (.cons 4 rfl (by dsimp only; omega) (.cons 14 rfl (by dsimp only; omega) (.cons 12 rfl (by dsimp only; omega) (.cons 7 rfl (by dsimp only; omega) (.cons 8 rfl (by dsimp only; omega) (.cons 2 rfl (by dsimp only; omega) (.cons 0 rfl (by dsimp only; omega) (.nil)))))))))) ?_
  refine hmemC (fun w m => m.eqX 0 rfl (show _ = ROwn 32 1 (.slice (some ⟨g57, 0, none⟩) 8 8) 8 (rows.map BRow.val) from by rw [hrows]; rfl)) ?_
  have hr8 : rows.length = 8 := by rw [hrows]; rfl
  have hrn : ∀ r ∈ rows, r.n ≤ 1000000000 := by
    rw [hrows]
    intro r hr
    simp only [List.mem_cons, List.not_mem_nil, or_false] at hr
    rcases hr with rfl | rfl | rfl | rfl | rfl | rfl | rfl | rfl <;> dsimp only <;> omega
  refine hloop1 (fun i => 8 - i) (fun i => [(15, .int .i64 (i : Nat))]) (fun i => []) (fun i => []) (fun i => i ≤ 8) 0 [(14, _), (13, _), (12, _), (11, _), (10, _), (9, _), (5, _), (0, _), (1, _), (2, _), (3, _)] ⟨rfl, rfl, rfl, rfl, rfl, rfl, rfl, rfl, rfl, rfl, rfl, trivial⟩ [] rfl [] rfl (Nat.zero_le _) ⟨rfl, trivial⟩ (fun i hI => ?_)
  refine hseq <| hseq <| hreg <| hy (fun _ => y_move rfl) <| hy (fun _ => y_move rfl) <| hy (fun _ => y_lenS rfl Tryd.underlying47) <| hy (fun _ => y_lss rfl rfl) <| hend <| hsub (ρ' := [(61, _), (15, _), (14, _), (13, _), (12, _), (11, _), (10, _), (9, _), (5, _), (0, _), (1, _), (2, _), (3, _)]) ⟨rfl, rfl, rfl, rfl, rfl, rfl, rfl, rfl, rfl, rfl, rfl, rfl, rfl, trivial⟩ <| hthen <| ?_
  refine hif rfl (fun hlt => ?_) (fun hlt => ?_)
  · obtain ⟨r, hri⟩ : ∃ r, rows[i]? = some r := ⟨_, List.getElem?_eq_getElem (by omega)⟩
    have hrn' := hrn r (List.mem_of_getElem? hri)
    have hW := rdSup_wf r.l
    refine hfactC (fun m => rows_le (m.sres 0 rfl) hri) fun hrc => ?_
    refine hmemC (fun w m => m.asV 0 rfl (View.row hri)) ?_
    refine hfactC (fun m => rdB (m.rd 0 rfl)) ?_
    rintro ⟨hl_rr, hA_rr⟩
    refine hcskip <| hthen <| hseq <| hblock <| hseq <| hreg <| hy (fun _ => y_move rfl) <| hy (fun _ => y_move rfl) <| hy (fun _ => y_idxS1 rfl rfl Tryd.underlying47 sz32 hA_b57 rfl (by omega)) <| hy (fun m => yV (y_ld1 rfl ag32 ((m.ord 0 rfl).cell (j := i) (by rw [List.getElem?_map, hri]; rfl))) ((rfl : r.val = .slice r.A r.n r.c))) <| ?_
    refine hx (xh_call rfl Tryd.call23 (readSupC hrc hrn') [] rfl [0] rfl ?_)
    rintro _ _ _ ⟨rfl, rfl, rfl⟩
    refine hy (fun _ => y_move rfl) <| hy (fun _ => y_extract rfl rfl) <| hy (fun _ => y_extract rfl rfl) <| ?_
    refine hx (xh_alloc ti39 (fun g16 => ?_))
    refine hx0 (xh_stA 0 rfl rfl rfl sz39 (Sup.cs_len hW) Sup.cs_one rfl ?_)
    refine hy (fun _ => y_assign rfl) <| hend <| hsub (ρ' := [(17, _), (16, _), (61, _), (15, _), (14, _), (13, _), (12, _), (11, _), (10, _), (9, _), (5, _), (0, _), (1, _), (2, _), (3, _)]) ⟨rfl, rfl, rfl, rfl, rfl, rfl, rfl, rfl, rfl, rfl, rfl, rfl, rfl, rfl, rfl, trivial⟩ <| hmemQ (X' := [_, _, _, _]) (S' := [_, _, _, _, _, _, _, _, _, _, _, _, _, _, _, _, _, _, _, _]) (fun _ m => m) <| hthen <| hseq <| hreg <| hy (fun _ => y_move rfl) <| hy (fun _ => y_move rfl) <| hy (fun _ => y_idxS1 rfl rfl Tryd.underlying47 sz32 hA_b57 rfl (by omega)) <| hy (fun m => yV (y_ld1 rfl ag32 ((m.ord 1 rfl).cell (j := i) (by rw [List.getElem?_map, hri]; rfl))) ((rfl : r.val = .slice r.A r.n r.c))) <| ?_
    refine hx (xh_call rfl Tryd.call24 (rreadSC hrc hrn') [] rfl [0] rfl ?_)
    rintro _ _ _ ⟨rfl, rfl, rfl⟩
    refine hy (fun _ => y_move rfl) <| hy (fun _ => y_extract rfl rfl) <| hy (fun _ => y_extract rfl rfl) <| ?_
    refine hx (xh_alloc ti27 (fun g18 => ?_))
    refine hx0 (xh_stA 0 rfl rfl rfl sz27 (Sup.cs_len hW) Sup.cs_one rfl ?_)
    refine hy (fun _ => y_assign rfl) <| hend <| hsub (ρ' := [(19, _), (18, _), (17, _), (16, _), (61, _), (15, _), (14, _), (13, _), (12, _), (11, _), (10, _), (9, _), (5, _), (0, _), (1, _), (2, _), (3, _)]) ⟨rfl, rfl, rfl, rfl, rfl, rfl, rfl, rfl, rfl, rfl, rfl, rfl, rfl, rfl, rfl, rfl, rfl, trivial⟩ <| hmemQ (X' := [_, _, _, _, _]) (S' := [_, _, _, _, _, _, _, _, _, _, _, _, _, _, _, _, _, _, _, _]) (fun _ m => m) <| hthen <| hseq <| hdrw [5] [(0, some 0), (1, some 0), (2, some 0), (3, some 0), (4, some 0), (6, some 1), (5, none), (7, some 1), (8, some 1)] (by kernel_rfl) (by kernel_rfl) rfl 99 <| htyU (y_move rfl) <| htyU (y_move rfl) <| htyU (yF (y_neq rfl rfl) ((decide_eq_false (fun h => h rfl)))) <| htyU (y_move rfl) <| htyg (o := _) rfl rfl rfl (fun m => yV (y_ldN rfl ag39 sz39 (Sup.cs_len hW) ((m.blk 1 rfl).cells0)) ((rfl : _ = Value.agg (rdSup r.l).1.cs.toArray))) <| htyg (o := _) rfl rfl rfl (fun m => yV (y_ldN rfl ag27 sz27 (Sup.cs_len hW) ((m.blk 0 rfl).cells0)) ((rfl : _ = Value.agg (rdSup r.l).1.cs.toArray))) <| ?_
    refine htxg (o := _) rfl rfl rfl (xh_call rfl Tryd.call25 (asSC hW) [] rfl [] rfl ?_)
    rintro _ _ _ ⟨rfl, rfl, rfl⟩
    refine ⟨(fun _ => wk [0, 0, 0, 0, 0] [0, 1, 2, 3, 4, 5, 6, 7, 8, 9, 10, 11, 12, 13, 14, 15, 16, 17, 18, 19] rfl rfl), ?_⟩
    refine htyUg (o := _) rfl rfl rfl (y_neS rfl rfl hW hW) ?_
    refine htyU (y_pickF rfl rfl) <| htend <| hsub (ρ' := [(88, _), (19, _), (18, _), (17, _), (16, _), (61, _), (15, _), (14, _), (13, _), (12, _), (11, _), (10, _), (9, _), (5, _), (0, _), (1, _), (2, _), (3, _)]) ⟨rfl, rfl, rfl, rfl, rfl, rfl, rfl, rfl, rfl, rfl, rfl, rfl, rfl, rfl, rfl, rfl, rfl, rfl, trivial⟩ <| hmemQ (X' := [_, _, _, _, _]) (S' := [_, _, _, _, _, _, _, _, _, _, _, _, _, _, _, _, _, _, _, _]) (fun _ m => m) <| hthen <| ?_
    refine hiff rfl ((decide_eq_false (fun h => h rfl))) ?_
    refine hcskip <| hqblock <| hthen <| hreg <| hy (fun _ => y_move rfl) <| hy (fun _ => y_add rfl rfl (w64 (by omega) (by omega))) <| hy (fun _ => y_assign rfl) <| hend <| hsub (ρ' := [(15, _), (88, _), (19, _), (18, _), (17, _), (16, _), (61, _), (14, _), (13, _), (12, _), (11, _), (10, _), (9, _), (5, _), (0, _), (1, _), (2, _), (3, _)]) ⟨rfl, rfl, rfl, rfl, rfl, rfl, rfl, rfl, rfl, rfl, rfl, rfl, rfl, rfl, rfl, rfl, rfl, rfl, trivial⟩ <| ?_
    refine hnext1 (i + 1) ⟨rfl, rfl, rfl, rfl, rfl, rfl, rfl, rfl, rfl, rfl, rfl, rfl, trivial⟩ [2, 2, 2] rfl [1, 2, 3, 4, 5, 6, 7, 8, 9, 10, 11, 12, 13, 14, 15, 16, 17, 18, 19] rfl (by omega) (by omega)
  · refine hexit <| hthen_exit <| hthen_exit <| hqblock_exit <| hthen <| hseq <| hreg <| ?_
    refine hx (xh_call rfl Tryd.call20 (lives22C) [] rfl [18] rfl ?_)
    rintro _ _ _ ⟨rfl, rfl, rfl⟩
    refine hy (fun _ => y_assign rfl) <| hend <| hsub (ρ' := [(8, _), (61, _), (15, _), (14, _), (13, _), (12, _), (11, _), (10, _), (9, _), (5, _), (0, _), (1, _), (2, _), (3, _)]) ⟨rfl, rfl, rfl, rfl, rfl, rfl, rfl, rfl, rfl, rfl, rfl, rfl, rfl, rfl, trivial⟩ <| hmemQ (X' := [_, _, _]) (S' := [_, _, _, _, _, _, _, _, _, _, _, _, _, _, _, _, _, _, _]) (fun _ m => m) <| hthen <| hret <| ?_
    exact hret1 trivial rfl rfl [] rfl [] rfl ⟨rfl, rfl, rfl⟩
theorem slotsReads (A : Option Addr) (n c : Nat) (l : List UInt8) (xs : List Cell) (z : Int) (y : UInt8) (W : World) (h1 : Rd W 1 A n (b8s l)) (hc : n ≤ c) (hn : n ≤ 140737488351232) (_ : holdC W xs) (hT : Ty Tryd.prog 27 xs) (hz : -9223372036854775808 ≤ z ∧ z ≤ 9223372036854775807) (hro : RRoots.holds W) :
    Calls Tryd.prog 4 #[.slice A n c, .agg (xs.map Cell.val).toArray, .int .i64 z, B8 y] W fun e w' => e = .returned (.bool true) ∧ Fr No W w' := by
  obtain ⟨s, e, h⟩ := ty_S hT
  rw [e]
  exact con_calls (slotsReadsC hc hn h hz) (by
    intro r hr
    simp only [List.mem_cons, List.not_mem_nil, or_false] at hr
    rcases hr with rfl | rfl
    · exact h1
    · exact hro)
end Go.Proofs.YtfikjheicjamhaaDoor
