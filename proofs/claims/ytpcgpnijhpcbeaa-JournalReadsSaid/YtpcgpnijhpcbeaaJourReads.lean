/- The law JournalReads, computed. -/
import Derived.Test.YtpcgpnijhpcbeaaCon17
set_option linter.unusedVariables false
set_option linter.unusedSimpArgs false
set_option maxRecDepth 20000
namespace Go.Proofs.Ytpcgpnijhpcbeaa
open Go.Eng Go.Hx
theorem ReadJ.len {l i : List UInt8} {d : List (List UInt8)} {e : Int} (h : ReadJ l i d e) : d.length ≤ l.length := by
  rcases h with ⟨a, rfl, rfl, rfl⟩ | ⟨a, b, rfl, rfl, rfl⟩ | ⟨a, b, rfl, rfl, rfl⟩
  · simp
  · rw [ds_length, cntOf, List.length_take]; omega
  · simp
theorem journalReadsC {A A1 : Option Addr} {n c n1 c1 : Nat} {l img : List UInt8} {ds : List (List UInt8)} {z : Int} {y : UInt8} (hc : n ≤ c) (hn : n ≤ 140737488351232) (hi : img.length = 32) (hD : D32 ds) (hn1 : n1 ≤ 140737488351232) (hz : -9223372036854775808 ≤ z ∧ z ≤ 9223372036854775807) : Con Try.prog 9 [.slice A n c, .agg (b8s img ++ [Value.slice A1 n1 c1]).toArray, .int .i64 z, B8 y] [] [RRd 1 A n (b8s l), RRd 32 A1 n1 (dc ds)] (fun v_ X_ S_ => v_ = (.bool true) ∧ X_ = [] ∧ S_ = []) := by
  refine henter0 (N := 93) Try.func9 rfl rfl (by simp) fun b hb => ?_
  refine hfactC (fun m => rdB (m.rd 0 rfl)) ?_
  rintro ⟨hl_r, hA_r⟩
  refine hfactC (fun m => rdX (m.rd 1 rfl)) ?_
  rintro ⟨hl_q, hA_q⟩
  have hgD := goodL_D32 hD
  have hgl := goodL_length hD
  have hjl := jbody_length hi hgD
  refine hseq <| hreg <| ?_
  refine hx (xh_box rfl (fun g5 => ?_))
  refine hy (fun _ => y_assign rfl) <| hend <| hthen <| hseq <| hreg <| hy (fun m => y_ldN rfl ag56 sz56 (j_len hi) ((m.blk 0 rfl).cells0)) <| ?_
  refine hx (xh_call rfl Try.call24 (rgoodC (by omega) (by assumption) (by omega)) [] rfl [1] rfl ?_)
  rintro _ _ _ ⟨v, rfl, rfl, rfl⟩
  refine hfactL (fun m => (m.own 0 rfl).slice) ?_
  rintro ⟨A_x, c_x, rfl, hc_x⟩
  refine hfactL (fun m => (m.ord 0 rfl).2.1) fun hA_x => ?_
  refine hx (xh_calll rfl Try.call29 (rbytesC (by omega) (by assumption) (by omega)) [] rfl (.x 0 rfl .own .nil) ?_)
  rintro _ _ _ ⟨v2, rfl, rfl, rfl⟩
  refine ⟨rfl, ?_⟩
  refine hfactL (fun m => (m.own 0 rfl).slice) ?_
  rintro ⟨A_x2, c_x2, rfl, hc_x2⟩
  refine hfactL (fun m => (m.ord 0 rfl).2.1) fun hA_x2 => ?_
  refine hy (fun _ => y_assign rfl) <| hend <| hsub (ρ' := [(9, _), (8, _), (5, _), (0, _), (1, _), (2, _), (3, _)]) ⟨rfl, rfl, rfl, rfl, rfl, rfl, rfl, trivial⟩ <| hthen <| hseq <| hreg <| hy (fun _ => y_move rfl) <| hy (fun _ => y_move rfl) <| hy (fun _ => y_lenS rfl Try.underlying29) <| ?_
  refine hx (xh_call rfl Try.call13 (aroundC (by omega) (by omega) (by omega)) [] rfl [] rfl ?_)
  rintro _ _ _ ⟨rfl, rfl, rfl⟩
  refine hy (fun _ => y_assign rfl) <| hend <| hsub (ρ' := [(10, _), (9, _), (8, _), (5, _), (0, _), (1, _), (2, _), (3, _)]) ⟨rfl, rfl, rfl, rfl, rfl, rfl, rfl, rfl, trivial⟩ <| hthen <| hseq <| hreg <| hy (fun _ => y_move rfl) <| ?_
  refine hx (xh_calll rfl Try.call17 (fewC (by omega) (by omega) (m := 400)) [] rfl (.x 0 rfl .own .nil) ?_)
  rintro _ _ _ ⟨v3, rfl, rfl, rfl⟩
  refine ⟨rfl, ?_⟩
  refine hfactL (fun m => (m.own 0 rfl).slice) ?_
  rintro ⟨A_x3, c_x3, rfl, hc_x3⟩
  refine hfactL (fun m => (m.ord 0 rfl).2.1) fun hA_x3 => ?_
  refine hy (fun _ => y_assign rfl) <| hend <| hsub (ρ' := [(11, _), (10, _), (9, _), (8, _), (5, _), (0, _), (1, _), (2, _), (3, _)]) ⟨rfl, rfl, rfl, rfl, rfl, rfl, rfl, rfl, rfl, trivial⟩ <| hthen <| hseq <| hreg <| ?_
  have hmin : min ((jbody img (goodL ds)).length + 4) 400 = (jbody img (goodL ds)).length + 4 := by omega
  have htk : (putL (jbody img (goodL ds))).take 400 = putL (jbody img (goodL ds)) := List.take_of_length_le (by rw [putL_length]; omega)
  obtain ⟨k, hk, hkl⟩ : ∃ k : Nat, around z ((jbody img (goodL ds)).length + 4 : Nat) = (k : Int) ∧ k < (jbody img (goodL ds)).length + 4 := by
    have := around_lt z ((jbody img (goodL ds)).length + 4 : Nat) (by omega)
    exact ⟨(around z ((jbody img (goodL ds)).length + 4 : Nat)).toNat, by omega, by omega⟩
  rw [hmin, htk, hk]
  have hol : (putL (jbody img (goodL ds))).length = (jbody img (goodL ds)).length + 4 := putL_length _
  have hN : (jbody img (goodL ds)).length + 4 ≤ 400 := by omega
  generalize putL (jbody img (goodL ds)) = ow at hol
  rw [hmin] at hA_x3 hc_x3
  generalize hNN : (jbody img (goodL ds)).length + 4 = N at hol hN hkl hA_x3 hA_x2 hc_x2 hc_x3 ⊢
  refine hy (fun _ => y_move rfl) <| hy (fun _ => y_move rfl) <| hy (fun _ => y_move rfl) <| hy (fun _ => y_idxS1 rfl rfl Try.underlying29 sz5 hA_x3 rfl (by omega)) <| ?_
  refine hx0 (xh_stO 0 rfl rfl rfl sz5 rfl (by omega) ?_)
  refine hend <| hsub (ρ' := [(11, _), (10, _), (9, _), (8, _), (5, _), (0, _), (1, _), (2, _), (3, _)]) ⟨rfl, rfl, rfl, rfl, rfl, rfl, rfl, rfl, rfl, trivial⟩ <| hthen <| hseq <| hreg <| hy (fun _ => y_move rfl) <| ?_
  obtain ⟨odd, hodd⟩ : ∃ odd, odd = ow.set k y := ⟨_, rfl⟩
  have hoddl : odd.length = N := by rw [hodd, List.length_set, hol]
  refine hmemL (fun w m => m.eqX 0 rfl (show _ = ROwn 5 1 (.slice A_x3 N c_x3) N (b8s odd) from by rw [hodd, b8s_set])) ?_
  refine hx (xh_call rfl Try.call17 (fewC (by omega) (by omega) (m := 120)) [] rfl [0] rfl ?_)
  rintro _ _ _ ⟨v4, rfl, rfl, rfl⟩
  refine hfactL (fun m => (m.own 0 rfl).slice) ?_
  rintro ⟨A_x4, c_x4, rfl, hc_x4⟩
  refine hfactL (fun m => (m.ord 0 rfl).2.1) fun hA_x4 => ?_
  refine hy (fun _ => y_assign rfl) <| hend <| hsub (ρ' := [(12, _), (11, _), (10, _), (9, _), (8, _), (5, _), (0, _), (1, _), (2, _), (3, _)]) ⟨rfl, rfl, rfl, rfl, rfl, rfl, rfl, rfl, rfl, rfl, trivial⟩ <| hthen <| hseq <| hreg <| hy (fun _ => y_move rfl) <| ?_
  refine hx (xh_calll rfl Try.call17 (fewC (by omega) (by omega) (m := 400)) [] rfl (.x 2 rfl .own .nil) ?_)
  rintro _ _ _ ⟨v5, rfl, rfl, rfl⟩
  refine ⟨rfl, ?_⟩
  refine hfactL (fun m => (m.own 0 rfl).slice) ?_
  rintro ⟨A_x5, c_x5, rfl, hc_x5⟩
  refine hfactL (fun m => (m.ord 0 rfl).2.1) fun hA_x5 => ?_
  refine hy (fun _ => y_move rfl) <| ?_
  refine hx (xh_bsl Try.underlying29 ti5 rfl rfl rfl (by simp [Value.cells, B8]) (by decide) (by decide) (fun g38 => ?_))
  have hA_b38 : 0 < 1 → (some (⟨g38, 0, none⟩ : Addr)) ≠ none := fun _ h => by cases h
  have hmin2 : min N 400 = N := by omega
  have htk2 : ow.take 400 = ow := List.take_of_length_le (by omega)
  rw [hmin2, htk2]
  rw [hmin2] at hA_x5 hc_x5
  refine hmemL (fun w m => m.eqX 0 rfl (show _ = ROwn 5 1 (.slice (some ⟨g38, 0, none⟩) 1 1) 1 (b8s [y]) from rfl)) ?_
  refine hx (xh_app 1 rfl rfl rfl Try.underlying29 Try.underlying29 (by exact .inl rfl) ti5 rfl (fun m => Src.of_rd (m.ord 0 rfl)) b8s_one (by unfold maxLen; omega) (by omega) (fun u => ?_))
  refine hfactL (fun m => (m.own 0 rfl).slice) ?_
  rintro ⟨A_x52, c_x52, rfl, hc_x5⟩
  refine hfactL (fun m => (m.ord 0 rfl).2.1) fun hA_x5 => ?_
  have hmore : b8s ow ++ b8s [y] = b8s (ow ++ [y]) := (b8s_append _ _).symm
  refine hmemL (fun w m => m.eqX 0 rfl (show _ = ROwn 5 1 (.slice A_x52 (N + 1) c_x52) (N + 1) (b8s (ow ++ [y])) from congrArg (ROwn _ _ _ _) hmore)) ?_
  refine hmemL (fun w m => (m.perm (takeR_perm [4] _ [_] _ rfl)).freeze hb) ?_
  refine hmemL (fun w m => m.asV 0 rfl .own) ?_
  refine hmemL (fun w m => (m.perm (takeR_perm [3] _ [_] _ rfl)).freeze hb) ?_
  refine hmemL (fun w m => m.asV 0 rfl .own) ?_
  refine hfactL (fun m => rdB (m.rd 0 rfl)) ?_
  rintro ⟨hl_x3r, hA_x3r⟩
  refine hmemL (fun w m => (m.perm (takeR_perm [2] _ [_] _ rfl)).freeze hb) ?_
  refine hmemL (fun w m => m.asV 0 rfl .own) ?_
  refine hmemL (fun w m => (m.perm (takeR_perm [0] _ [_] _ rfl)).freeze hb) ?_
  refine hmemL (fun w m => m.asV 0 rfl .own) ?_
  refine hmemL (fun w m => m.asV 6 rfl (View.take (k := k) (by omega))) ?_
  refine hfactL (fun m => rdB (m.rd 0 rfl)) ?_
  rintro ⟨hl_v1, hA_v1⟩
  refine hmemL (fun w m => m.asV 5 rfl (View.take (k := N - 4) (by omega))) ?_
  refine hfactL (fun m => rdB (m.rd 0 rfl)) ?_
  rintro ⟨hl_v2, hA_v2⟩
  refine hy (fun _ => y_assign rfl) <| hend <| hsub (ρ' := [(13, _), (12, _), (11, _), (10, _), (9, _), (8, _), (5, _), (0, _), (1, _), (2, _), (3, _)]) ⟨rfl, rfl, rfl, rfl, rfl, rfl, rfl, rfl, rfl, rfl, rfl, trivial⟩ <| hthen <| hseq <| hdrw [2, 14, 18, 19] [(0, some 3), (1, some 0), (3, some 3), (4, some 3), (5, some 3), (6, some 3), (7, some 3), (8, some 3), (9, some 1), (10, some 4), (11, some 1), (12, some 1), (13, some 1), (15, some 2), (16, some 2), (17, some 2), (2, none), (14, none), (18, none), (19, none), (20, some 4)] (by kernel_rfl) (by kernel_rfl) rfl 99 <| htyU (y_move rfl) <| htyU (y_move rfl) <| htyU (y_move rfl) <| htyU (y_move rfl) <| htyU (y_move rfl) <| htyU (y_move rfl) <| htyU (y_slTo rfl rfl Try.underlying29 sz5 rfl (by omega)) <| htyU (y_move rfl) <| htyU (y_move rfl) <| htyU (y_move rfl) <| htyU (y_lenS rfl Try.underlying29) <| htyU (y_sub rfl rfl (w64 (by omega) (by omega))) <| htyU (y_slTo rfl rfl Try.underlying29 sz5 (show ((N - 4 : Nat) : Int) = (N : Int) - 4 by omega) (by omega)) <| htyU (y_move rfl) <| htyU (y_move rfl) <| htyU (y_slTo rfl rfl Try.underlying29 sz5 rfl (by omega)) <| ?_
  refine htx (xh_call rfl Try.call36 (rcrcPutC (by omega)) [] rfl [4] rfl ?_)
  rintro _ _ _ ⟨v6, rfl, rfl, rfl⟩
  refine ⟨(fun _ => wk 1 0 rfl rfl), ?_⟩
  refine htfact (fun m => (m.own 0 rfl).slice) ?_
  rintro ⟨A_x6, c_x6, rfl, hc_x6⟩
  refine htfact (fun m => (m.ord 0 rfl).2.1) fun hA_x6 => ?_
  refine htx (xh_call rfl Try.call36 (rcrcPutC (by omega)) [] rfl [0] rfl ?_)
  rintro _ _ _ ⟨v7, rfl, rfl, rfl⟩
  refine ⟨(fun _ => wk 2 0 rfl rfl), ?_⟩
  refine htfact (fun m => (m.own 0 rfl).slice) ?_
  rintro ⟨A_x7, c_x7, rfl, hc_x7⟩
  refine htfact (fun m => (m.ord 0 rfl).2.1) fun hA_x7 => ?_
  refine htx (xh_call rfl Try.call36 (rcrcPutC (by omega)) [] rfl [1] rfl ?_)
  rintro _ _ _ ⟨v8, rfl, rfl, rfl⟩
  refine ⟨(fun _ => wk 3 0 rfl rfl), ?_⟩
  refine htfact (fun m => (m.own 0 rfl).slice) ?_
  rintro ⟨A_x8, c_x8, rfl, hc_x8⟩
  refine htfact (fun m => (m.ord 0 rfl).2.1) fun hA_x8 => ?_
  refine htx (xh_bsl Try.underlying74 ti29 rfl rfl rfl (by simp [Value.cells, B8]) (by decide) (by decide) (fun g59 => ⟨(fun _ => wk 4 0 rfl rfl), ?_⟩))
  have hA_b59 : 0 < 8 → (some (⟨g59, 0, none⟩ : Addr)) ≠ none := fun _ h => by cases h
  refine htyU (y_assign rfl) <| htend <| hsub (ρ' := [(14, _), (13, _), (12, _), (11, _), (10, _), (9, _), (8, _), (5, _), (0, _), (1, _), (2, _), (3, _)]) ⟨rfl, rfl, rfl, rfl, rfl, rfl, rfl, rfl, rfl, rfl, rfl, rfl, trivial⟩ <| hthen <| hseq <| hseq <| hreg <| hy (fun _ => y_assign rfl) <| hend <| hthen <| hblock <| ?_
  refine hmemC (fun w m => (m.perm (takeR_perm [3] _ [_] _ rfl)).freeze hb) ?_
  refine hmemC (fun w m => m.asV 0 rfl .own) ?_
  refine hmemC (fun w m => (m.perm (takeR_perm [2] _ [_] _ rfl)).freeze hb) ?_
  refine hmemC (fun w m => m.asV 0 rfl .own) ?_
  refine hmemC (fun w m => (m.perm (takeR_perm [1] _ [_] _ rfl)).freeze hb) ?_
  refine hmemC (fun w m => m.asV 0 rfl .own) ?_
  obtain ⟨rows, hrows⟩ : ∃ rows : List BRow, rows = [⟨A_x4, min n 120, c_x4, l.take 120⟩, ⟨A_x6, min n 120 + 4, c_x6, putL (l.take 120)⟩, ⟨A_x2, N, c_x2, ow⟩, ⟨A_x3, N, c_x3, odd⟩, ⟨A_x2, k, c_x2, ow.take k⟩, ⟨A_x52, N + 1, c_x52, ow ++ [y]⟩, ⟨A_x7, N - 4 + 4, c_x7, putL (odd.take (N - 4))⟩, ⟨A_x8, k + 4, c_x8, putL (ow.take k)⟩] := ⟨_, rfl⟩
  refine hmemC (fun w m => m.rows (rows := rows) (by rw [hrows]; exact .cons 10 rfl (by dsimp only; omega) (.cons 4 rfl (by dsimp only; omega) (.cons 14 rfl (by dsimp only; omega) (.cons 12 rfl (by dsimp only; omega) (.cons 7 rfl (by dsimp only; omega) (.cons 8 rfl (by dsimp only; omega) (.cons 2 rfl (by dsimp only; omega) (.cons 0 rfl (by dsimp only; omega) (.nil)))))))))) ?_
  refine hmemC (fun w m => m.eqX 0 rfl (show _ = ROwn 29 1 (.slice (some ⟨g59, 0, none⟩) 8 8) 8 (rows.map BRow.val) from by rw [hrows]; rfl)) ?_
  have hr8 : rows.length = 8 := by rw [hrows]; rfl
  have hrn : ∀ r ∈ rows, r.n ≤ 1000000 := by
    rw [hrows]
    intro r hr
    simp only [List.mem_cons, List.not_mem_nil, or_false] at hr
    rcases hr with rfl | rfl | rfl | rfl | rfl | rfl | rfl | rfl <;> dsimp only <;> omega
  refine hloop1 (fun i => 8 - i) (fun i => [(15, .int .i64 (i : Nat))]) (fun i => []) (fun i => i ≤ 8) 0 [(14, _), (13, _), (12, _), (11, _), (10, _), (9, _), (5, _), (0, _), (1, _), (2, _), (3, _)] ⟨rfl, rfl, rfl, rfl, rfl, rfl, rfl, rfl, rfl, rfl, rfl, trivial⟩ [] rfl (Nat.zero_le _) ⟨rfl, trivial⟩ (fun i hI => ?_)
  refine hseq <| hseq <| hreg <| hy (fun _ => y_move rfl) <| hy (fun _ => y_move rfl) <| hy (fun _ => y_lenS rfl Try.underlying74) <| hy (fun _ => y_lss rfl rfl) <| hend <| hsub (ρ' := [(63, _), (15, _), (14, _), (13, _), (12, _), (11, _), (10, _), (9, _), (5, _), (0, _), (1, _), (2, _), (3, _)]) ⟨rfl, rfl, rfl, rfl, rfl, rfl, rfl, rfl, rfl, rfl, rfl, rfl, rfl, trivial⟩ <| hthen <| ?_
  refine hif rfl (fun hlt => ?_) (fun hlt => ?_)
  · obtain ⟨r, hri⟩ : ∃ r, rows[i]? = some r := ⟨_, List.getElem?_eq_getElem (by omega)⟩
    have hrn' := hrn r (List.mem_of_getElem? hri)
    refine hfactC (fun m => rows_le (m.sres 0 rfl) hri) fun hrc => ?_
    refine hmemC (fun w m => m.asV 0 rfl (View.row hri)) ?_
    refine hfactC (fun m => rdB (m.rd 0 rfl)) ?_
    rintro ⟨hl_rr, hA_rr⟩
    refine hcskip <| hthen <| hseq <| hblock <| hseq <| hreg <| hy (fun _ => y_move rfl) <| hy (fun _ => y_move rfl) <| hy (fun _ => y_idxS1 rfl rfl Try.underlying74 sz29 hA_b59 rfl (by omega)) <| hy (fun m => yV (y_ld1 rfl ag29 ((m.ord 0 rfl).cell (j := i) (by rw [List.getElem?_map, hri]; rfl))) ((rfl : r.val = .slice r.A r.n r.c))) <| ?_
    refine hx (xh_call rfl Try.call37 (jreadC (by omega) (by omega)) [] rfl [0] rfl ?_)
    rintro _ _ _ ⟨img2, v9, ds2, err, rfl, rfl, rfl, hp⟩
    refine hfactL (fun m => (m.own 0 rfl).slice) ?_
    rintro ⟨A_x9, c_x9, rfl, hc_x9⟩
    refine hfactL (fun m => (m.ord 0 rfl).2.1) fun hA_x9 => ?_
    refine hy (fun _ => y_move rfl) <| hy (fun _ => y_extract rfl rfl) <| hy (fun _ => y_extract rfl rfl) <| ?_
    refine hx (xh_alloc ti61 (fun g16 => ?_))
    obtain ⟨hi2, hD2, hR2⟩ := hp
    refine hx0 (xh_stA 0 rfl rfl rfl sz61 (j_len hi2) (j_one rfl) rfl ?_)
    refine hy (fun _ => y_assign rfl) <| hend <| hsub (ρ' := [(17, _), (16, _), (63, _), (15, _), (14, _), (13, _), (12, _), (11, _), (10, _), (9, _), (5, _), (0, _), (1, _), (2, _), (3, _)]) ⟨rfl, rfl, rfl, rfl, rfl, rfl, rfl, rfl, rfl, rfl, rfl, rfl, rfl, rfl, rfl, trivial⟩ <| hthen <| hseq <| hreg <| hy (fun _ => y_move rfl) <| hy (fun _ => y_move rfl) <| hy (fun _ => y_idxS1 rfl rfl Try.underlying74 sz29 hA_b59 rfl (by omega)) <| hy (fun m => yV (y_ld1 rfl ag29 ((m.ord 2 rfl).cell (j := i) (by rw [List.getElem?_map, hri]; rfl))) ((rfl : r.val = .slice r.A r.n r.c))) <| ?_
    refine hx (xh_call rfl Try.call38 (rreadC (by omega) (by omega)) [] rfl [0] rfl ?_)
    rintro _ _ _ ⟨img3, v10, ds3, err2, rfl, rfl, rfl, hp2⟩
    refine hfactL (fun m => (m.own 0 rfl).slice) ?_
    rintro ⟨A_x10, c_x10, rfl, hc_x10⟩
    refine hfactL (fun m => (m.ord 0 rfl).2.1) fun hA_x10 => ?_
    refine hy (fun _ => y_move rfl) <| hy (fun _ => y_extract rfl rfl) <| hy (fun _ => y_extract rfl rfl) <| ?_
    refine hx (xh_alloc ti56 (fun g18 => ?_))
    obtain ⟨hi3, hD3, hR3⟩ := hp2
    obtain ⟨rfl, rfl, rfl⟩ := hR2.same hR3
    have hdl := hR2.len
    refine hx0 (xh_stA 0 rfl rfl rfl sz56 (j_len hi2) (j_one rfl) rfl ?_)
    refine hy (fun _ => y_assign rfl) <| hend <| hsub (ρ' := [(19, _), (18, _), (17, _), (16, _), (63, _), (15, _), (14, _), (13, _), (12, _), (11, _), (10, _), (9, _), (5, _), (0, _), (1, _), (2, _), (3, _)]) ⟨rfl, rfl, rfl, rfl, rfl, rfl, rfl, rfl, rfl, rfl, rfl, rfl, rfl, rfl, rfl, rfl, rfl, trivial⟩ <| hthen <| hseq <| hdrw [5, 7] [(0, some 0), (1, some 0), (2, some 0), (3, some 0), (4, some 0), (6, some 1), (5, none), (7, none), (8, some 2), (9, some 2)] (by kernel_rfl) (by kernel_rfl) rfl 99 <| htyU (y_move rfl) <| htyU (y_move rfl) <| htyU (y_neq rfl rfl) <| htyU (y_move rfl) <| ?_
    refine htsplit 85 rfl (fun h => ?_) (fun h => ?_)
    · exact absurd rfl h
    · refine htyg (o := _) rfl rfl rfl (fun m => y_ldN rfl ag61 sz61 (j_len hi2) ((m.blk 2 rfl).cells0)) <| htyg (o := _) rfl rfl rfl (fun m => y_ldN rfl ag56 sz56 (j_len hi2) ((m.blk 0 rfl).cells0)) <| ?_
      refine htxg (o := _) rfl rfl rfl (xh_call rfl Try.call34 (asJC (by omega)) [] rfl [] rfl ?_)
      rintro _ _ _ ⟨rfl, rfl, rfl⟩
      refine ⟨(fun _ => wk 0 0 rfl rfl), ?_⟩
      refine htxg (o := _) rfl rfl rfl (xh_calll rfl Try.call33 (rsameC (by omega) (by omega) (by assumption) (by assumption) (by omega)) [] rfl (.x 3 rfl .own (.x 1 rfl .own .nil)) ?_)
      rintro _ _ _ ⟨rfl, rfl, rfl⟩
      refine ⟨rfl, ?_⟩
      refine ⟨(fun _ => wk 0 0 rfl rfl), ?_⟩
      refine htyUg (o := _) rfl rfl rfl (y_notp rfl) <| htyU (y_pickF rfl rfl) <| htend <| hsub (ρ' := [(91, _), (19, _), (18, _), (17, _), (16, _), (63, _), (15, _), (14, _), (13, _), (12, _), (11, _), (10, _), (9, _), (5, _), (0, _), (1, _), (2, _), (3, _)]) ⟨rfl, rfl, rfl, rfl, rfl, rfl, rfl, rfl, rfl, rfl, rfl, rfl, rfl, rfl, rfl, rfl, rfl, rfl, trivial⟩ <| hthen <| ?_
      refine hif rfl (fun h2 => ?_) (fun h2 => ?_)
      · exact absurd ⟨rfl, rfl⟩ h2
      · refine hcskip <| hqblock <| hthen <| hreg <| hy (fun _ => y_move rfl) <| hy (fun _ => y_add rfl rfl (w64 (by omega) (by omega))) <| hy (fun _ => y_assign rfl) <| hend <| hsub (ρ' := [(15, _), (91, _), (19, _), (18, _), (17, _), (16, _), (63, _), (14, _), (13, _), (12, _), (11, _), (10, _), (9, _), (5, _), (0, _), (1, _), (2, _), (3, _)]) ⟨rfl, rfl, rfl, rfl, rfl, rfl, rfl, rfl, rfl, rfl, rfl, rfl, rfl, rfl, rfl, rfl, rfl, rfl, trivial⟩ <| ?_
        refine hnext1 (i + 1) ⟨rfl, rfl, rfl, rfl, rfl, rfl, rfl, rfl, rfl, rfl, rfl, rfl, trivial⟩ [4, 4, 4, 4] rfl [1, 2, 3, 4, 5, 6, 7, 8, 9, 10, 11, 12, 13, 14, 15, 16, 17, 18, 19] rfl (by omega) (by omega)
  · refine hexit <| hthen_exit <| hthen_exit <| hqblock_exit <| hthen <| hseq <| hreg <| ?_
    refine hx (xh_call rfl Try.call30 (lives17C) [] rfl [] rfl ?_)
    rintro _ _ _ ⟨rfl, rfl, rfl⟩
    refine hy (fun _ => y_assign rfl) <| hend <| hsub (ρ' := [(8, _), (63, _), (15, _), (14, _), (13, _), (12, _), (11, _), (10, _), (9, _), (5, _), (0, _), (1, _), (2, _), (3, _)]) ⟨rfl, rfl, rfl, rfl, rfl, rfl, rfl, rfl, rfl, rfl, rfl, rfl, rfl, rfl, trivial⟩ <| hthen <| hret <| ?_
    exact hret1 trivial rfl rfl [] rfl [] rfl ⟨rfl, rfl, rfl⟩
theorem journalReads (A : Option Addr) (n c : Nat) (l : List UInt8) (img : List UInt8) (A1 : Option Addr) (n1 c1 : Nat) (ds : List (List UInt8)) (z : Int) (y : UInt8) (W : World) (hr : Rd W 1 A n (b8s l)) (hc : n ≤ c) (hn : n ≤ 140737488351232) (hi : img.length = 32) (hr1 : Rd W 32 A1 n1 (dc ds)) (hc1 : n1 ≤ c1) (hD : D32 ds) (hn1 : n1 ≤ 140737488351232) (hz : -9223372036854775808 ≤ z ∧ z ≤ 9223372036854775807) :
    Calls Try.prog 9 #[.slice A n c, .agg (b8s img ++ [Value.slice A1 n1 c1]).toArray, .int .i64 z, B8 y] W fun e w' => e = .returned (.bool true) ∧ Fr No W w' :=
  con_calls (journalReadsC hc hn hi hD hn1 hz) (by
    intro s hs
    simp only [List.mem_cons, List.not_mem_nil, or_false] at hs
    rcases hs with rfl | rfl
    · exact hr
    · exact hr1)
end Go.Proofs.Ytpcgpnijhpcbeaa
