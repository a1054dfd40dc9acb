/- The law SlotsMay. -/
import Derived.Test.YtfikjheicjamhaaDoorG12
import Derived.Test.YtfikjheicjamhaaDoorG3
set_option linter.unusedVariables false
set_option linter.unusedSimpArgs false
set_option maxRecDepth 20000
set_option maxHeartbeats 4000000
namespace Go.Proofs.YtfikjheicjamhaaDoor
open Go.Eng Go.Hx
theorem cutL3 {α : Type} {xs : List α} {a c d : Nat} (h : xs.length = a + c + d) : xs = (xs.drop 0).take a ++ (xs.drop a).take c ++ (xs.drop (a + c)).take d := by
  rw [List.drop_zero, ← List.take_add, ← List.take_add, List.take_of_length_le (by omega)]
theorem cutL4 {α : Type} {xs : List α} {a c d f : Nat} (h : xs.length = a + c + d + f) : xs = (xs.drop 0).take a ++ (xs.drop a).take c ++ (xs.drop (a + c)).take d ++ (xs.drop (a + c + d)).take f := by
  rw [List.drop_zero, ← List.take_add, ← List.take_add, ← List.take_add, List.take_of_length_le (by omega)]
theorem ty_T {xs : List Cell} (h : Ty Tryd.prog 25 xs) : ∃ x : Sl, xs.map Cell.val = x.cs ∧ x.wf := by
  obtain ⟨hl, hf⟩ := ty_struct Tryd.underlying25 h
  have hl3 : xs.length = 1 + 32 + 1 := hl.trans (by kernel_rfl)
  obtain ⟨f, e0⟩ := ty_bool Tryd.underlying4 (hf 0 _ rfl)
  obtain ⟨im, e1, hm⟩ := ty_dig Tryd.underlying23 Tryd.underlying5 (by kernel_rfl) (by kernel_rfl) (hf 1 _ rfl)
  obtain ⟨z, e2, hz⟩ := ty_i64 Tryd.underlying3 (hf 2 _ rfl)
  refine ⟨⟨f, im, z⟩, ?_, ⟨hm, hz.1, hz.2⟩⟩
  have d0 : (xs.drop 0).take 1 = [.v (.bool f)] := e0
  have d1 : ((xs.drop 1).take 32).map Cell.val = b8s im := e1
  have d2 : (xs.drop (1 + 32)).take 1 = [.v (.int .i64 z)] := e2
  rw [cutL3 hl3, List.map_append, List.map_append, d0, d1, d2]
  rfl
theorem ty_S {xs : List Cell} (h : Ty Tryd.prog 27 xs) : ∃ s : Sup, xs.map Cell.val = s.cs ∧ s.wf := by
  obtain ⟨hl, hf⟩ := ty_struct Tryd.underlying27 h
  have hl4 : xs.length = 1 + 1 + 34 + 34 := hl.trans (by kernel_rfl)
  obtain ⟨a, e0, ha⟩ := ty_i64 Tryd.underlying3 (hf 0 _ rfl)
  obtain ⟨g, e1, hg⟩ := ty_i64 Tryd.underlying3 (hf 1 _ rfl)
  obtain ⟨x, e2, hx⟩ := ty_T (hf 2 _ rfl)
  obtain ⟨y, e3, hy⟩ := ty_T (hf 3 _ rfl)
  refine ⟨⟨a, g, x, y⟩, ?_, ⟨ha.1, ha.2, hg.1, hg.2, hx, hy⟩⟩
  have d0 : (xs.drop 0).take 1 = [.v (.int .i64 a)] := e0
  have d1 : (xs.drop 1).take 1 = [.v (.int .i64 g)] := e1
  have d2 : ((xs.drop (1 + 1)).take 34).map Cell.val = x.cs := e2
  have d3 : ((xs.drop (1 + 1 + 34)).take 34).map Cell.val = y.cs := e3
  rw [cutL4 hl4, List.map_append, List.map_append, List.map_append, d0, d1, d2, d3]
  simp [Sup.cs, Cell.val]
theorem sup_set35 {s : Sup} (h : s.wf) {z : Int} : s.cs.set 35 (.int .i64 z) = (Sup.mk s.active s.gen ⟨s.s0.full, s.s0.image, z⟩ s.s1).cs := by
  have h0 := h.w0.len
  simp [Sup.cs, Sl.cs, List.set_append, b8s_length, h0]
theorem sup_set69 {s : Sup} (h : s.wf) {z : Int} : s.cs.set 69 (.int .i64 z) = (Sup.mk s.active s.gen s.s0 ⟨s.s1.full, s.s1.image, z⟩).cs := by
  have h0 := h.w0.len
  have h1 := h.w1.len
  simp [Sup.cs, Sl.cs, List.set_append, b8s_length, h0, h1]
theorem sup_set36 {s : Sup} (h : s.wf) {q : Bool} : s.cs.set 36 (.bool q) = (Sup.mk s.active s.gen s.s0 ⟨q, s.s1.image, s.s1.size⟩).cs := by
  have h0 := h.w0.len
  simp [Sup.cs, Sl.cs, List.set_append, b8s_length, h0]
def tri (a c d : Sup) (i : Nat) : Sup := if i = 0 then a else if i = 1 then c else d
theorem tri_get {a c d : Sup} (ha : a.wf) (hc : c.wf) {i : Nat} (hi : i < 3) {j : Nat} {u : Value} (hu : (tri a c d i).cs[j]? = some u) (hd : d.wf) : (a.cs ++ (c.cs ++ d.cs))[i * 70 + j]? = some u := by
  have h1 := Sup.cs_len ha
  have h2 := Sup.cs_len hc
  have h3 := Sup.cs_len hd
  have hj := (List.getElem?_eq_some_iff.1 hu).1
  match i, hi with
  | 0, _ =>
    have hj' : j < 70 := h1 ▸ hj
    rw [List.getElem?_append_left (by omega), show 0 * 70 + j = j by omega]
    exact hu
  | 1, _ =>
    have hj' : j < 70 := h2 ▸ hj
    rw [List.getElem?_append_right (by omega), List.getElem?_append_left (by omega), show 1 * 70 + j - a.cs.length = j by omega]
    exact hu
  | 2, _ =>
    have hj' : j < 70 := h3 ▸ hj
    rw [List.getElem?_append_right (by omega), List.getElem?_append_right (by omega), show 2 * 70 + j - a.cs.length - c.cs.length = j by omega]
    exact hu
theorem tri_wf {a c d : Sup} (ha : a.wf) (hc : c.wf) (hd : d.wf) (i : Nat) : (tri a c d i).wf := by
  unfold tri
  split
  · exact ha
  · split
    · exact hc
    · exact hd
theorem slotsMayC {s : Sup} {z n : Int} (h : s.wf) (hz : -9223372036854775808 ≤ z ∧ z ≤ 9223372036854775807) (hn : -9223372036854775808 ≤ n ∧ n ≤ 9223372036854775807) : Con Tryd.prog 3 [.agg s.cs.toArray, .int .i64 z, .int .i64 n] [] [RRoots] (fun v_ X_ S_ => v_ = (.bool true) ∧ X_ = [] ∧ S_ = []) := by
  have hG := good_wf h
  refine henter (N := 105) Tryd.func3 rfl rfl (by simp) fun b => ?_
  refine hseq <| hreg <| ?_
  refine hx (xh_box rfl (fun g3 => ?_))
  refine hmemL (fun w m => m.eqX 0 rfl (show _ = RBlk g3 27 s.cs from congrArg (RBlk _ _) (cells_agg _))) ?_
  refine hy (fun _ => y_assign rfl) <| hend <| hmemQ (X' := [_]) (S' := [_]) (fun _ m => m) <| hthen <| hseq <| hreg <| hy (fun m => yV (y_ldN rfl ag27 sz27 (Sup.cs_len h) ((m.blk 0 rfl).cells0)) ((rfl : _ = Value.agg s.cs.toArray))) <| ?_
  refine hx (xh_call rfl Tryd.call13 (goodSC h) [] rfl [] rfl ?_)
  rintro _ _ _ ⟨rfl, rfl, rfl⟩
  refine hx (xh_alloc ti27 (fun g7 => ?_))
  refine hx0 (xh_stA 0 rfl rfl rfl sz27 (Sup.cs_len hG) (Sup.cs_one (s := s.good)) rfl ?_)
  refine hend <| hsub (ρ' := [(7, _), (6, _), (3, _), (0, _), (1, _), (2, _)]) ⟨rfl, rfl, rfl, rfl, rfl, rfl, trivial⟩ <| hmemQ (X' := [_, _]) (S' := [_]) (fun _ m => m) <| hthen <| hseq <| hreg <| hy (fun m => yV (y_ldN rfl ag27 sz27 (Sup.cs_len hG) ((m.blk 0 rfl).cells0)) ((rfl : _ = Value.agg s.good.cs.toArray))) <| ?_
  refine hx (xh_alloc ti27 (fun g8 => ?_))
  refine hx0 (xh_stA 0 rfl rfl rfl sz27 (Sup.cs_len hG) (Sup.cs_one (s := s.good)) rfl ?_)
  refine hend <| hsub (ρ' := [(8, _), (7, _), (6, _), (3, _), (0, _), (1, _), (2, _)]) ⟨rfl, rfl, rfl, rfl, rfl, rfl, rfl, trivial⟩ <| hmemQ (X' := [_, _, _]) (S' := [_]) (fun _ m => m) <| hthen <| hseq <| hseq <| hreg <| hy (fun _ => y_move rfl) <| ?_
  refine hx (xh_call rfl Tryd.call14 (aroundC hz.1 hz.2 (by decide) (n := z) (m := 5)) [] rfl [] rfl ?_)
  rintro _ _ _ ⟨rfl, rfl, rfl⟩
  refine hend <| hsub (ρ' := [(18, _), (8, _), (7, _), (6, _), (3, _), (0, _), (1, _), (2, _)]) ⟨rfl, rfl, rfl, rfl, rfl, rfl, rfl, rfl, trivial⟩ <| hmemQ (X' := [_, _, _]) (S' := [_]) (fun _ m => m) <| hthen <| hblock <| hseq <| hreg <| hy (fun _ => y_eql rfl rfl) <| hy (fun _ => y_assign rfl) <| hend <| hsub (ρ' := [(25, _), (18, _), (8, _), (7, _), (6, _), (3, _), (0, _), (1, _), (2, _)]) ⟨rfl, rfl, rfl, rfl, rfl, rfl, rfl, rfl, rfl, trivial⟩ <| hthen <| ?_
  refine hif rfl (fun h0 => ?_) (fun h0 => ?_)
  · have hO : (Sup.mk n s.good.gen s.good.s0 s.good.s1).wf := ⟨hn.1, hn.2, hG.g0, hG.g1, hG.w0, hG.w1⟩
    refine hreg <| hy (fun _ => y_move rfl) <| hy (fun _ => y_fld rfl fa27_0 (by decide)) <| ?_
    refine hx0 (xh_st1a 0 rfl rfl rfl sz3 rfl (by rw [Sup.cs_len hG]; first | decide | (dsimp only; omega)) ?_)
    refine hmemL (fun w m => m.eqX 0 rfl (show _ = RBlk g8 27 (Sup.mk n s.good.gen s.good.s0 s.good.s1).cs from rfl)) ?_
    refine hend <| hsub (ρ' := [(25, _), (18, _), (8, _), (7, _), (6, _), (3, _), (0, _), (1, _), (2, _)]) ⟨rfl, rfl, rfl, rfl, rfl, rfl, rfl, rfl, rfl, trivial⟩ <| hmemQ (X' := [_, _, _]) (S' := [_]) (fun _ m => m) <| hqblock <| hthen <| hseq <| hreg <| hy (fun m => yV (y_ldN rfl ag27 sz27 (Sup.cs_len h) ((m.blk 2 rfl).cells0)) ((rfl : _ = Value.agg s.cs.toArray))) <| hy (fun m => yV (y_ldN rfl ag27 sz27 (Sup.cs_len hG) ((m.blk 1 rfl).cells0)) ((rfl : _ = Value.agg s.good.cs.toArray))) <| hy (fun m => yV (y_ldN rfl ag27 sz27 (Sup.cs_len hO) ((m.blk 0 rfl).cells0)) ((rfl : _ = Value.agg (Sup.mk n s.good.gen s.good.s0 s.good.s1).cs.toArray))) <| ?_
    refine hx (xh_bsl Tryd.underlying30 ti27 rfl rfl rfl (by simp [Value.cells, Sup.cs_len h, Sup.cs_len hG, Sup.cs_len hO]) (by decide) (by decide) (fun g46 => ?_))
    have hA_b46 : 0 < 3 → (some (⟨g46, 0, none⟩ : Addr)) ≠ none := fun _ h => by cases h
    refine hy (fun _ => y_assign rfl) <| hend <| hsub (ρ' := [(9, _), (25, _), (18, _), (8, _), (7, _), (6, _), (3, _), (0, _), (1, _), (2, _)]) ⟨rfl, rfl, rfl, rfl, rfl, rfl, rfl, rfl, rfl, rfl, trivial⟩ <| hmemQ (X' := [_, _, _, _]) (S' := [_]) (fun _ m => m) <| hthen <| hseq <| hseq <| hreg <| hy (fun _ => y_assign rfl) <| hend <| hthen <| hblock <| ?_
    refine hmemC (fun w m => m.eqX 0 rfl (show _ = ROwn 27 70 (.slice (some ⟨g46, 0, none⟩) 3 3) 3 (s.cs ++ (s.good.cs ++ (Sup.mk n s.good.gen s.good.s0 s.good.s1).cs)) from congrArg (ROwn _ _ _ _) (by simp [Value.cells]))) ?_
    refine hloop1 (fun i => 3 - i) (fun i => [(10, .int .i64 (i : Nat))]) (fun i => []) (fun i => []) (fun i => i ≤ 3) 0 [(9, _), (25, _), (18, _), (8, _), (7, _), (3, _), (0, _), (1, _), (2, _)] ⟨rfl, rfl, rfl, rfl, rfl, rfl, rfl, rfl, rfl, trivial⟩ [] rfl [] rfl (by decide) ⟨rfl, trivial⟩ (fun i hi3 => ?_)
    refine hseq <| hseq <| hreg <| hy (fun _ => y_move rfl) <| hy (fun _ => y_lss rfl rfl) <| hend <| hsub (ρ' := [(48, _), (10, _), (9, _), (25, _), (18, _), (8, _), (7, _), (3, _), (0, _), (1, _), (2, _)]) ⟨rfl, rfl, rfl, rfl, rfl, rfl, rfl, rfl, rfl, rfl, rfl, trivial⟩ <| hthen <| ?_
    refine hif rfl (fun hlt => ?_) (fun hlt => ?_)
    · have hi : i < 3 := by omega
      have hL := tri_wf h hG hO i
      have hget := fun (j : Nat) (u : Value) (hu : (tri s s.good (Sup.mk n s.good.gen s.good.s0 s.good.s1) i).cs[j]? = some u) => tri_get h hG hi hu hO
      generalize tri s s.good (Sup.mk n s.good.gen s.good.s0 s.good.s1) i = L at hL hget
      by_cases hm : L.may
      · refine hcskip <| hthen <| hseq <| hblock <| hseq <| hreg <| hy (fun _ => y_move rfl) <| hy (fun _ => y_move rfl) <| hy (fun _ => y_idxS rfl rfl Tryd.underlying30 sz27 hA_b46 rfl (by omega)) <| hy (fun m => yV (y_ldN rfl ag27 sz27 (Sup.cs_len hL) (fun j u hu => rd_fld (m.ord 0 rfl) (hget j u hu))) ((rfl : _ = Value.agg L.cs.toArray))) <| ?_
        refine hx (xh_call rfl Tryd.call15 (rmaySC hL) [] rfl [] rfl ?_)
        rintro _ _ _ ⟨rfl, rfl, rfl⟩
        refine hy (fun _ => y_assign rfl) <| hend <| hsub (ρ' := [(11, _), (48, _), (10, _), (9, _), (25, _), (18, _), (8, _), (7, _), (3, _), (0, _), (1, _), (2, _)]) ⟨rfl, rfl, rfl, rfl, rfl, rfl, rfl, rfl, rfl, rfl, rfl, rfl, trivial⟩ <| hmemQ (X' := [_, _, _, _]) (S' := [_]) (fun _ m => m) <| hthen <| hseq <| hreg <| ?_
        rw [decide_eq_true hm]
        refine hy (fun _ => y_move rfl) <| hy (fun _ => y_move rfl) <| hy (fun _ => y_idxS rfl rfl Tryd.underlying30 sz27 hA_b46 rfl (by omega)) <| hy (fun m => yV (y_ldN rfl ag27 sz27 (Sup.cs_len hL) (fun j u hu => rd_fld (m.ord 0 rfl) (hget j u hu))) ((rfl : _ = Value.agg L.cs.toArray))) <| ?_
        refine hx (xh_call rfl Tryd.call17 (ofSC hL) [] rfl [] rfl ?_)
        rintro _ _ _ ⟨rfl, rfl, rfl⟩
        refine hx (xh_call rfl Tryd.call16 (writeSupC hL) [] rfl [] rfl ?_)
        rintro _ _ _ ⟨v, rfl, rfl, rfl⟩
        refine hfactL (fun m => (m.own 0 rfl).slice) ?_
        rintro ⟨A_x, c_x, rfl, hc_x⟩
        refine hfactL (fun m => (m.ord 0 rfl).2.1) fun hA_x => ?_
        refine hy (fun _ => y_move rfl) <| hy (fun _ => y_extract rfl rfl) <| hy (fun _ => y_extract rfl rfl) <| hy (fun _ => y_assign rfl) <| hy (fun _ => y_assign rfl) <| hend <| hsub (ρ' := [(13, _), (12, _), (11, _), (48, _), (10, _), (9, _), (25, _), (18, _), (8, _), (7, _), (3, _), (0, _), (1, _), (2, _)]) ⟨rfl, rfl, rfl, rfl, rfl, rfl, rfl, rfl, rfl, rfl, rfl, rfl, rfl, rfl, trivial⟩ <| hmemQ (X' := [_, _, _, _, _]) (S' := [_]) (fun _ m => m) <| hthen <| hseq <| hseq <| hreg <| ?_
        rw [if_pos hm, if_pos hm]
        refine hy (fun _ => y_move rfl) <| hy (fun _ => y_move rfl) <| hy (fun _ => y_idxS rfl rfl Tryd.underlying30 sz27 hA_b46 rfl (by omega)) <| hy (fun m => yV (y_ldN rfl ag27 sz27 (Sup.cs_len hL) (fun j u hu => rd_fld (m.ord 1 rfl) (hget j u hu))) ((rfl : _ = Value.agg L.cs.toArray))) <| ?_
        refine hx (xh_call rfl Tryd.call17 (ofSC hL) [] rfl [] rfl ?_)
        rintro _ _ _ ⟨rfl, rfl, rfl⟩
        refine hx (xh_call rfl Tryd.call18 (maySC hL) [] rfl [] rfl ?_)
        rintro _ _ _ ⟨rfl, rfl, rfl⟩
        rw [decide_eq_true hm]
        refine hy (fun _ => y_move rfl) <| hy (fun _ => yF (y_bne Tryd.underlying4 rfl rfl) (rfl)) <| hy (fun _ => y_move rfl) <| hyg (o := _) rfl rfl rfl (fun _ => y_move rfl) <| hyg (o := _) rfl rfl rfl (fun _ => yT (y_eql rfl rfl) (rfl)) <| hyg (o := _) rfl rfl rfl (fun _ => y_move rfl) <| hyg (o := _) rfl rfl rfl (fun _ => yF (y_bne Tryd.underlying4 rfl rfl) (rfl)) <| hy (fun _ => y_pickF rfl rfl) <| hy (fun _ => y_move rfl) <| hyg (o := _) rfl rfl rfl (fun _ => y_move rfl) <| hyg (o := _) rfl rfl rfl (fun _ => yF ((y_not rfl)) (rfl)) <| hyg (o := _) rfl rfl rfl (fun _ => y_move rfl) <| hskip rfl rfl rfl (by decide) <| hskip rfl rfl rfl (by decide) <| hskip rfl rfl rfl (by decide) <| hskipU rfl rfl rfl <| hskipU rfl rfl rfl <| hskipU rfl rfl rfl <| hskip rfl rfl rfl (by decide) <| hyg (o := _) rfl rfl rfl (fun _ => y_pickF rfl rfl) <| hy (fun _ => y_pickF rfl rfl) <| hend <| hsub (ρ' := [(91, _), (13, _), (12, _), (11, _), (48, _), (10, _), (9, _), (25, _), (18, _), (8, _), (7, _), (3, _), (0, _), (1, _), (2, _)]) ⟨rfl, rfl, rfl, rfl, rfl, rfl, rfl, rfl, rfl, rfl, rfl, rfl, rfl, rfl, rfl, trivial⟩ <| hmemQ (X' := [_, _, _, _, _]) (S' := [_]) (fun _ m => m) <| hthen <| ?_
        refine hiff rfl (rfl) ?_
        refine hcskip <| hthen <| hseq <| hdrw [8, 9] [(0, some 0), (1, some 0), (2, some 2), (3, some 2), (4, some 0), (5, some 0), (6, some 0), (7, some 0), (8, none), (9, none), (10, some 2), (11, some 2)] (by kernel_rfl) (by kernel_rfl) rfl 99 <| htyU (y_move rfl) <| htyU (y_move rfl) <| htyUg (o := _) rfl rfl rfl (y_move rfl) <| htyg (o := _) rfl rfl rfl (fun m => y_b2s rfl Tryd.underlying32 Tryd.underlying5 Tryd.underlying9 (m.ord 0 rfl)) <| htyUg (o := _) rfl rfl rfl (y_move rfl) <| htyUg (o := _) rfl rfl rfl (y_move rfl) <| htyUg (o := _) rfl rfl rfl (y_idxS rfl rfl Tryd.underlying30 sz27 hA_b46 rfl (by omega)) <| htyg (o := _) rfl rfl rfl (fun m => yV (y_ldN rfl ag27 sz27 (Sup.cs_len hL) (fun j u hu => rd_fld (m.ord 1 rfl) (hget j u hu))) ((rfl : _ = Value.agg L.cs.toArray))) <| ?_
        refine htxg (o := _) rfl rfl rfl (xh_call rfl Tryd.call19 (rbytesSC hL hm) [] rfl [] rfl ?_)
        rintro _ _ _ ⟨v2, rfl, rfl, rfl⟩
        refine ⟨(fun _ => wk [1, 1, 1, 1, 1] [0] rfl rfl), ?_⟩
        refine htfact (fun m => (m.own 0 rfl).slice) ?_
        rintro ⟨A_x2, c_x2, rfl, hc_x2⟩
        refine htfact (fun m => (m.ord 0 rfl).2.1) fun hA_x2 => ?_
        refine htsg (o := _) rfl rfl rfl (fun _ => wk [1, 1, 1, 1, 1] [0] rfl rfl) (fun m => y_b2s rfl Tryd.underlying32 Tryd.underlying5 Tryd.underlying9 (m.ord 0 rfl)) <| htyUg (o := _) rfl rfl rfl (yF (y_sne rfl rfl) ((decide_eq_false (fun h => h rfl)))) <| htyU (y_pickT rfl rfl) <| htend <| hsub (ρ' := [(103, _), (91, _), (13, _), (12, _), (11, _), (48, _), (10, _), (9, _), (25, _), (18, _), (8, _), (7, _), (3, _), (0, _), (1, _), (2, _)]) ⟨rfl, rfl, rfl, rfl, rfl, rfl, rfl, rfl, rfl, rfl, rfl, rfl, rfl, rfl, rfl, rfl, trivial⟩ <| hmemQ (X' := [_, _, _, _, _, _]) (S' := [_]) (fun _ m => m) <| hthen <| ?_
        refine hiff rfl (rfl) ?_
        refine hcskip <| hqblock <| hthen <| hreg <| hy (fun _ => y_move rfl) <| hy (fun _ => y_add rfl rfl (w64 (by omega) (by omega))) <| hy (fun _ => y_assign rfl) <| hend <| hsub (ρ' := [(10, _), (103, _), (91, _), (13, _), (12, _), (11, _), (48, _), (9, _), (25, _), (18, _), (8, _), (7, _), (3, _), (0, _), (1, _), (2, _)]) ⟨rfl, rfl, rfl, rfl, rfl, rfl, rfl, rfl, rfl, rfl, rfl, rfl, rfl, rfl, rfl, rfl, trivial⟩ <| ?_
        refine hnext1 (i + 1) ⟨rfl, rfl, rfl, rfl, rfl, rfl, rfl, rfl, rfl, rfl, trivial⟩ [2, 2, 2, 2] rfl [0] rfl (by omega) (by omega)
      · refine hcskip <| hthen <| hseq <| hblock <| hseq <| hreg <| hy (fun _ => y_move rfl) <| hy (fun _ => y_move rfl) <| hy (fun _ => y_idxS rfl rfl Tryd.underlying30 sz27 hA_b46 rfl (by omega)) <| hy (fun m => yV (y_ldN rfl ag27 sz27 (Sup.cs_len hL) (fun j u hu => rd_fld (m.ord 0 rfl) (hget j u hu))) ((rfl : _ = Value.agg L.cs.toArray))) <| ?_
        refine hx (xh_call rfl Tryd.call15 (rmaySC hL) [] rfl [] rfl ?_)
        rintro _ _ _ ⟨rfl, rfl, rfl⟩
        refine hy (fun _ => y_assign rfl) <| hend <| hsub (ρ' := [(11, _), (48, _), (10, _), (9, _), (25, _), (18, _), (8, _), (7, _), (3, _), (0, _), (1, _), (2, _)]) ⟨rfl, rfl, rfl, rfl, rfl, rfl, rfl, rfl, rfl, rfl, rfl, rfl, trivial⟩ <| hmemQ (X' := [_, _, _, _]) (S' := [_]) (fun _ m => m) <| hthen <| hseq <| hreg <| ?_
        rw [decide_eq_false hm]
        refine hy (fun _ => y_move rfl) <| hy (fun _ => y_move rfl) <| hy (fun _ => y_idxS rfl rfl Tryd.underlying30 sz27 hA_b46 rfl (by omega)) <| hy (fun m => yV (y_ldN rfl ag27 sz27 (Sup.cs_len hL) (fun j u hu => rd_fld (m.ord 0 rfl) (hget j u hu))) ((rfl : _ = Value.agg L.cs.toArray))) <| ?_
        refine hx (xh_call rfl Tryd.call17 (ofSC hL) [] rfl [] rfl ?_)
        rintro _ _ _ ⟨rfl, rfl, rfl⟩
        refine hx (xh_call rfl Tryd.call16 (writeSupC hL) [] rfl [] rfl ?_)
        rintro _ _ _ ⟨v, rfl, rfl, rfl⟩
        refine hfactL (fun m => (m.own 0 rfl).slice) ?_
        rintro ⟨A_x, c_x, rfl, hc_x⟩
        refine hfactL (fun m => (m.ord 0 rfl).2.1) fun hA_x => ?_
        refine hy (fun _ => y_move rfl) <| hy (fun _ => y_extract rfl rfl) <| hy (fun _ => y_extract rfl rfl) <| hy (fun _ => y_assign rfl) <| hy (fun _ => y_assign rfl) <| hend <| hsub (ρ' := [(13, _), (12, _), (11, _), (48, _), (10, _), (9, _), (25, _), (18, _), (8, _), (7, _), (3, _), (0, _), (1, _), (2, _)]) ⟨rfl, rfl, rfl, rfl, rfl, rfl, rfl, rfl, rfl, rfl, rfl, rfl, rfl, rfl, trivial⟩ <| hmemQ (X' := [_, _, _, _, _]) (S' := [_]) (fun _ m => m) <| hthen <| hseq <| hseq <| hreg <| ?_
        rw [if_neg hm, if_neg hm]
        refine hy (fun _ => y_move rfl) <| hy (fun _ => y_move rfl) <| hy (fun _ => y_idxS rfl rfl Tryd.underlying30 sz27 hA_b46 rfl (by omega)) <| hy (fun m => yV (y_ldN rfl ag27 sz27 (Sup.cs_len hL) (fun j u hu => rd_fld (m.ord 1 rfl) (hget j u hu))) ((rfl : _ = Value.agg L.cs.toArray))) <| ?_
        refine hx (xh_call rfl Tryd.call17 (ofSC hL) [] rfl [] rfl ?_)
        rintro _ _ _ ⟨rfl, rfl, rfl⟩
        refine hx (xh_call rfl Tryd.call18 (maySC hL) [] rfl [] rfl ?_)
        rintro _ _ _ ⟨rfl, rfl, rfl⟩
        rw [decide_eq_false hm]
        refine hy (fun _ => y_move rfl) <| hy (fun _ => yF (y_bne Tryd.underlying4 rfl rfl) (rfl)) <| hy (fun _ => y_move rfl) <| hyg (o := _) rfl rfl rfl (fun _ => y_move rfl) <| hyg (o := _) rfl rfl rfl (fun _ => yF (y_eql rfl rfl) (rfl)) <| hyg (o := _) rfl rfl rfl (fun _ => y_move rfl) <| hyg (o := _) rfl rfl rfl (fun _ => yF (y_bne Tryd.underlying4 rfl rfl) (rfl)) <| hy (fun _ => y_pickF rfl rfl) <| hy (fun _ => y_move rfl) <| hyg (o := _) rfl rfl rfl (fun _ => y_move rfl) <| hyg (o := _) rfl rfl rfl (fun _ => yT ((y_not rfl)) (rfl)) <| hyg (o := _) rfl rfl rfl (fun _ => y_move rfl) <| hyg (o := _) rfl rfl rfl (fun _ => y_move rfl) <| hyg (o := _) rfl rfl rfl (fun _ => yF (y_neq rfl rfl) (rfl)) <| hyg (o := _) rfl rfl rfl (fun _ => y_move rfl) <| hyg (o := _) rfl rfl rfl (fun _ => y_move rfl) <| hyg (o := _) rfl rfl rfl (fun _ => y_lenS rfl Tryd.underlying32) <| hyg (o := _) rfl rfl rfl (fun _ => yF (y_gtr rfl rfl) (rfl)) <| hyg (o := _) rfl rfl rfl (fun _ => y_pickF rfl rfl) <| hyg (o := _) rfl rfl rfl (fun _ => y_pickT rfl rfl) <| hy (fun _ => y_pickF rfl rfl) <| hend <| hsub (ρ' := [(91, _), (13, _), (12, _), (11, _), (48, _), (10, _), (9, _), (25, _), (18, _), (8, _), (7, _), (3, _), (0, _), (1, _), (2, _)]) ⟨rfl, rfl, rfl, rfl, rfl, rfl, rfl, rfl, rfl, rfl, rfl, rfl, rfl, rfl, rfl, trivial⟩ <| hmemQ (X' := [_, _, _, _, _]) (S' := [_]) (fun _ m => m) <| hthen <| ?_
        refine hiff rfl (rfl) ?_
        refine hcskip <| hthen <| hseq <| hdrw [8, 9] [(0, some 0), (1, some 0), (2, some 2), (3, some 2), (4, some 0), (5, some 0), (6, some 0), (7, some 0), (8, none), (9, none), (10, some 2), (11, some 2)] (by kernel_rfl) (by kernel_rfl) rfl 99 <| htyU (y_move rfl) <| htyU (y_move rfl) <| htskip rfl rfl rfl (by decide) <| htskip rfl rfl rfl (by decide) <| htskip rfl rfl rfl (by decide) <| htskip rfl rfl rfl (by decide) <| htskip rfl rfl rfl (by decide) <| htskip rfl rfl rfl (by decide) <| htskipx rfl rfl rfl (by decide) (fun _ => wk [0, 0, 0, 0, 0] [0] rfl rfl) <| htskipx rfl rfl rfl (by decide) (fun _ => wk [0, 0, 0, 0, 0] [0] rfl rfl) <| htskip rfl rfl rfl (by decide) <| htyU (y_pickF rfl rfl) <| htend <| hsub (ρ' := [(103, _), (91, _), (13, _), (12, _), (11, _), (48, _), (10, _), (9, _), (25, _), (18, _), (8, _), (7, _), (3, _), (0, _), (1, _), (2, _)]) ⟨rfl, rfl, rfl, rfl, rfl, rfl, rfl, rfl, rfl, rfl, rfl, rfl, rfl, rfl, rfl, rfl, trivial⟩ <| hthen <| ?_
        refine hiff rfl (rfl) ?_
        refine hcskip <| hqblock <| hthen <| hreg <| hy (fun _ => y_move rfl) <| hy (fun _ => y_add rfl rfl (w64 (by omega) (by omega))) <| hy (fun _ => y_assign rfl) <| hend <| hsub (ρ' := [(10, _), (103, _), (91, _), (13, _), (12, _), (11, _), (48, _), (9, _), (25, _), (18, _), (8, _), (7, _), (3, _), (0, _), (1, _), (2, _)]) ⟨rfl, rfl, rfl, rfl, rfl, rfl, rfl, rfl, rfl, rfl, rfl, rfl, rfl, rfl, rfl, rfl, trivial⟩ <| ?_
        refine hnext1 (i + 1) ⟨rfl, rfl, rfl, rfl, rfl, rfl, rfl, rfl, rfl, rfl, trivial⟩ [1, 1, 1, 1] rfl [0] rfl (by omega) (by omega)
    · refine hexit <| hthen_exit <| hthen_exit <| hqblock_exit <| hthen <| hseq <| hreg <| ?_
      refine hx (xh_call rfl Tryd.call20 (lives22C) [] rfl [0] rfl ?_)
      rintro _ _ _ ⟨rfl, rfl, rfl⟩
      refine hy (fun _ => y_assign rfl) <| hend <| hsub (ρ' := [(6, _), (48, _), (10, _), (9, _), (25, _), (18, _), (8, _), (7, _), (3, _), (0, _), (1, _), (2, _)]) ⟨rfl, rfl, rfl, rfl, rfl, rfl, rfl, rfl, rfl, rfl, rfl, rfl, trivial⟩ <| hmemQ (X' := [_, _, _, _]) (S' := [_]) (fun _ m => m) <| hthen <| hret <| ?_
      exact hret1 trivial rfl rfl [] rfl [] rfl ⟨rfl, rfl, rfl⟩
  · refine hseq <| hreg <| hy (fun _ => y_eql rfl rfl) <| hy (fun _ => y_assign rfl) <| hend <| hsub (ρ' := [(29, _), (25, _), (18, _), (8, _), (7, _), (6, _), (3, _), (0, _), (1, _), (2, _)]) ⟨rfl, rfl, rfl, rfl, rfl, rfl, rfl, rfl, rfl, rfl, trivial⟩ <| hthen <| ?_
    refine hif rfl (fun h1 => ?_) (fun h1 => ?_)
    · have hO : (Sup.mk s.good.active n s.good.s0 s.good.s1).wf := ⟨hG.a0, hG.a1, hn.1, hn.2, hG.w0, hG.w1⟩
      refine hreg <| hy (fun _ => y_move rfl) <| hy (fun _ => y_fld rfl fa27_1 (by decide)) <| ?_
      refine hx0 (xh_st1a 0 rfl rfl rfl sz3 rfl (by rw [Sup.cs_len hG]; first | decide | (dsimp only; omega)) ?_)
      refine hmemL (fun w m => m.eqX 0 rfl (show _ = RBlk g8 27 (Sup.mk s.good.active n s.good.s0 s.good.s1).cs from rfl)) ?_
      refine hend <| hsub (ρ' := [(29, _), (25, _), (18, _), (8, _), (7, _), (6, _), (3, _), (0, _), (1, _), (2, _)]) ⟨rfl, rfl, rfl, rfl, rfl, rfl, rfl, rfl, rfl, rfl, trivial⟩ <| hmemQ (X' := [_, _, _]) (S' := [_]) (fun _ m => m) <| hqblock <| hthen <| hseq <| hreg <| hy (fun m => yV (y_ldN rfl ag27 sz27 (Sup.cs_len h) ((m.blk 2 rfl).cells0)) ((rfl : _ = Value.agg s.cs.toArray))) <| hy (fun m => yV (y_ldN rfl ag27 sz27 (Sup.cs_len hG) ((m.blk 1 rfl).cells0)) ((rfl : _ = Value.agg s.good.cs.toArray))) <| hy (fun m => yV (y_ldN rfl ag27 sz27 (Sup.cs_len hO) ((m.blk 0 rfl).cells0)) ((rfl : _ = Value.agg (Sup.mk s.good.active n s.good.s0 s.good.s1).cs.toArray))) <| ?_
      refine hx (xh_bsl Tryd.underlying30 ti27 rfl rfl rfl (by simp [Value.cells, Sup.cs_len h, Sup.cs_len hG, Sup.cs_len hO]) (by decide) (by decide) (fun g46 => ?_))
      have hA_b46 : 0 < 3 → (some (⟨g46, 0, none⟩ : Addr)) ≠ none := fun _ h => by cases h
      refine hy (fun _ => y_assign rfl) <| hend <| hsub (ρ' := [(9, _), (29, _), (25, _), (18, _), (8, _), (7, _), (6, _), (3, _), (0, _), (1, _), (2, _)]) ⟨rfl, rfl, rfl, rfl, rfl, rfl, rfl, rfl, rfl, rfl, rfl, trivial⟩ <| hmemQ (X' := [_, _, _, _]) (S' := [_]) (fun _ m => m) <| hthen <| hseq <| hseq <| hreg <| hy (fun _ => y_assign rfl) <| hend <| hthen <| hblock <| ?_
      refine hmemC (fun w m => m.eqX 0 rfl (show _ = ROwn 27 70 (.slice (some ⟨g46, 0, none⟩) 3 3) 3 (s.cs ++ (s.good.cs ++ (Sup.mk s.good.active n s.good.s0 s.good.s1).cs)) from congrArg (ROwn _ _ _ _) (by simp [Value.cells]))) ?_
      refine hloop1 (fun i => 3 - i) (fun i => [(10, .int .i64 (i : Nat))]) (fun i => []) (fun i => []) (fun i => i ≤ 3) 0 [(9, _), (29, _), (25, _), (18, _), (8, _), (7, _), (3, _), (0, _), (1, _), (2, _)] ⟨rfl, rfl, rfl, rfl, rfl, rfl, rfl, rfl, rfl, rfl, trivial⟩ [] rfl [] rfl (by decide) ⟨rfl, trivial⟩ (fun i hi3 => ?_)
      refine hseq <| hseq <| hreg <| hy (fun _ => y_move rfl) <| hy (fun _ => y_lss rfl rfl) <| hend <| hsub (ρ' := [(48, _), (10, _), (9, _), (29, _), (25, _), (18, _), (8, _), (7, _), (3, _), (0, _), (1, _), (2, _)]) ⟨rfl, rfl, rfl, rfl, rfl, rfl, rfl, rfl, rfl, rfl, rfl, rfl, trivial⟩ <| hthen <| ?_
      refine hif rfl (fun hlt => ?_) (fun hlt => ?_)
      · have hi : i < 3 := by omega
        have hL := tri_wf h hG hO i
        have hget := fun (j : Nat) (u : Value) (hu : (tri s s.good (Sup.mk s.good.active n s.good.s0 s.good.s1) i).cs[j]? = some u) => tri_get h hG hi hu hO
        generalize tri s s.good (Sup.mk s.good.active n s.good.s0 s.good.s1) i = L at hL hget
        by_cases hm : L.may
        · refine hcskip <| hthen <| hseq <| hblock <| hseq <| hreg <| hy (fun _ => y_move rfl) <| hy (fun _ => y_move rfl) <| hy (fun _ => y_idxS rfl rfl Tryd.underlying30 sz27 hA_b46 rfl (by omega)) <| hy (fun m => yV (y_ldN rfl ag27 sz27 (Sup.cs_len hL) (fun j u hu => rd_fld (m.ord 0 rfl) (hget j u hu))) ((rfl : _ = Value.agg L.cs.toArray))) <| ?_
          refine hx (xh_call rfl Tryd.call15 (rmaySC hL) [] rfl [] rfl ?_)
          rintro _ _ _ ⟨rfl, rfl, rfl⟩
          refine hy (fun _ => y_assign rfl) <| hend <| hsub (ρ' := [(11, _), (48, _), (10, _), (9, _), (29, _), (25, _), (18, _), (8, _), (7, _), (3, _), (0, _), (1, _), (2, _)]) ⟨rfl, rfl, rfl, rfl, rfl, rfl, rfl, rfl, rfl, rfl, rfl, rfl, rfl, trivial⟩ <| hmemQ (X' := [_, _, _, _]) (S' := [_]) (fun _ m => m) <| hthen <| hseq <| hreg <| ?_
          rw [decide_eq_true hm]
          refine hy (fun _ => y_move rfl) <| hy (fun _ => y_move rfl) <| hy (fun _ => y_idxS rfl rfl Tryd.underlying30 sz27 hA_b46 rfl (by omega)) <| hy (fun m => yV (y_ldN rfl ag27 sz27 (Sup.cs_len hL) (fun j u hu => rd_fld (m.ord 0 rfl) (hget j u hu))) ((rfl : _ = Value.agg L.cs.toArray))) <| ?_
          refine hx (xh_call rfl Tryd.call17 (ofSC hL) [] rfl [] rfl ?_)
          rintro _ _ _ ⟨rfl, rfl, rfl⟩
          refine hx (xh_call rfl Tryd.call16 (writeSupC hL) [] rfl [] rfl ?_)
          rintro _ _ _ ⟨v, rfl, rfl, rfl⟩
          refine hfactL (fun m => (m.own 0 rfl).slice) ?_
          rintro ⟨A_x, c_x, rfl, hc_x⟩
          refine hfactL (fun m => (m.ord 0 rfl).2.1) fun hA_x => ?_
          refine hy (fun _ => y_move rfl) <| hy (fun _ => y_extract rfl rfl) <| hy (fun _ => y_extract rfl rfl) <| hy (fun _ => y_assign rfl) <| hy (fun _ => y_assign rfl) <| hend <| hsub (ρ' := [(13, _), (12, _), (11, _), (48, _), (10, _), (9, _), (29, _), (25, _), (18, _), (8, _), (7, _), (3, _), (0, _), (1, _), (2, _)]) ⟨rfl, rfl, rfl, rfl, rfl, rfl, rfl, rfl, rfl, rfl, rfl, rfl, rfl, rfl, rfl, trivial⟩ <| hmemQ (X' := [_, _, _, _, _]) (S' := [_]) (fun _ m => m) <| hthen <| hseq <| hseq <| hreg <| ?_
          rw [if_pos hm, if_pos hm]
          refine hy (fun _ => y_move rfl) <| hy (fun _ => y_move rfl) <| hy (fun _ => y_idxS rfl rfl Tryd.underlying30 sz27 hA_b46 rfl (by omega)) <| hy (fun m => yV (y_ldN rfl ag27 sz27 (Sup.cs_len hL) (fun j u hu => rd_fld (m.ord 1 rfl) (hget j u hu))) ((rfl : _ = Value.agg L.cs.toArray))) <| ?_
          refine hx (xh_call rfl Tryd.call17 (ofSC hL) [] rfl [] rfl ?_)
          rintro _ _ _ ⟨rfl, rfl, rfl⟩
          refine hx (xh_call rfl Tryd.call18 (maySC hL) [] rfl [] rfl ?_)
          rintro _ _ _ ⟨rfl, rfl, rfl⟩
          rw [decide_eq_true hm]
          refine hy (fun _ => y_move rfl) <| hy (fun _ => yF (y_bne Tryd.underlying4 rfl rfl) (rfl)) <| hy (fun _ => y_move rfl) <| hyg (o := _) rfl rfl rfl (fun _ => y_move rfl) <| hyg (o := _) rfl rfl rfl (fun _ => yT (y_eql rfl rfl) (rfl)) <| hyg (o := _) rfl rfl rfl (fun _ => y_move rfl) <| hyg (o := _) rfl rfl rfl (fun _ => yF (y_bne Tryd.underlying4 rfl rfl) (rfl)) <| hy (fun _ => y_pickF rfl rfl) <| hy (fun _ => y_move rfl) <| hyg (o := _) rfl rfl rfl (fun _ => y_move rfl) <| hyg (o := _) rfl rfl rfl (fun _ => yF ((y_not rfl)) (rfl)) <| hyg (o := _) rfl rfl rfl (fun _ => y_move rfl) <| hskip rfl rfl rfl (by decide) <| hskip rfl rfl rfl (by decide) <| hskip rfl rfl rfl (by decide) <| hskipU rfl rfl rfl <| hskipU rfl rfl rfl <| hskipU rfl rfl rfl <| hskip rfl rfl rfl (by decide) <| hyg (o := _) rfl rfl rfl (fun _ => y_pickF rfl rfl) <| hy (fun _ => y_pickF rfl rfl) <| hend <| hsub (ρ' := [(91, _), (13, _), (12, _), (11, _), (48, _), (10, _), (9, _), (29, _), (25, _), (18, _), (8, _), (7, _), (3, _), (0, _), (1, _), (2, _)]) ⟨rfl, rfl, rfl, rfl, rfl, rfl, rfl, rfl, rfl, rfl, rfl, rfl, rfl, rfl, rfl, rfl, trivial⟩ <| hmemQ (X' := [_, _, _, _, _]) (S' := [_]) (fun _ m => m) <| hthen <| ?_
          refine hiff rfl (rfl) ?_
          refine hcskip <| hthen <| hseq <| hdrw [8, 9] [(0, some 0), (1, some 0), (2, some 2), (3, some 2), (4, some 0), (5, some 0), (6, some 0), (7, some 0), (8, none), (9, none), (10, some 2), (11, some 2)] (by kernel_rfl) (by kernel_rfl) rfl 99 <| htyU (y_move rfl) <| htyU (y_move rfl) <| htyUg (o := _) rfl rfl rfl (y_move rfl) <| htyg (o := _) rfl rfl rfl (fun m => y_b2s rfl Tryd.underlying32 Tryd.underlying5 Tryd.underlying9 (m.ord 0 rfl)) <| htyUg (o := _) rfl rfl rfl (y_move rfl) <| htyUg (o := _) rfl rfl rfl (y_move rfl) <| htyUg (o := _) rfl rfl rfl (y_idxS rfl rfl Tryd.underlying30 sz27 hA_b46 rfl (by omega)) <| htyg (o := _) rfl rfl rfl (fun m => yV (y_ldN rfl ag27 sz27 (Sup.cs_len hL) (fun j u hu => rd_fld (m.ord 1 rfl) (hget j u hu))) ((rfl : _ = Value.agg L.cs.toArray))) <| ?_
          refine htxg (o := _) rfl rfl rfl (xh_call rfl Tryd.call19 (rbytesSC hL hm) [] rfl [] rfl ?_)
          rintro _ _ _ ⟨v2, rfl, rfl, rfl⟩
          refine ⟨(fun _ => wk [1, 1, 1, 1, 1] [0] rfl rfl), ?_⟩
          refine htfact (fun m => (m.own 0 rfl).slice) ?_
          rintro ⟨A_x2, c_x2, rfl, hc_x2⟩
          refine htfact (fun m => (m.ord 0 rfl).2.1) fun hA_x2 => ?_
          refine htsg (o := _) rfl rfl rfl (fun _ => wk [1, 1, 1, 1, 1] [0] rfl rfl) (fun m => y_b2s rfl Tryd.underlying32 Tryd.underlying5 Tryd.underlying9 (m.ord 0 rfl)) <| htyUg (o := _) rfl rfl rfl (yF (y_sne rfl rfl) ((decide_eq_false (fun h => h rfl)))) <| htyU (y_pickT rfl rfl) <| htend <| hsub (ρ' := [(103, _), (91, _), (13, _), (12, _), (11, _), (48, _), (10, _), (9, _), (29, _), (25, _), (18, _), (8, _), (7, _), (3, _), (0, _), (1, _), (2, _)]) ⟨rfl, rfl, rfl, rfl, rfl, rfl, rfl, rfl, rfl, rfl, rfl, rfl, rfl, rfl, rfl, rfl, rfl, trivial⟩ <| hmemQ (X' := [_, _, _, _, _, _]) (S' := [_]) (fun _ m => m) <| hthen <| ?_
          refine hiff rfl (rfl) ?_
          refine hcskip <| hqblock <| hthen <| hreg <| hy (fun _ => y_move rfl) <| hy (fun _ => y_add rfl rfl (w64 (by omega) (by omega))) <| hy (fun _ => y_assign rfl) <| hend <| hsub (ρ' := [(10, _), (103, _), (91, _), (13, _), (12, _), (11, _), (48, _), (9, _), (29, _), (25, _), (18, _), (8, _), (7, _), (3, _), (0, _), (1, _), (2, _)]) ⟨rfl, rfl, rfl, rfl, rfl, rfl, rfl, rfl, rfl, rfl, rfl, rfl, rfl, rfl, rfl, rfl, rfl, trivial⟩ <| ?_
          refine hnext1 (i + 1) ⟨rfl, rfl, rfl, rfl, rfl, rfl, rfl, rfl, rfl, rfl, rfl, trivial⟩ [2, 2, 2, 2] rfl [0] rfl (by omega) (by omega)
        · refine hcskip <| hthen <| hseq <| hblock <| hseq <| hreg <| hy (fun _ => y_move rfl) <| hy (fun _ => y_move rfl) <| hy (fun _ => y_idxS rfl rfl Tryd.underlying30 sz27 hA_b46 rfl (by omega)) <| hy (fun m => yV (y_ldN rfl ag27 sz27 (Sup.cs_len hL) (fun j u hu => rd_fld (m.ord 0 rfl) (hget j u hu))) ((rfl : _ = Value.agg L.cs.toArray))) <| ?_
          refine hx (xh_call rfl Tryd.call15 (rmaySC hL) [] rfl [] rfl ?_)
          rintro _ _ _ ⟨rfl, rfl, rfl⟩
          refine hy (fun _ => y_assign rfl) <| hend <| hsub (ρ' := [(11, _), (48, _), (10, _), (9, _), (29, _), (25, _), (18, _), (8, _), (7, _), (3, _), (0, _), (1, _), (2, _)]) ⟨rfl, rfl, rfl, rfl, rfl, rfl, rfl, rfl, rfl, rfl, rfl, rfl, rfl, trivial⟩ <| hmemQ (X' := [_, _, _, _]) (S' := [_]) (fun _ m => m) <| hthen <| hseq <| hreg <| ?_
          rw [decide_eq_false hm]
          refine hy (fun _ => y_move rfl) <| hy (fun _ => y_move rfl) <| hy (fun _ => y_idxS rfl rfl Tryd.underlying30 sz27 hA_b46 rfl (by omega)) <| hy (fun m => yV (y_ldN rfl ag27 sz27 (Sup.cs_len hL) (fun j u hu => rd_fld (m.ord 0 rfl) (hget j u hu))) ((rfl : _ = Value.agg L.cs.toArray))) <| ?_
          refine hx (xh_call rfl Tryd.call17 (ofSC hL) [] rfl [] rfl ?_)
          rintro _ _ _ ⟨rfl, rfl, rfl⟩
          refine hx (xh_call rfl Tryd.call16 (writeSupC hL) [] rfl [] rfl ?_)
          rintro _ _ _ ⟨v, rfl, rfl, rfl⟩
          refine hfactL (fun m => (m.own 0 rfl).slice) ?_
          rintro ⟨A_x, c_x, rfl, hc_x⟩
          refine hfactL (fun m => (m.ord 0 rfl).2.1) fun hA_x => ?_
          refine hy (fun _ => y_move rfl) <| hy (fun _ => y_extract rfl rfl) <| hy (fun _ => y_extract rfl rfl) <| hy (fun _ => y_assign rfl) <| hy (fun _ => y_assign rfl) <| hend <| hsub (ρ' := [(13, _), (12, _), (11, _), (48, _), (10, _), (9, _), (29, _), (25, _), (18, _), (8, _), (7, _), (3, _), (0, _), (1, _), (2, _)]) ⟨rfl, rfl, rfl, rfl, rfl, rfl, rfl, rfl, rfl, rfl, rfl, rfl, rfl, rfl, rfl, trivial⟩ <| hmemQ (X' := [_, _, _, _, _]) (S' := [_]) (fun _ m => m) <| hthen <| hseq <| hseq <| hreg <| ?_
          rw [if_neg hm, if_neg hm]
          refine hy (fun _ => y_move rfl) <| hy (fun _ => y_move rfl) <| hy (fun _ => y_idxS rfl rfl Tryd.underlying30 sz27 hA_b46 rfl (by omega)) <| hy (fun m => yV (y_ldN rfl ag27 sz27 (Sup.cs_len hL) (fun j u hu => rd_fld (m.ord 1 rfl) (hget j u hu))) ((rfl : _ = Value.agg L.cs.toArray))) <| ?_
          refine hx (xh_call rfl Tryd.call17 (ofSC hL) [] rfl [] rfl ?_)
          rintro _ _ _ ⟨rfl, rfl, rfl⟩
          refine hx (xh_call rfl Tryd.call18 (maySC hL) [] rfl [] rfl ?_)
          rintro _ _ _ ⟨rfl, rfl, rfl⟩
          rw [decide_eq_false hm]
          refine hy (fun _ => y_move rfl) <| hy (fun _ => yF (y_bne Tryd.underlying4 rfl rfl) (rfl)) <| hy (fun _ => y_move rfl) <| hyg (o := _) rfl rfl rfl (fun _ => y_move rfl) <| hyg (o := _) rfl rfl rfl (fun _ => yF (y_eql rfl rfl) (rfl)) <| hyg (o := _) rfl rfl rfl (fun _ => y_move rfl) <| hyg (o := _) rfl rfl rfl (fun _ => yF (y_bne Tryd.underlying4 rfl rfl) (rfl)) <| hy (fun _ => y_pickF rfl rfl) <| hy (fun _ => y_move rfl) <| hyg (o := _) rfl rfl rfl (fun _ => y_move rfl) <| hyg (o := _) rfl rfl rfl (fun _ => yT ((y_not rfl)) (rfl)) <| hyg (o := _) rfl rfl rfl (fun _ => y_move rfl) <| hyg (o := _) rfl rfl rfl (fun _ => y_move rfl) <| hyg (o := _) rfl rfl rfl (fun _ => yF (y_neq rfl rfl) (rfl)) <| hyg (o := _) rfl rfl rfl (fun _ => y_move rfl) <| hyg (o := _) rfl rfl rfl (fun _ => y_move rfl) <| hyg (o := _) rfl rfl rfl (fun _ => y_lenS rfl Tryd.underlying32) <| hyg (o := _) rfl rfl rfl (fun _ => yF (y_gtr rfl rfl) (rfl)) <| hyg (o := _) rfl rfl rfl (fun _ => y_pickF rfl rfl) <| hyg (o := _) rfl rfl rfl (fun _ => y_pickT rfl rfl) <| hy (fun _ => y_pickF rfl rfl) <| hend <| hsub (ρ' := [(91, _), (13, _), (12, _), (11, _), (48, _), (10, _), (9, _), (29, _), (25, _), (18, _), (8, _), (7, _), (3, _), (0, _), (1, _), (2, _)]) ⟨rfl, rfl, rfl, rfl, rfl, rfl, rfl, rfl, rfl, rfl, rfl, rfl, rfl, rfl, rfl, rfl, trivial⟩ <| hmemQ (X' := [_, _, _, _, _]) (S' := [_]) (fun _ m => m) <| hthen <| ?_
          refine hiff rfl (rfl) ?_
          refine hcskip <| hthen <| hseq <| hdrw [8, 9] [(0, some 0), (1, some 0), (2, some 2), (3, some 2), (4, some 0), (5, some 0), (6, some 0), (7, some 0), (8, none), (9, none), (10, some 2), (11, some 2)] (by kernel_rfl) (by kernel_rfl) rfl 99 <| htyU (y_move rfl) <| htyU (y_move rfl) <| htskip rfl rfl rfl (by decide) <| htskip rfl rfl rfl (by decide) <| htskip rfl rfl rfl (by decide) <| htskip rfl rfl rfl (by decide) <| htskip rfl rfl rfl (by decide) <| htskip rfl rfl rfl (by decide) <| htskipx rfl rfl rfl (by decide) (fun _ => wk [0, 0, 0, 0, 0] [0] rfl rfl) <| htskipx rfl rfl rfl (by decide) (fun _ => wk [0, 0, 0, 0, 0] [0] rfl rfl) <| htskip rfl rfl rfl (by decide) <| htyU (y_pickF rfl rfl) <| htend <| hsub (ρ' := [(103, _), (91, _), (13, _), (12, _), (11, _), (48, _), (10, _), (9, _), (29, _), (25, _), (18, _), (8, _), (7, _), (3, _), (0, _), (1, _), (2, _)]) ⟨rfl, rfl, rfl, rfl, rfl, rfl, rfl, rfl, rfl, rfl, rfl, rfl, rfl, rfl, rfl, rfl, rfl, trivial⟩ <| hthen <| ?_
          refine hiff rfl (rfl) ?_
          refine hcskip <| hqblock <| hthen <| hreg <| hy (fun _ => y_move rfl) <| hy (fun _ => y_add rfl rfl (w64 (by omega) (by omega))) <| hy (fun _ => y_assign rfl) <| hend <| hsub (ρ' := [(10, _), (103, _), (91, _), (13, _), (12, _), (11, _), (48, _), (9, _), (29, _), (25, _), (18, _), (8, _), (7, _), (3, _), (0, _), (1, _), (2, _)]) ⟨rfl, rfl, rfl, rfl, rfl, rfl, rfl, rfl, rfl, rfl, rfl, rfl, rfl, rfl, rfl, rfl, rfl, trivial⟩ <| ?_
          refine hnext1 (i + 1) ⟨rfl, rfl, rfl, rfl, rfl, rfl, rfl, rfl, rfl, rfl, rfl, trivial⟩ [1, 1, 1, 1] rfl [0] rfl (by omega) (by omega)
      · refine hexit <| hthen_exit <| hthen_exit <| hqblock_exit <| hthen <| hseq <| hreg <| ?_
        refine hx (xh_call rfl Tryd.call20 (lives22C) [] rfl [0] rfl ?_)
        rintro _ _ _ ⟨rfl, rfl, rfl⟩
        refine hy (fun _ => y_assign rfl) <| hend <| hsub (ρ' := [(6, _), (48, _), (10, _), (9, _), (29, _), (25, _), (18, _), (8, _), (7, _), (3, _), (0, _), (1, _), (2, _)]) ⟨rfl, rfl, rfl, rfl, rfl, rfl, rfl, rfl, rfl, rfl, rfl, rfl, rfl, trivial⟩ <| hmemQ (X' := [_, _, _, _]) (S' := [_]) (fun _ m => m) <| hthen <| hret <| ?_
        exact hret1 trivial rfl rfl [] rfl [] rfl ⟨rfl, rfl, rfl⟩
    · refine hseq <| hreg <| hy (fun _ => y_eql rfl rfl) <| hy (fun _ => y_assign rfl) <| hend <| hsub (ρ' := [(33, _), (29, _), (25, _), (18, _), (8, _), (7, _), (6, _), (3, _), (0, _), (1, _), (2, _)]) ⟨rfl, rfl, rfl, rfl, rfl, rfl, rfl, rfl, rfl, rfl, rfl, trivial⟩ <| hthen <| ?_
      refine hif rfl (fun h2 => ?_) (fun h2 => ?_)
      · have hO : (Sup.mk s.good.active s.good.gen ⟨s.good.s0.full, s.good.s0.image, n⟩ s.good.s1).wf := ⟨hG.a0, hG.a1, hG.g0, hG.g1, ⟨hG.w0.len, hn.1, hn.2⟩, hG.w1⟩
        refine hreg <| hy (fun _ => y_move rfl) <| hy (fun _ => y_fld rfl fa27_2 (by decide)) <| hy (fun _ => y_fld rfl fa25_2 (by decide)) <| ?_
        refine hx0 (xh_st1a 0 rfl rfl rfl sz3 rfl (by rw [Sup.cs_len hG]; first | decide | (dsimp only; omega)) ?_)
        refine hmemL (fun w m => m.eqX 0 rfl (show _ = RBlk g8 27 (Sup.mk s.good.active s.good.gen ⟨s.good.s0.full, s.good.s0.image, n⟩ s.good.s1).cs from congrArg (RBlk _ _) (sup_set35 hG))) ?_
        refine hend <| hsub (ρ' := [(33, _), (29, _), (25, _), (18, _), (8, _), (7, _), (6, _), (3, _), (0, _), (1, _), (2, _)]) ⟨rfl, rfl, rfl, rfl, rfl, rfl, rfl, rfl, rfl, rfl, rfl, trivial⟩ <| hmemQ (X' := [_, _, _]) (S' := [_]) (fun _ m => m) <| hqblock <| hthen <| hseq <| hreg <| hy (fun m => yV (y_ldN rfl ag27 sz27 (Sup.cs_len h) ((m.blk 2 rfl).cells0)) ((rfl : _ = Value.agg s.cs.toArray))) <| hy (fun m => yV (y_ldN rfl ag27 sz27 (Sup.cs_len hG) ((m.blk 1 rfl).cells0)) ((rfl : _ = Value.agg s.good.cs.toArray))) <| hy (fun m => yV (y_ldN rfl ag27 sz27 (Sup.cs_len hO) ((m.blk 0 rfl).cells0)) ((rfl : _ = Value.agg (Sup.mk s.good.active s.good.gen ⟨s.good.s0.full, s.good.s0.image, n⟩ s.good.s1).cs.toArray))) <| ?_
        refine hx (xh_bsl Tryd.underlying30 ti27 rfl rfl rfl (by simp [Value.cells, Sup.cs_len h, Sup.cs_len hG, Sup.cs_len hO]) (by decide) (by decide) (fun g46 => ?_))
        have hA_b46 : 0 < 3 → (some (⟨g46, 0, none⟩ : Addr)) ≠ none := fun _ h => by cases h
        refine hy (fun _ => y_assign rfl) <| hend <| hsub (ρ' := [(9, _), (33, _), (29, _), (25, _), (18, _), (8, _), (7, _), (6, _), (3, _), (0, _), (1, _), (2, _)]) ⟨rfl, rfl, rfl, rfl, rfl, rfl, rfl, rfl, rfl, rfl, rfl, rfl, trivial⟩ <| hmemQ (X' := [_, _, _, _]) (S' := [_]) (fun _ m => m) <| hthen <| hseq <| hseq <| hreg <| hy (fun _ => y_assign rfl) <| hend <| hthen <| hblock <| ?_
        refine hmemC (fun w m => m.eqX 0 rfl (show _ = ROwn 27 70 (.slice (some ⟨g46, 0, none⟩) 3 3) 3 (s.cs ++ (s.good.cs ++ (Sup.mk s.good.active s.good.gen ⟨s.good.s0.full, s.good.s0.image, n⟩ s.good.s1).cs)) from congrArg (ROwn _ _ _ _) (by simp [Value.cells]))) ?_
        refine hloop1 (fun i => 3 - i) (fun i => [(10, .int .i64 (i : Nat))]) (fun i => []) (fun i => []) (fun i => i ≤ 3) 0 [(9, _), (33, _), (29, _), (25, _), (18, _), (8, _), (7, _), (3, _), (0, _), (1, _), (2, _)] ⟨rfl, rfl, rfl, rfl, rfl, rfl, rfl, rfl, rfl, rfl, rfl, trivial⟩ [] rfl [] rfl (by decide) ⟨rfl, trivial⟩ (fun i hi3 => ?_)
        refine hseq <| hseq <| hreg <| hy (fun _ => y_move rfl) <| hy (fun _ => y_lss rfl rfl) <| hend <| hsub (ρ' := [(48, _), (10, _), (9, _), (33, _), (29, _), (25, _), (18, _), (8, _), (7, _), (3, _), (0, _), (1, _), (2, _)]) ⟨rfl, rfl, rfl, rfl, rfl, rfl, rfl, rfl, rfl, rfl, rfl, rfl, rfl, trivial⟩ <| hthen <| ?_
        refine hif rfl (fun hlt => ?_) (fun hlt => ?_)
        · have hi : i < 3 := by omega
          have hL := tri_wf h hG hO i
          have hget := fun (j : Nat) (u : Value) (hu : (tri s s.good (Sup.mk s.good.active s.good.gen ⟨s.good.s0.full, s.good.s0.image, n⟩ s.good.s1) i).cs[j]? = some u) => tri_get h hG hi hu hO
          generalize tri s s.good (Sup.mk s.good.active s.good.gen ⟨s.good.s0.full, s.good.s0.image, n⟩ s.good.s1) i = L at hL hget
          by_cases hm : L.may
          · refine hcskip <| hthen <| hseq <| hblock <| hseq <| hreg <| hy (fun _ => y_move rfl) <| hy (fun _ => y_move rfl) <| hy (fun _ => y_idxS rfl rfl Tryd.underlying30 sz27 hA_b46 rfl (by omega)) <| hy (fun m => yV (y_ldN rfl ag27 sz27 (Sup.cs_len hL) (fun j u hu => rd_fld (m.ord 0 rfl) (hget j u hu))) ((rfl : _ = Value.agg L.cs.toArray))) <| ?_
            refine hx (xh_call rfl Tryd.call15 (rmaySC hL) [] rfl [] rfl ?_)
            rintro _ _ _ ⟨rfl, rfl, rfl⟩
            refine hy (fun _ => y_assign rfl) <| hend <| hsub (ρ' := [(11, _), (48, _), (10, _), (9, _), (33, _), (29, _), (25, _), (18, _), (8, _), (7, _), (3, _), (0, _), (1, _), (2, _)]) ⟨rfl, rfl, rfl, rfl, rfl, rfl, rfl, rfl, rfl, rfl, rfl, rfl, rfl, rfl, trivial⟩ <| hmemQ (X' := [_, _, _, _]) (S' := [_]) (fun _ m => m) <| hthen <| hseq <| hreg <| ?_
            rw [decide_eq_true hm]
            refine hy (fun _ => y_move rfl) <| hy (fun _ => y_move rfl) <| hy (fun _ => y_idxS rfl rfl Tryd.underlying30 sz27 hA_b46 rfl (by omega)) <| hy (fun m => yV (y_ldN rfl ag27 sz27 (Sup.cs_len hL) (fun j u hu => rd_fld (m.ord 0 rfl) (hget j u hu))) ((rfl : _ = Value.agg L.cs.toArray))) <| ?_
            refine hx (xh_call rfl Tryd.call17 (ofSC hL) [] rfl [] rfl ?_)
            rintro _ _ _ ⟨rfl, rfl, rfl⟩
            refine hx (xh_call rfl Tryd.call16 (writeSupC hL) [] rfl [] rfl ?_)
            rintro _ _ _ ⟨v, rfl, rfl, rfl⟩
            refine hfactL (fun m => (m.own 0 rfl).slice) ?_
            rintro ⟨A_x, c_x, rfl, hc_x⟩
            refine hfactL (fun m => (m.ord 0 rfl).2.1) fun hA_x => ?_
            refine hy (fun _ => y_move rfl) <| hy (fun _ => y_extract rfl rfl) <| hy (fun _ => y_extract rfl rfl) <| hy (fun _ => y_assign rfl) <| hy (fun _ => y_assign rfl) <| hend <| hsub (ρ' := [(13, _), (12, _), (11, _), (48, _), (10, _), (9, _), (33, _), (29, _), (25, _), (18, _), (8, _), (7, _), (3, _), (0, _), (1, _), (2, _)]) ⟨rfl, rfl, rfl, rfl, rfl, rfl, rfl, rfl, rfl, rfl, rfl, rfl, rfl, rfl, rfl, rfl, trivial⟩ <| hmemQ (X' := [_, _, _, _, _]) (S' := [_]) (fun _ m => m) <| hthen <| hseq <| hseq <| hreg <| ?_
            rw [if_pos hm, if_pos hm]
            refine hy (fun _ => y_move rfl) <| hy (fun _ => y_move rfl) <| hy (fun _ => y_idxS rfl rfl Tryd.underlying30 sz27 hA_b46 rfl (by omega)) <| hy (fun m => yV (y_ldN rfl ag27 sz27 (Sup.cs_len hL) (fun j u hu => rd_fld (m.ord 1 rfl) (hget j u hu))) ((rfl : _ = Value.agg L.cs.toArray))) <| ?_
            refine hx (xh_call rfl Tryd.call17 (ofSC hL) [] rfl [] rfl ?_)
            rintro _ _ _ ⟨rfl, rfl, rfl⟩
            refine hx (xh_call rfl Tryd.call18 (maySC hL) [] rfl [] rfl ?_)
            rintro _ _ _ ⟨rfl, rfl, rfl⟩
            rw [decide_eq_true hm]
            refine hy (fun _ => y_move rfl) <| hy (fun _ => yF (y_bne Tryd.underlying4 rfl rfl) (rfl)) <| hy (fun _ => y_move rfl) <| hyg (o := _) rfl rfl rfl (fun _ => y_move rfl) <| hyg (o := _) rfl rfl rfl (fun _ => yT (y_eql rfl rfl) (rfl)) <| hyg (o := _) rfl rfl rfl (fun _ => y_move rfl) <| hyg (o := _) rfl rfl rfl (fun _ => yF (y_bne Tryd.underlying4 rfl rfl) (rfl)) <| hy (fun _ => y_pickF rfl rfl) <| hy (fun _ => y_move rfl) <| hyg (o := _) rfl rfl rfl (fun _ => y_move rfl) <| hyg (o := _) rfl rfl rfl (fun _ => yF ((y_not rfl)) (rfl)) <| hyg (o := _) rfl rfl rfl (fun _ => y_move rfl) <| hskip rfl rfl rfl (by decide) <| hskip rfl rfl rfl (by decide) <| hskip rfl rfl rfl (by decide) <| hskipU rfl rfl rfl <| hskipU rfl rfl rfl <| hskipU rfl rfl rfl <| hskip rfl rfl rfl (by decide) <| hyg (o := _) rfl rfl rfl (fun _ => y_pickF rfl rfl) <| hy (fun _ => y_pickF rfl rfl) <| hend <| hsub (ρ' := [(91, _), (13, _), (12, _), (11, _), (48, _), (10, _), (9, _), (33, _), (29, _), (25, _), (18, _), (8, _), (7, _), (3, _), (0, _), (1, _), (2, _)]) ⟨rfl, rfl, rfl, rfl, rfl, rfl, rfl, rfl, rfl, rfl, rfl, rfl, rfl, rfl, rfl, rfl, rfl, trivial⟩ <| hmemQ (X' := [_, _, _, _, _]) (S' := [_]) (fun _ m => m) <| hthen <| ?_
            refine hiff rfl (rfl) ?_
            refine hcskip <| hthen <| hseq <| hdrw [8, 9] [(0, some 0), (1, some 0), (2, some 2), (3, some 2), (4, some 0), (5, some 0), (6, some 0), (7, some 0), (8, none), (9, none), (10, some 2), (11, some 2)] (by kernel_rfl) (by kernel_rfl) rfl 99 <| htyU (y_move rfl) <| htyU (y_move rfl) <| htyUg (o := _) rfl rfl rfl (y_move rfl) <| htyg (o := _) rfl rfl rfl (fun m => y_b2s rfl Tryd.underlying32 Tryd.underlying5 Tryd.underlying9 (m.ord 0 rfl)) <| htyUg (o := _) rfl rfl rfl (y_move rfl) <| htyUg (o := _) rfl rfl rfl (y_move rfl) <| htyUg (o := _) rfl rfl rfl (y_idxS rfl rfl Tryd.underlying30 sz27 hA_b46 rfl (by omega)) <| htyg (o := _) rfl rfl rfl (fun m => yV (y_ldN rfl ag27 sz27 (Sup.cs_len hL) (fun j u hu => rd_fld (m.ord 1 rfl) (hget j u hu))) ((rfl : _ = Value.agg L.cs.toArray))) <| ?_
            refine htxg (o := _) rfl rfl rfl (xh_call rfl Tryd.call19 (rbytesSC hL hm) [] rfl [] rfl ?_)
            rintro _ _ _ ⟨v2, rfl, rfl, rfl⟩
            refine ⟨(fun _ => wk [1, 1, 1, 1, 1] [0] rfl rfl), ?_⟩
            refine htfact (fun m => (m.own 0 rfl).slice) ?_
            rintro ⟨A_x2, c_x2, rfl, hc_x2⟩
            refine htfact (fun m => (m.ord 0 rfl).2.1) fun hA_x2 => ?_
            refine htsg (o := _) rfl rfl rfl (fun _ => wk [1, 1, 1, 1, 1] [0] rfl rfl) (fun m => y_b2s rfl Tryd.underlying32 Tryd.underlying5 Tryd.underlying9 (m.ord 0 rfl)) <| htyUg (o := _) rfl rfl rfl (yF (y_sne rfl rfl) ((decide_eq_false (fun h => h rfl)))) <| htyU (y_pickT rfl rfl) <| htend <| hsub (ρ' := [(103, _), (91, _), (13, _), (12, _), (11, _), (48, _), (10, _), (9, _), (33, _), (29, _), (25, _), (18, _), (8, _), (7, _), (3, _), (0, _), (1, _), (2, _)]) ⟨rfl, rfl, rfl, rfl, rfl, rfl, rfl, rfl, rfl, rfl, rfl, rfl, rfl, rfl, rfl, rfl, rfl, rfl, trivial⟩ <| hmemQ (X' := [_, _, _, _, _, _]) (S' := [_]) (fun _ m => m) <| hthen <| ?_
            refine hiff rfl (rfl) ?_
            refine hcskip <| hqblock <| hthen <| hreg <| hy (fun _ => y_move rfl) <| hy (fun _ => y_add rfl rfl (w64 (by omega) (by omega))) <| hy (fun _ => y_assign rfl) <| hend <| hsub (ρ' := [(10, _), (103, _), (91, _), (13, _), (12, _), (11, _), (48, _), (9, _), (33, _), (29, _), (25, _), (18, _), (8, _), (7, _), (3, _), (0, _), (1, _), (2, _)]) ⟨rfl, rfl, rfl, rfl, rfl, rfl, rfl, rfl, rfl, rfl, rfl, rfl, rfl, rfl, rfl, rfl, rfl, rfl, trivial⟩ <| ?_
            refine hnext1 (i + 1) ⟨rfl, rfl, rfl, rfl, rfl, rfl, rfl, rfl, rfl, rfl, rfl, rfl, trivial⟩ [2, 2, 2, 2] rfl [0] rfl (by omega) (by omega)
          · refine hcskip <| hthen <| hseq <| hblock <| hseq <| hreg <| hy (fun _ => y_move rfl) <| hy (fun _ => y_move rfl) <| hy (fun _ => y_idxS rfl rfl Tryd.underlying30 sz27 hA_b46 rfl (by omega)) <| hy (fun m => yV (y_ldN rfl ag27 sz27 (Sup.cs_len hL) (fun j u hu => rd_fld (m.ord 0 rfl) (hget j u hu))) ((rfl : _ = Value.agg L.cs.toArray))) <| ?_
            refine hx (xh_call rfl Tryd.call15 (rmaySC hL) [] rfl [] rfl ?_)
            rintro _ _ _ ⟨rfl, rfl, rfl⟩
            refine hy (fun _ => y_assign rfl) <| hend <| hsub (ρ' := [(11, _), (48, _), (10, _), (9, _), (33, _), (29, _), (25, _), (18, _), (8, _), (7, _), (3, _), (0, _), (1, _), (2, _)]) ⟨rfl, rfl, rfl, rfl, rfl, rfl, rfl, rfl, rfl, rfl, rfl, rfl, rfl, rfl, trivial⟩ <| hmemQ (X' := [_, _, _, _]) (S' := [_]) (fun _ m => m) <| hthen <| hseq <| hreg <| ?_
            rw [decide_eq_false hm]
            refine hy (fun _ => y_move rfl) <| hy (fun _ => y_move rfl) <| hy (fun _ => y_idxS rfl rfl Tryd.underlying30 sz27 hA_b46 rfl (by omega)) <| hy (fun m => yV (y_ldN rfl ag27 sz27 (Sup.cs_len hL) (fun j u hu => rd_fld (m.ord 0 rfl) (hget j u hu))) ((rfl : _ = Value.agg L.cs.toArray))) <| ?_
            refine hx (xh_call rfl Tryd.call17 (ofSC hL) [] rfl [] rfl ?_)
            rintro _ _ _ ⟨rfl, rfl, rfl⟩
            refine hx (xh_call rfl Tryd.call16 (writeSupC hL) [] rfl [] rfl ?_)
            rintro _ _ _ ⟨v, rfl, rfl, rfl⟩
            refine hfactL (fun m => (m.own 0 rfl).slice) ?_
            rintro ⟨A_x, c_x, rfl, hc_x⟩
            refine hfactL (fun m => (m.ord 0 rfl).2.1) fun hA_x => ?_
            refine hy (fun _ => y_move rfl) <| hy (fun _ => y_extract rfl rfl) <| hy (fun _ => y_extract rfl rfl) <| hy (fun _ => y_assign rfl) <| hy (fun _ => y_assign rfl) <| hend <| hsub (ρ' := [(13, _), (12, _), (11, _), (48, _), (10, _), (9, _), (33, _), (29, _), (25, _), (18, _), (8, _), (7, _), (3, _), (0, _), (1, _), (2, _)]) ⟨rfl, rfl, rfl, rfl, rfl, rfl, rfl, rfl, rfl, rfl, rfl, rfl, rfl, rfl, rfl, rfl, trivial⟩ <| hmemQ (X' := [_, _, _, _, _]) (S' := [_]) (fun _ m => m) <| hthen <| hseq <| hseq <| hreg <| ?_
            rw [if_neg hm, if_neg hm]
            refine hy (fun _ => y_move rfl) <| hy (fun _ => y_move rfl) <| hy (fun _ => y_idxS rfl rfl Tryd.underlying30 sz27 hA_b46 rfl (by omega)) <| hy (fun m => yV (y_ldN rfl ag27 sz27 (Sup.cs_len hL) (fun j u hu => rd_fld (m.ord 1 rfl) (hget j u hu))) ((rfl : _ = Value.agg L.cs.toArray))) <| ?_
            refine hx (xh_call rfl Tryd.call17 (ofSC hL) [] rfl [] rfl ?_)
            rintro _ _ _ ⟨rfl, rfl, rfl⟩
            refine hx (xh_call rfl Tryd.call18 (maySC hL) [] rfl [] rfl ?_)
            rintro _ _ _ ⟨rfl, rfl, rfl⟩
            rw [decide_eq_false hm]
            refine hy (fun _ => y_move rfl) <| hy (fun _ => yF (y_bne Tryd.underlying4 rfl rfl) (rfl)) <| hy (fun _ => y_move rfl) <| hyg (o := _) rfl rfl rfl (fun _ => y_move rfl) <| hyg (o := _) rfl rfl rfl (fun _ => yF (y_eql rfl rfl) (rfl)) <| hyg (o := _) rfl rfl rfl (fun _ => y_move rfl) <| hyg (o := _) rfl rfl rfl (fun _ => yF (y_bne Tryd.underlying4 rfl rfl) (rfl)) <| hy (fun _ => y_pickF rfl rfl) <| hy (fun _ => y_move rfl) <| hyg (o := _) rfl rfl rfl (fun _ => y_move rfl) <| hyg (o := _) rfl rfl rfl (fun _ => yT ((y_not rfl)) (rfl)) <| hyg (o := _) rfl rfl rfl (fun _ => y_move rfl) <| hyg (o := _) rfl rfl rfl (fun _ => y_move rfl) <| hyg (o := _) rfl rfl rfl (fun _ => yF (y_neq rfl rfl) (rfl)) <| hyg (o := _) rfl rfl rfl (fun _ => y_move rfl) <| hyg (o := _) rfl rfl rfl (fun _ => y_move rfl) <| hyg (o := _) rfl rfl rfl (fun _ => y_lenS rfl Tryd.underlying32) <| hyg (o := _) rfl rfl rfl (fun _ => yF (y_gtr rfl rfl) (rfl)) <| hyg (o := _) rfl rfl rfl (fun _ => y_pickF rfl rfl) <| hyg (o := _) rfl rfl rfl (fun _ => y_pickT rfl rfl) <| hy (fun _ => y_pickF rfl rfl) <| hend <| hsub (ρ' := [(91, _), (13, _), (12, _), (11, _), (48, _), (10, _), (9, _), (33, _), (29, _), (25, _), (18, _), (8, _), (7, _), (3, _), (0, _), (1, _), (2, _)]) ⟨rfl, rfl, rfl, rfl, rfl, rfl, rfl, rfl, rfl, rfl, rfl, rfl, rfl, rfl, rfl, rfl, rfl, trivial⟩ <| hmemQ (X' := [_, _, _, _, _]) (S' := [_]) (fun _ m => m) <| hthen <| ?_
            refine hiff rfl (rfl) ?_
            refine hcskip <| hthen <| hseq <| hdrw [8, 9] [(0, some 0), (1, some 0), (2, some 2), (3, some 2), (4, some 0), (5, some 0), (6, some 0), (7, some 0), (8, none), (9, none), (10, some 2), (11, some 2)] (by kernel_rfl) (by kernel_rfl) rfl 99 <| htyU (y_move rfl) <| htyU (y_move rfl) <| htskip rfl rfl rfl (by decide) <| htskip rfl rfl rfl (by decide) <| htskip rfl rfl rfl (by decide) <| htskip rfl rfl rfl (by decide) <| htskip rfl rfl rfl (by decide) <| htskip rfl rfl rfl (by decide) <| htskipx rfl rfl rfl (by decide) (fun _ => wk [0, 0, 0, 0, 0] [0] rfl rfl) <| htskipx rfl rfl rfl (by decide) (fun _ => wk [0, 0, 0, 0, 0] [0] rfl rfl) <| htskip rfl rfl rfl (by decide) <| htyU (y_pickF rfl rfl) <| htend <| hsub (ρ' := [(103, _), (91, _), (13, _), (12, _), (11, _), (48, _), (10, _), (9, _), (33, _), (29, _), (25, _), (18, _), (8, _), (7, _), (3, _), (0, _), (1, _), (2, _)]) ⟨rfl, rfl, rfl, rfl, rfl, rfl, rfl, rfl, rfl, rfl, rfl, rfl, rfl, rfl, rfl, rfl, rfl, rfl, trivial⟩ <| hthen <| ?_
            refine hiff rfl (rfl) ?_
            refine hcskip <| hqblock <| hthen <| hreg <| hy (fun _ => y_move rfl) <| hy (fun _ => y_add rfl rfl (w64 (by omega) (by omega))) <| hy (fun _ => y_assign rfl) <| hend <| hsub (ρ' := [(10, _), (103, _), (91, _), (13, _), (12, _), (11, _), (48, _), (9, _), (33, _), (29, _), (25, _), (18, _), (8, _), (7, _), (3, _), (0, _), (1, _), (2, _)]) ⟨rfl, rfl, rfl, rfl, rfl, rfl, rfl, rfl, rfl, rfl, rfl, rfl, rfl, rfl, rfl, rfl, rfl, rfl, trivial⟩ <| ?_
            refine hnext1 (i + 1) ⟨rfl, rfl, rfl, rfl, rfl, rfl, rfl, rfl, rfl, rfl, rfl, rfl, trivial⟩ [1, 1, 1, 1] rfl [0] rfl (by omega) (by omega)
        · refine hexit <| hthen_exit <| hthen_exit <| hqblock_exit <| hthen <| hseq <| hreg <| ?_
          refine hx (xh_call rfl Tryd.call20 (lives22C) [] rfl [0] rfl ?_)
          rintro _ _ _ ⟨rfl, rfl, rfl⟩
          refine hy (fun _ => y_assign rfl) <| hend <| hsub (ρ' := [(6, _), (48, _), (10, _), (9, _), (33, _), (29, _), (25, _), (18, _), (8, _), (7, _), (3, _), (0, _), (1, _), (2, _)]) ⟨rfl, rfl, rfl, rfl, rfl, rfl, rfl, rfl, rfl, rfl, rfl, rfl, rfl, rfl, trivial⟩ <| hmemQ (X' := [_, _, _, _]) (S' := [_]) (fun _ m => m) <| hthen <| hret <| ?_
          exact hret1 trivial rfl rfl [] rfl [] rfl ⟨rfl, rfl, rfl⟩
      · refine hseq <| hreg <| hy (fun _ => y_eql rfl rfl) <| hy (fun _ => y_assign rfl) <| hend <| hsub (ρ' := [(38, _), (33, _), (29, _), (25, _), (18, _), (8, _), (7, _), (6, _), (3, _), (0, _), (1, _), (2, _)]) ⟨rfl, rfl, rfl, rfl, rfl, rfl, rfl, rfl, rfl, rfl, rfl, rfl, trivial⟩ <| hthen <| ?_
        refine hif rfl (fun h3 => ?_) (fun h3 => ?_)
        · have hO : (Sup.mk s.good.active s.good.gen s.good.s0 ⟨s.good.s1.full, s.good.s1.image, n⟩).wf := ⟨hG.a0, hG.a1, hG.g0, hG.g1, hG.w0, ⟨hG.w1.len, hn.1, hn.2⟩⟩
          refine hreg <| hy (fun _ => y_move rfl) <| hy (fun _ => y_fld rfl fa27_3 (by decide)) <| hy (fun _ => y_fld rfl fa25_2 (by decide)) <| ?_
          refine hx0 (xh_st1a 0 rfl rfl rfl sz3 rfl (by rw [Sup.cs_len hG]; first | decide | (dsimp only; omega)) ?_)
          refine hmemL (fun w m => m.eqX 0 rfl (show _ = RBlk g8 27 (Sup.mk s.good.active s.good.gen s.good.s0 ⟨s.good.s1.full, s.good.s1.image, n⟩).cs from congrArg (RBlk _ _) (sup_set69 hG))) ?_
          refine hend <| hsub (ρ' := [(38, _), (33, _), (29, _), (25, _), (18, _), (8, _), (7, _), (6, _), (3, _), (0, _), (1, _), (2, _)]) ⟨rfl, rfl, rfl, rfl, rfl, rfl, rfl, rfl, rfl, rfl, rfl, rfl, trivial⟩ <| hmemQ (X' := [_, _, _]) (S' := [_]) (fun _ m => m) <| hqblock <| hthen <| hseq <| hreg <| hy (fun m => yV (y_ldN rfl ag27 sz27 (Sup.cs_len h) ((m.blk 2 rfl).cells0)) ((rfl : _ = Value.agg s.cs.toArray))) <| hy (fun m => yV (y_ldN rfl ag27 sz27 (Sup.cs_len hG) ((m.blk 1 rfl).cells0)) ((rfl : _ = Value.agg s.good.cs.toArray))) <| hy (fun m => yV (y_ldN rfl ag27 sz27 (Sup.cs_len hO) ((m.blk 0 rfl).cells0)) ((rfl : _ = Value.agg (Sup.mk s.good.active s.good.gen s.good.s0 ⟨s.good.s1.full, s.good.s1.image, n⟩).cs.toArray))) <| ?_
          refine hx (xh_bsl Tryd.underlying30 ti27 rfl rfl rfl (by simp [Value.cells, Sup.cs_len h, Sup.cs_len hG, Sup.cs_len hO]) (by decide) (by decide) (fun g46 => ?_))
          have hA_b46 : 0 < 3 → (some (⟨g46, 0, none⟩ : Addr)) ≠ none := fun _ h => by cases h
          refine hy (fun _ => y_assign rfl) <| hend <| hsub (ρ' := [(9, _), (38, _), (33, _), (29, _), (25, _), (18, _), (8, _), (7, _), (6, _), (3, _), (0, _), (1, _), (2, _)]) ⟨rfl, rfl, rfl, rfl, rfl, rfl, rfl, rfl, rfl, rfl, rfl, rfl, rfl, trivial⟩ <| hmemQ (X' := [_, _, _, _]) (S' := [_]) (fun _ m => m) <| hthen <| hseq <| hseq <| hreg <| hy (fun _ => y_assign rfl) <| hend <| hthen <| hblock <| ?_
          refine hmemC (fun w m => m.eqX 0 rfl (show _ = ROwn 27 70 (.slice (some ⟨g46, 0, none⟩) 3 3) 3 (s.cs ++ (s.good.cs ++ (Sup.mk s.good.active s.good.gen s.good.s0 ⟨s.good.s1.full, s.good.s1.image, n⟩).cs)) from congrArg (ROwn _ _ _ _) (by simp [Value.cells]))) ?_
          refine hloop1 (fun i => 3 - i) (fun i => [(10, .int .i64 (i : Nat))]) (fun i => []) (fun i => []) (fun i => i ≤ 3) 0 [(9, _), (38, _), (33, _), (29, _), (25, _), (18, _), (8, _), (7, _), (3, _), (0, _), (1, _), (2, _)] ⟨rfl, rfl, rfl, rfl, rfl, rfl, rfl, rfl, rfl, rfl, rfl, rfl, trivial⟩ [] rfl [] rfl (by decide) ⟨rfl, trivial⟩ (fun i hi3 => ?_)
          refine hseq <| hseq <| hreg <| hy (fun _ => y_move rfl) <| hy (fun _ => y_lss rfl rfl) <| hend <| hsub (ρ' := [(48, _), (10, _), (9, _), (38, _), (33, _), (29, _), (25, _), (18, _), (8, _), (7, _), (3, _), (0, _), (1, _), (2, _)]) ⟨rfl, rfl, rfl, rfl, rfl, rfl, rfl, rfl, rfl, rfl, rfl, rfl, rfl, rfl, trivial⟩ <| hthen <| ?_
          refine hif rfl (fun hlt => ?_) (fun hlt => ?_)
          · have hi : i < 3 := by omega
            have hL := tri_wf h hG hO i
            have hget := fun (j : Nat) (u : Value) (hu : (tri s s.good (Sup.mk s.good.active s.good.gen s.good.s0 ⟨s.good.s1.full, s.good.s1.image, n⟩) i).cs[j]? = some u) => tri_get h hG hi hu hO
            generalize tri s s.good (Sup.mk s.good.active s.good.gen s.good.s0 ⟨s.good.s1.full, s.good.s1.image, n⟩) i = L at hL hget
            by_cases hm : L.may
            · refine hcskip <| hthen <| hseq <| hblock <| hseq <| hreg <| hy (fun _ => y_move rfl) <| hy (fun _ => y_move rfl) <| hy (fun _ => y_idxS rfl rfl Tryd.underlying30 sz27 hA_b46 rfl (by omega)) <| hy (fun m => yV (y_ldN rfl ag27 sz27 (Sup.cs_len hL) (fun j u hu => rd_fld (m.ord 0 rfl) (hget j u hu))) ((rfl : _ = Value.agg L.cs.toArray))) <| ?_
              refine hx (xh_call rfl Tryd.call15 (rmaySC hL) [] rfl [] rfl ?_)
              rintro _ _ _ ⟨rfl, rfl, rfl⟩
              refine hy (fun _ => y_assign rfl) <| hend <| hsub (ρ' := [(11, _), (48, _), (10, _), (9, _), (38, _), (33, _), (29, _), (25, _), (18, _), (8, _), (7, _), (3, _), (0, _), (1, _), (2, _)]) ⟨rfl, rfl, rfl, rfl, rfl, rfl, rfl, rfl, rfl, rfl, rfl, rfl, rfl, rfl, rfl, trivial⟩ <| hmemQ (X' := [_, _, _, _]) (S' := [_]) (fun _ m => m) <| hthen <| hseq <| hreg <| ?_
              rw [decide_eq_true hm]
              refine hy (fun _ => y_move rfl) <| hy (fun _ => y_move rfl) <| hy (fun _ => y_idxS rfl rfl Tryd.underlying30 sz27 hA_b46 rfl (by omega)) <| hy (fun m => yV (y_ldN rfl ag27 sz27 (Sup.cs_len hL) (fun j u hu => rd_fld (m.ord 0 rfl) (hget j u hu))) ((rfl : _ = Value.agg L.cs.toArray))) <| ?_
              refine hx (xh_call rfl Tryd.call17 (ofSC hL) [] rfl [] rfl ?_)
              rintro _ _ _ ⟨rfl, rfl, rfl⟩
              refine hx (xh_call rfl Tryd.call16 (writeSupC hL) [] rfl [] rfl ?_)
              rintro _ _ _ ⟨v, rfl, rfl, rfl⟩
              refine hfactL (fun m => (m.own 0 rfl).slice) ?_
              rintro ⟨A_x, c_x, rfl, hc_x⟩
              refine hfactL (fun m => (m.ord 0 rfl).2.1) fun hA_x => ?_
              refine hy (fun _ => y_move rfl) <| hy (fun _ => y_extract rfl rfl) <| hy (fun _ => y_extract rfl rfl) <| hy (fun _ => y_assign rfl) <| hy (fun _ => y_assign rfl) <| hend <| hsub (ρ' := [(13, _), (12, _), (11, _), (48, _), (10, _), (9, _), (38, _), (33, _), (29, _), (25, _), (18, _), (8, _), (7, _), (3, _), (0, _), (1, _), (2, _)]) ⟨rfl, rfl, rfl, rfl, rfl, rfl, rfl, rfl, rfl, rfl, rfl, rfl, rfl, rfl, rfl, rfl, rfl, trivial⟩ <| hmemQ (X' := [_, _, _, _, _]) (S' := [_]) (fun _ m => m) <| hthen <| hseq <| hseq <| hreg <| ?_
              rw [if_pos hm, if_pos hm]
              refine hy (fun _ => y_move rfl) <| hy (fun _ => y_move rfl) <| hy (fun _ => y_idxS rfl rfl Tryd.underlying30 sz27 hA_b46 rfl (by omega)) <| hy (fun m => yV (y_ldN rfl ag27 sz27 (Sup.cs_len hL) (fun j u hu => rd_fld (m.ord 1 rfl) (hget j u hu))) ((rfl : _ = Value.agg L.cs.toArray))) <| ?_
              refine hx (xh_call rfl Tryd.call17 (ofSC hL) [] rfl [] rfl ?_)
              rintro _ _ _ ⟨rfl, rfl, rfl⟩
              refine hx (xh_call rfl Tryd.call18 (maySC hL) [] rfl [] rfl ?_)
              rintro _ _ _ ⟨rfl, rfl, rfl⟩
              rw [decide_eq_true hm]
              refine hy (fun _ => y_move rfl) <| hy (fun _ => yF (y_bne Tryd.underlying4 rfl rfl) (rfl)) <| hy (fun _ => y_move rfl) <| hyg (o := _) rfl rfl rfl (fun _ => y_move rfl) <| hyg (o := _) rfl rfl rfl (fun _ => yT (y_eql rfl rfl) (rfl)) <| hyg (o := _) rfl rfl rfl (fun _ => y_move rfl) <| hyg (o := _) rfl rfl rfl (fun _ => yF (y_bne Tryd.underlying4 rfl rfl) (rfl)) <| hy (fun _ => y_pickF rfl rfl) <| hy (fun _ => y_move rfl) <| hyg (o := _) rfl rfl rfl (fun _ => y_move rfl) <| hyg (o := _) rfl rfl rfl (fun _ => yF ((y_not rfl)) (rfl)) <| hyg (o := _) rfl rfl rfl (fun _ => y_move rfl) <| hskip rfl rfl rfl (by decide) <| hskip rfl rfl rfl (by decide) <| hskip rfl rfl rfl (by decide) <| hskipU rfl rfl rfl <| hskipU rfl rfl rfl <| hskipU rfl rfl rfl <| hskip rfl rfl rfl (by decide) <| hyg (o := _) rfl rfl rfl (fun _ => y_pickF rfl rfl) <| hy (fun _ => y_pickF rfl rfl) <| hend <| hsub (ρ' := [(91, _), (13, _), (12, _), (11, _), (48, _), (10, _), (9, _), (38, _), (33, _), (29, _), (25, _), (18, _), (8, _), (7, _), (3, _), (0, _), (1, _), (2, _)]) ⟨rfl, rfl, rfl, rfl, rfl, rfl, rfl, rfl, rfl, rfl, rfl, rfl, rfl, rfl, rfl, rfl, rfl, rfl, trivial⟩ <| hmemQ (X' := [_, _, _, _, _]) (S' := [_]) (fun _ m => m) <| hthen <| ?_
              refine hiff rfl (rfl) ?_
              refine hcskip <| hthen <| hseq <| hdrw [8, 9] [(0, some 0), (1, some 0), (2, some 2), (3, some 2), (4, some 0), (5, some 0), (6, some 0), (7, some 0), (8, none), (9, none), (10, some 2), (11, some 2)] (by kernel_rfl) (by kernel_rfl) rfl 99 <| htyU (y_move rfl) <| htyU (y_move rfl) <| htyUg (o := _) rfl rfl rfl (y_move rfl) <| htyg (o := _) rfl rfl rfl (fun m => y_b2s rfl Tryd.underlying32 Tryd.underlying5 Tryd.underlying9 (m.ord 0 rfl)) <| htyUg (o := _) rfl rfl rfl (y_move rfl) <| htyUg (o := _) rfl rfl rfl (y_move rfl) <| htyUg (o := _) rfl rfl rfl (y_idxS rfl rfl Tryd.underlying30 sz27 hA_b46 rfl (by omega)) <| htyg (o := _) rfl rfl rfl (fun m => yV (y_ldN rfl ag27 sz27 (Sup.cs_len hL) (fun j u hu => rd_fld (m.ord 1 rfl) (hget j u hu))) ((rfl : _ = Value.agg L.cs.toArray))) <| ?_
              refine htxg (o := _) rfl rfl rfl (xh_call rfl Tryd.call19 (rbytesSC hL hm) [] rfl [] rfl ?_)
              rintro _ _ _ ⟨v2, rfl, rfl, rfl⟩
              refine ⟨(fun _ => wk [1, 1, 1, 1, 1] [0] rfl rfl), ?_⟩
              refine htfact (fun m => (m.own 0 rfl).slice) ?_
              rintro ⟨A_x2, c_x2, rfl, hc_x2⟩
              refine htfact (fun m => (m.ord 0 rfl).2.1) fun hA_x2 => ?_
              refine htsg (o := _) rfl rfl rfl (fun _ => wk [1, 1, 1, 1, 1] [0] rfl rfl) (fun m => y_b2s rfl Tryd.underlying32 Tryd.underlying5 Tryd.underlying9 (m.ord 0 rfl)) <| htyUg (o := _) rfl rfl rfl (yF (y_sne rfl rfl) ((decide_eq_false (fun h => h rfl)))) <| htyU (y_pickT rfl rfl) <| htend <| hsub (ρ' := [(103, _), (91, _), (13, _), (12, _), (11, _), (48, _), (10, _), (9, _), (38, _), (33, _), (29, _), (25, _), (18, _), (8, _), (7, _), (3, _), (0, _), (1, _), (2, _)]) ⟨rfl, rfl, rfl, rfl, rfl, rfl, rfl, rfl, rfl, rfl, rfl, rfl, rfl, rfl, rfl, rfl, rfl, rfl, rfl, trivial⟩ <| hmemQ (X' := [_, _, _, _, _, _]) (S' := [_]) (fun _ m => m) <| hthen <| ?_
              refine hiff rfl (rfl) ?_
              refine hcskip <| hqblock <| hthen <| hreg <| hy (fun _ => y_move rfl) <| hy (fun _ => y_add rfl rfl (w64 (by omega) (by omega))) <| hy (fun _ => y_assign rfl) <| hend <| hsub (ρ' := [(10, _), (103, _), (91, _), (13, _), (12, _), (11, _), (48, _), (9, _), (38, _), (33, _), (29, _), (25, _), (18, _), (8, _), (7, _), (3, _), (0, _), (1, _), (2, _)]) ⟨rfl, rfl, rfl, rfl, rfl, rfl, rfl, rfl, rfl, rfl, rfl, rfl, rfl, rfl, rfl, rfl, rfl, rfl, rfl, trivial⟩ <| ?_
              refine hnext1 (i + 1) ⟨rfl, rfl, rfl, rfl, rfl, rfl, rfl, rfl, rfl, rfl, rfl, rfl, rfl, trivial⟩ [2, 2, 2, 2] rfl [0] rfl (by omega) (by omega)
            · refine hcskip <| hthen <| hseq <| hblock <| hseq <| hreg <| hy (fun _ => y_move rfl) <| hy (fun _ => y_move rfl) <| hy (fun _ => y_idxS rfl rfl Tryd.underlying30 sz27 hA_b46 rfl (by omega)) <| hy (fun m => yV (y_ldN rfl ag27 sz27 (Sup.cs_len hL) (fun j u hu => rd_fld (m.ord 0 rfl) (hget j u hu))) ((rfl : _ = Value.agg L.cs.toArray))) <| ?_
              refine hx (xh_call rfl Tryd.call15 (rmaySC hL) [] rfl [] rfl ?_)
              rintro _ _ _ ⟨rfl, rfl, rfl⟩
              refine hy (fun _ => y_assign rfl) <| hend <| hsub (ρ' := [(11, _), (48, _), (10, _), (9, _), (38, _), (33, _), (29, _), (25, _), (18, _), (8, _), (7, _), (3, _), (0, _), (1, _), (2, _)]) ⟨rfl, rfl, rfl, rfl, rfl, rfl, rfl, rfl, rfl, rfl, rfl, rfl, rfl, rfl, rfl, trivial⟩ <| hmemQ (X' := [_, _, _, _]) (S' := [_]) (fun _ m => m) <| hthen <| hseq <| hreg <| ?_
              rw [decide_eq_false hm]
              refine hy (fun _ => y_move rfl) <| hy (fun _ => y_move rfl) <| hy (fun _ => y_idxS rfl rfl Tryd.underlying30 sz27 hA_b46 rfl (by omega)) <| hy (fun m => yV (y_ldN rfl ag27 sz27 (Sup.cs_len hL) (fun j u hu => rd_fld (m.ord 0 rfl) (hget j u hu))) ((rfl : _ = Value.agg L.cs.toArray))) <| ?_
              refine hx (xh_call rfl Tryd.call17 (ofSC hL) [] rfl [] rfl ?_)
              rintro _ _ _ ⟨rfl, rfl, rfl⟩
              refine hx (xh_call rfl Tryd.call16 (writeSupC hL) [] rfl [] rfl ?_)
              rintro _ _ _ ⟨v, rfl, rfl, rfl⟩
              refine hfactL (fun m => (m.own 0 rfl).slice) ?_
              rintro ⟨A_x, c_x, rfl, hc_x⟩
              refine hfactL (fun m => (m.ord 0 rfl).2.1) fun hA_x => ?_
              refine hy (fun _ => y_move rfl) <| hy (fun _ => y_extract rfl rfl) <| hy (fun _ => y_extract rfl rfl) <| hy (fun _ => y_assign rfl) <| hy (fun _ => y_assign rfl) <| hend <| hsub (ρ' := [(13, _), (12, _), (11, _), (48, _), (10, _), (9, _), (38, _), (33, _), (29, _), (25, _), (18, _), (8, _), (7, _), (3, _), (0, _), (1, _), (2, _)]) ⟨rfl, rfl, rfl, rfl, rfl, rfl, rfl, rfl, rfl, rfl, rfl, rfl, rfl, rfl, rfl, rfl, rfl, trivial⟩ <| hmemQ (X' := [_, _, _, _, _]) (S' := [_]) (fun _ m => m) <| hthen <| hseq <| hseq <| hreg <| ?_
              rw [if_neg hm, if_neg hm]
              refine hy (fun _ => y_move rfl) <| hy (fun _ => y_move rfl) <| hy (fun _ => y_idxS rfl rfl Tryd.underlying30 sz27 hA_b46 rfl (by omega)) <| hy (fun m => yV (y_ldN rfl ag27 sz27 (Sup.cs_len hL) (fun j u hu => rd_fld (m.ord 1 rfl) (hget j u hu))) ((rfl : _ = Value.agg L.cs.toArray))) <| ?_
              refine hx (xh_call rfl Tryd.call17 (ofSC hL) [] rfl [] rfl ?_)
              rintro _ _ _ ⟨rfl, rfl, rfl⟩
              refine hx (xh_call rfl Tryd.call18 (maySC hL) [] rfl [] rfl ?_)
              rintro _ _ _ ⟨rfl, rfl, rfl⟩
              rw [decide_eq_false hm]
              refine hy (fun _ => y_move rfl) <| hy (fun _ => yF (y_bne Tryd.underlying4 rfl rfl) (rfl)) <| hy (fun _ => y_move rfl) <| hyg (o := _) rfl rfl rfl (fun _ => y_move rfl) <| hyg (o := _) rfl rfl rfl (fun _ => yF (y_eql rfl rfl) (rfl)) <| hyg (o := _) rfl rfl rfl (fun _ => y_move rfl) <| hyg (o := _) rfl rfl rfl (fun _ => yF (y_bne Tryd.underlying4 rfl rfl) (rfl)) <| hy (fun _ => y_pickF rfl rfl) <| hy (fun _ => y_move rfl) <| hyg (o := _) rfl rfl rfl (fun _ => y_move rfl) <| hyg (o := _) rfl rfl rfl (fun _ => yT ((y_not rfl)) (rfl)) <| hyg (o := _) rfl rfl rfl (fun _ => y_move rfl) <| hyg (o := _) rfl rfl rfl (fun _ => y_move rfl) <| hyg (o := _) rfl rfl rfl (fun _ => yF (y_neq rfl rfl) (rfl)) <| hyg (o := _) rfl rfl rfl (fun _ => y_move rfl) <| hyg (o := _) rfl rfl rfl (fun _ => y_move rfl) <| hyg (o := _) rfl rfl rfl (fun _ => y_lenS rfl Tryd.underlying32) <| hyg (o := _) rfl rfl rfl (fun _ => yF (y_gtr rfl rfl) (rfl)) <| hyg (o := _) rfl rfl rfl (fun _ => y_pickF rfl rfl) <| hyg (o := _) rfl rfl rfl (fun _ => y_pickT rfl rfl) <| hy (fun _ => y_pickF rfl rfl) <| hend <| hsub (ρ' := [(91, _), (13, _), (12, _), (11, _), (48, _), (10, _), (9, _), (38, _), (33, _), (29, _), (25, _), (18, _), (8, _), (7, _), (3, _), (0, _), (1, _), (2, _)]) ⟨rfl, rfl, rfl, rfl, rfl, rfl, rfl, rfl, rfl, rfl, rfl, rfl, rfl, rfl, rfl, rfl, rfl, rfl, trivial⟩ <| hmemQ (X' := [_, _, _, _, _]) (S' := [_]) (fun _ m => m) <| hthen <| ?_
              refine hiff rfl (rfl) ?_
              refine hcskip <| hthen <| hseq <| hdrw [8, 9] [(0, some 0), (1, some 0), (2, some 2), (3, some 2), (4, some 0), (5, some 0), (6, some 0), (7, some 0), (8, none), (9, none), (10, some 2), (11, some 2)] (by kernel_rfl) (by kernel_rfl) rfl 99 <| htyU (y_move rfl) <| htyU (y_move rfl) <| htskip rfl rfl rfl (by decide) <| htskip rfl rfl rfl (by decide) <| htskip rfl rfl rfl (by decide) <| htskip rfl rfl rfl (by decide) <| htskip rfl rfl rfl (by decide) <| htskip rfl rfl rfl (by decide) <| htskipx rfl rfl rfl (by decide) (fun _ => wk [0, 0, 0, 0, 0] [0] rfl rfl) <| htskipx rfl rfl rfl (by decide) (fun _ => wk [0, 0, 0, 0, 0] [0] rfl rfl) <| htskip rfl rfl rfl (by decide) <| htyU (y_pickF rfl rfl) <| htend <| hsub (ρ' := [(103, _), (91, _), (13, _), (12, _), (11, _), (48, _), (10, _), (9, _), (38, _), (33, _), (29, _), (25, _), (18, _), (8, _), (7, _), (3, _), (0, _), (1, _), (2, _)]) ⟨rfl, rfl, rfl, rfl, rfl, rfl, rfl, rfl, rfl, rfl, rfl, rfl, rfl, rfl, rfl, rfl, rfl, rfl, rfl, trivial⟩ <| hthen <| ?_
              refine hiff rfl (rfl) ?_
              refine hcskip <| hqblock <| hthen <| hreg <| hy (fun _ => y_move rfl) <| hy (fun _ => y_add rfl rfl (w64 (by omega) (by omega))) <| hy (fun _ => y_assign rfl) <| hend <| hsub (ρ' := [(10, _), (103, _), (91, _), (13, _), (12, _), (11, _), (48, _), (9, _), (38, _), (33, _), (29, _), (25, _), (18, _), (8, _), (7, _), (3, _), (0, _), (1, _), (2, _)]) ⟨rfl, rfl, rfl, rfl, rfl, rfl, rfl, rfl, rfl, rfl, rfl, rfl, rfl, rfl, rfl, rfl, rfl, rfl, rfl, trivial⟩ <| ?_
              refine hnext1 (i + 1) ⟨rfl, rfl, rfl, rfl, rfl, rfl, rfl, rfl, rfl, rfl, rfl, rfl, rfl, trivial⟩ [1, 1, 1, 1] rfl [0] rfl (by omega) (by omega)
          · refine hexit <| hthen_exit <| hthen_exit <| hqblock_exit <| hthen <| hseq <| hreg <| ?_
            refine hx (xh_call rfl Tryd.call20 (lives22C) [] rfl [0] rfl ?_)
            rintro _ _ _ ⟨rfl, rfl, rfl⟩
            refine hy (fun _ => y_assign rfl) <| hend <| hsub (ρ' := [(6, _), (48, _), (10, _), (9, _), (38, _), (33, _), (29, _), (25, _), (18, _), (8, _), (7, _), (3, _), (0, _), (1, _), (2, _)]) ⟨rfl, rfl, rfl, rfl, rfl, rfl, rfl, rfl, rfl, rfl, rfl, rfl, rfl, rfl, rfl, trivial⟩ <| hmemQ (X' := [_, _, _, _]) (S' := [_]) (fun _ m => m) <| hthen <| hret <| ?_
            exact hret1 trivial rfl rfl [] rfl [] rfl ⟨rfl, rfl, rfl⟩
        · have hO : (Sup.mk s.good.active s.good.gen s.good.s0 ⟨!s.good.s1.full, s.good.s1.image, s.good.s1.size⟩).wf := ⟨hG.a0, hG.a1, hG.g0, hG.g1, hG.w0, ⟨hG.w1.len, hG.w1.lo, hG.w1.hi⟩⟩
          refine hreg <| hy (fun _ => y_fld rfl fa27_3 (by decide)) <| hy (fun _ => y_fld rfl fa25_0 (by decide)) <| hy (fun m => y_ld1 rfl ag4 ((m.blk 0 rfl).cells0 36 _ (sup_s1 hG (j := 0) sl0))) <| hy (fun _ => (y_not rfl)) <| hy (fun _ => y_fld rfl fa27_3 (by decide)) <| hy (fun _ => y_fld rfl fa25_0 (by decide)) <| ?_
          refine hx0 (xh_st1a 0 rfl rfl rfl sz4 rfl (by rw [Sup.cs_len hG]; first | decide | (dsimp only; omega)) ?_)
          refine hmemL (fun w m => m.eqX 0 rfl (show _ = RBlk g8 27 (Sup.mk s.good.active s.good.gen s.good.s0 ⟨!s.good.s1.full, s.good.s1.image, s.good.s1.size⟩).cs from congrArg (RBlk _ _) (sup_set36 hG))) ?_
          refine hend <| hsub (ρ' := [(38, _), (33, _), (29, _), (25, _), (18, _), (8, _), (7, _), (6, _), (3, _), (0, _), (1, _), (2, _)]) ⟨rfl, rfl, rfl, rfl, rfl, rfl, rfl, rfl, rfl, rfl, rfl, rfl, trivial⟩ <| hmemQ (X' := [_, _, _]) (S' := [_]) (fun _ m => m) <| hqblock <| hthen <| hseq <| hreg <| hy (fun m => yV (y_ldN rfl ag27 sz27 (Sup.cs_len h) ((m.blk 2 rfl).cells0)) ((rfl : _ = Value.agg s.cs.toArray))) <| hy (fun m => yV (y_ldN rfl ag27 sz27 (Sup.cs_len hG) ((m.blk 1 rfl).cells0)) ((rfl : _ = Value.agg s.good.cs.toArray))) <| hy (fun m => yV (y_ldN rfl ag27 sz27 (Sup.cs_len hO) ((m.blk 0 rfl).cells0)) ((rfl : _ = Value.agg (Sup.mk s.good.active s.good.gen s.good.s0 ⟨!s.good.s1.full, s.good.s1.image, s.good.s1.size⟩).cs.toArray))) <| ?_
          refine hx (xh_bsl Tryd.underlying30 ti27 rfl rfl rfl (by simp [Value.cells, Sup.cs_len h, Sup.cs_len hG, Sup.cs_len hO]) (by decide) (by decide) (fun g46 => ?_))
          have hA_b46 : 0 < 3 → (some (⟨g46, 0, none⟩ : Addr)) ≠ none := fun _ h => by cases h
          refine hy (fun _ => y_assign rfl) <| hend <| hsub (ρ' := [(9, _), (38, _), (33, _), (29, _), (25, _), (18, _), (8, _), (7, _), (6, _), (3, _), (0, _), (1, _), (2, _)]) ⟨rfl, rfl, rfl, rfl, rfl, rfl, rfl, rfl, rfl, rfl, rfl, rfl, rfl, trivial⟩ <| hmemQ (X' := [_, _, _, _]) (S' := [_]) (fun _ m => m) <| hthen <| hseq <| hseq <| hreg <| hy (fun _ => y_assign rfl) <| hend <| hthen <| hblock <| ?_
          refine hmemC (fun w m => m.eqX 0 rfl (show _ = ROwn 27 70 (.slice (some ⟨g46, 0, none⟩) 3 3) 3 (s.cs ++ (s.good.cs ++ (Sup.mk s.good.active s.good.gen s.good.s0 ⟨!s.good.s1.full, s.good.s1.image, s.good.s1.size⟩).cs)) from congrArg (ROwn _ _ _ _) (by simp [Value.cells]))) ?_
          refine hloop1 (fun i => 3 - i) (fun i => [(10, .int .i64 (i : Nat))]) (fun i => []) (fun i => []) (fun i => i ≤ 3) 0 [(9, _), (38, _), (33, _), (29, _), (25, _), (18, _), (8, _), (7, _), (3, _), (0, _), (1, _), (2, _)] ⟨rfl, rfl, rfl, rfl, rfl, rfl, rfl, rfl, rfl, rfl, rfl, rfl, trivial⟩ [] rfl [] rfl (by decide) ⟨rfl, trivial⟩ (fun i hi3 => ?_)
          refine hseq <| hseq <| hreg <| hy (fun _ => y_move rfl) <| hy (fun _ => y_lss rfl rfl) <| hend <| hsub (ρ' := [(48, _), (10, _), (9, _), (38, _), (33, _), (29, _), (25, _), (18, _), (8, _), (7, _), (3, _), (0, _), (1, _), (2, _)]) ⟨rfl, rfl, rfl, rfl, rfl, rfl, rfl, rfl, rfl, rfl, rfl, rfl, rfl, rfl, trivial⟩ <| hthen <| ?_
          refine hif rfl (fun hlt => ?_) (fun hlt => ?_)
          · have hi : i < 3 := by omega
            have hL := tri_wf h hG hO i
            have hget := fun (j : Nat) (u : Value) (hu : (tri s s.good (Sup.mk s.good.active s.good.gen s.good.s0 ⟨!s.good.s1.full, s.good.s1.image, s.good.s1.size⟩) i).cs[j]? = some u) => tri_get h hG hi hu hO
            generalize tri s s.good (Sup.mk s.good.active s.good.gen s.good.s0 ⟨!s.good.s1.full, s.good.s1.image, s.good.s1.size⟩) i = L at hL hget
            by_cases hm : L.may
            · refine hcskip <| hthen <| hseq <| hblock <| hseq <| hreg <| hy (fun _ => y_move rfl) <| hy (fun _ => y_move rfl) <| hy (fun _ => y_idxS rfl rfl Tryd.underlying30 sz27 hA_b46 rfl (by omega)) <| hy (fun m => yV (y_ldN rfl ag27 sz27 (Sup.cs_len hL) (fun j u hu => rd_fld (m.ord 0 rfl) (hget j u hu))) ((rfl : _ = Value.agg L.cs.toArray))) <| ?_
              refine hx (xh_call rfl Tryd.call15 (rmaySC hL) [] rfl [] rfl ?_)
              rintro _ _ _ ⟨rfl, rfl, rfl⟩
              refine hy (fun _ => y_assign rfl) <| hend <| hsub (ρ' := [(11, _), (48, _), (10, _), (9, _), (38, _), (33, _), (29, _), (25, _), (18, _), (8, _), (7, _), (3, _), (0, _), (1, _), (2, _)]) ⟨rfl, rfl, rfl, rfl, rfl, rfl, rfl, rfl, rfl, rfl, rfl, rfl, rfl, rfl, rfl, trivial⟩ <| hmemQ (X' := [_, _, _, _]) (S' := [_]) (fun _ m => m) <| hthen <| hseq <| hreg <| ?_
              rw [decide_eq_true hm]
              refine hy (fun _ => y_move rfl) <| hy (fun _ => y_move rfl) <| hy (fun _ => y_idxS rfl rfl Tryd.underlying30 sz27 hA_b46 rfl (by omega)) <| hy (fun m => yV (y_ldN rfl ag27 sz27 (Sup.cs_len hL) (fun j u hu => rd_fld (m.ord 0 rfl) (hget j u hu))) ((rfl : _ = Value.agg L.cs.toArray))) <| ?_
              refine hx (xh_call rfl Tryd.call17 (ofSC hL) [] rfl [] rfl ?_)
              rintro _ _ _ ⟨rfl, rfl, rfl⟩
              refine hx (xh_call rfl Tryd.call16 (writeSupC hL) [] rfl [] rfl ?_)
              rintro _ _ _ ⟨v, rfl, rfl, rfl⟩
              refine hfactL (fun m => (m.own 0 rfl).slice) ?_
              rintro ⟨A_x, c_x, rfl, hc_x⟩
              refine hfactL (fun m => (m.ord 0 rfl).2.1) fun hA_x => ?_
              refine hy (fun _ => y_move rfl) <| hy (fun _ => y_extract rfl rfl) <| hy (fun _ => y_extract rfl rfl) <| hy (fun _ => y_assign rfl) <| hy (fun _ => y_assign rfl) <| hend <| hsub (ρ' := [(13, _), (12, _), (11, _), (48, _), (10, _), (9, _), (38, _), (33, _), (29, _), (25, _), (18, _), (8, _), (7, _), (3, _), (0, _), (1, _), (2, _)]) ⟨rfl, rfl, rfl, rfl, rfl, rfl, rfl, rfl, rfl, rfl, rfl, rfl, rfl, rfl, rfl, rfl, rfl, trivial⟩ <| hmemQ (X' := [_, _, _, _, _]) (S' := [_]) (fun _ m => m) <| hthen <| hseq <| hseq <| hreg <| ?_
              rw [if_pos hm, if_pos hm]
              refine hy (fun _ => y_move rfl) <| hy (fun _ => y_move rfl) <| hy (fun _ => y_idxS rfl rfl Tryd.underlying30 sz27 hA_b46 rfl (by omega)) <| hy (fun m => yV (y_ldN rfl ag27 sz27 (Sup.cs_len hL) (fun j u hu => rd_fld (m.ord 1 rfl) (hget j u hu))) ((rfl : _ = Value.agg L.cs.toArray))) <| ?_
              refine hx (xh_call rfl Tryd.call17 (ofSC hL) [] rfl [] rfl ?_)
              rintro _ _ _ ⟨rfl, rfl, rfl⟩
              refine hx (xh_call rfl Tryd.call18 (maySC hL) [] rfl [] rfl ?_)
              rintro _ _ _ ⟨rfl, rfl, rfl⟩
              rw [decide_eq_true hm]
              refine hy (fun _ => y_move rfl) <| hy (fun _ => yF (y_bne Tryd.underlying4 rfl rfl) (rfl)) <| hy (fun _ => y_move rfl) <| hyg (o := _) rfl rfl rfl (fun _ => y_move rfl) <| hyg (o := _) rfl rfl rfl (fun _ => yT (y_eql rfl rfl) (rfl)) <| hyg (o := _) rfl rfl rfl (fun _ => y_move rfl) <| hyg (o := _) rfl rfl rfl (fun _ => yF (y_bne Tryd.underlying4 rfl rfl) (rfl)) <| hy (fun _ => y_pickF rfl rfl) <| hy (fun _ => y_move rfl) <| hyg (o := _) rfl rfl rfl (fun _ => y_move rfl) <| hyg (o := _) rfl rfl rfl (fun _ => yF ((y_not rfl)) (rfl)) <| hyg (o := _) rfl rfl rfl (fun _ => y_move rfl) <| hskip rfl rfl rfl (by decide) <| hskip rfl rfl rfl (by decide) <| hskip rfl rfl rfl (by decide) <| hskipU rfl rfl rfl <| hskipU rfl rfl rfl <| hskipU rfl rfl rfl <| hskip rfl rfl rfl (by decide) <| hyg (o := _) rfl rfl rfl (fun _ => y_pickF rfl rfl) <| hy (fun _ => y_pickF rfl rfl) <| hend <| hsub (ρ' := [(91, _), (13, _), (12, _), (11, _), (48, _), (10, _), (9, _), (38, _), (33, _), (29, _), (25, _), (18, _), (8, _), (7, _), (3, _), (0, _), (1, _), (2, _)]) ⟨rfl, rfl, rfl, rfl, rfl, rfl, rfl, rfl, rfl, rfl, rfl, rfl, rfl, rfl, rfl, rfl, rfl, rfl, trivial⟩ <| hmemQ (X' := [_, _, _, _, _]) (S' := [_]) (fun _ m => m) <| hthen <| ?_
              refine hiff rfl (rfl) ?_
              refine hcskip <| hthen <| hseq <| hdrw [8, 9] [(0, some 0), (1, some 0), (2, some 2), (3, some 2), (4, some 0), (5, some 0), (6, some 0), (7, some 0), (8, none), (9, none), (10, some 2), (11, some 2)] (by kernel_rfl) (by kernel_rfl) rfl 99 <| htyU (y_move rfl) <| htyU (y_move rfl) <| htyUg (o := _) rfl rfl rfl (y_move rfl) <| htyg (o := _) rfl rfl rfl (fun m => y_b2s rfl Tryd.underlying32 Tryd.underlying5 Tryd.underlying9 (m.ord 0 rfl)) <| htyUg (o := _) rfl rfl rfl (y_move rfl) <| htyUg (o := _) rfl rfl rfl (y_move rfl) <| htyUg (o := _) rfl rfl rfl (y_idxS rfl rfl Tryd.underlying30 sz27 hA_b46 rfl (by omega)) <| htyg (o := _) rfl rfl rfl (fun m => yV (y_ldN rfl ag27 sz27 (Sup.cs_len hL) (fun j u hu => rd_fld (m.ord 1 rfl) (hget j u hu))) ((rfl : _ = Value.agg L.cs.toArray))) <| ?_
              refine htxg (o := _) rfl rfl rfl (xh_call rfl Tryd.call19 (rbytesSC hL hm) [] rfl [] rfl ?_)
              rintro _ _ _ ⟨v2, rfl, rfl, rfl⟩
              refine ⟨(fun _ => wk [1, 1, 1, 1, 1] [0] rfl rfl), ?_⟩
              refine htfact (fun m => (m.own 0 rfl).slice) ?_
              rintro ⟨A_x2, c_x2, rfl, hc_x2⟩
              refine htfact (fun m => (m.ord 0 rfl).2.1) fun hA_x2 => ?_
              refine htsg (o := _) rfl rfl rfl (fun _ => wk [1, 1, 1, 1, 1] [0] rfl rfl) (fun m => y_b2s rfl Tryd.underlying32 Tryd.underlying5 Tryd.underlying9 (m.ord 0 rfl)) <| htyUg (o := _) rfl rfl rfl (yF (y_sne rfl rfl) ((decide_eq_false (fun h => h rfl)))) <| htyU (y_pickT rfl rfl) <| htend <| hsub (ρ' := [(103, _), (91, _), (13, _), (12, _), (11, _), (48, _), (10, _), (9, _), (38, _), (33, _), (29, _), (25, _), (18, _), (8, _), (7, _), (3, _), (0, _), (1, _), (2, _)]) ⟨rfl, rfl, rfl, rfl, rfl, rfl, rfl, rfl, rfl, rfl, rfl, rfl, rfl, rfl, rfl, rfl, rfl, rfl, rfl, trivial⟩ <| hmemQ (X' := [_, _, _, _, _, _]) (S' := [_]) (fun _ m => m) <| hthen <| ?_
              refine hiff rfl (rfl) ?_
              refine hcskip <| hqblock <| hthen <| hreg <| hy (fun _ => y_move rfl) <| hy (fun _ => y_add rfl rfl (w64 (by omega) (by omega))) <| hy (fun _ => y_assign rfl) <| hend <| hsub (ρ' := [(10, _), (103, _), (91, _), (13, _), (12, _), (11, _), (48, _), (9, _), (38, _), (33, _), (29, _), (25, _), (18, _), (8, _), (7, _), (3, _), (0, _), (1, _), (2, _)]) ⟨rfl, rfl, rfl, rfl, rfl, rfl, rfl, rfl, rfl, rfl, rfl, rfl, rfl, rfl, rfl, rfl, rfl, rfl, rfl, trivial⟩ <| ?_
              refine hnext1 (i + 1) ⟨rfl, rfl, rfl, rfl, rfl, rfl, rfl, rfl, rfl, rfl, rfl, rfl, rfl, trivial⟩ [2, 2, 2, 2] rfl [0] rfl (by omega) (by omega)
            · refine hcskip <| hthen <| hseq <| hblock <| hseq <| hreg <| hy (fun _ => y_move rfl) <| hy (fun _ => y_move rfl) <| hy (fun _ => y_idxS rfl rfl Tryd.underlying30 sz27 hA_b46 rfl (by omega)) <| hy (fun m => yV (y_ldN rfl ag27 sz27 (Sup.cs_len hL) (fun j u hu => rd_fld (m.ord 0 rfl) (hget j u hu))) ((rfl : _ = Value.agg L.cs.toArray))) <| ?_
              refine hx (xh_call rfl Tryd.call15 (rmaySC hL) [] rfl [] rfl ?_)
              rintro _ _ _ ⟨rfl, rfl, rfl⟩
              refine hy (fun _ => y_assign rfl) <| hend <| hsub (ρ' := [(11, _), (48, _), (10, _), (9, _), (38, _), (33, _), (29, _), (25, _), (18, _), (8, _), (7, _), (3, _), (0, _), (1, _), (2, _)]) ⟨rfl, rfl, rfl, rfl, rfl, rfl, rfl, rfl, rfl, rfl, rfl, rfl, rfl, rfl, rfl, trivial⟩ <| hmemQ (X' := [_, _, _, _]) (S' := [_]) (fun _ m => m) <| hthen <| hseq <| hreg <| ?_
              rw [decide_eq_false hm]
              refine hy (fun _ => y_move rfl) <| hy (fun _ => y_move rfl) <| hy (fun _ => y_idxS rfl rfl Tryd.underlying30 sz27 hA_b46 rfl (by omega)) <| hy (fun m => yV (y_ldN rfl ag27 sz27 (Sup.cs_len hL) (fun j u hu => rd_fld (m.ord 0 rfl) (hget j u hu))) ((rfl : _ = Value.agg L.cs.toArray))) <| ?_
              refine hx (xh_call rfl Tryd.call17 (ofSC hL) [] rfl [] rfl ?_)
              rintro _ _ _ ⟨rfl, rfl, rfl⟩
              refine hx (xh_call rfl Tryd.call16 (writeSupC hL) [] rfl [] rfl ?_)
              rintro _ _ _ ⟨v, rfl, rfl, rfl⟩
              refine hfactL (fun m => (m.own 0 rfl).slice) ?_
              rintro ⟨A_x, c_x, rfl, hc_x⟩
              refine hfactL (fun m => (m.ord 0 rfl).2.1) fun hA_x => ?_
              refine hy (fun _ => y_move rfl) <| hy (fun _ => y_extract rfl rfl) <| hy (fun _ => y_extract rfl rfl) <| hy (fun _ => y_assign rfl) <| hy (fun _ => y_assign rfl) <| hend <| hsub (ρ' := [(13, _), (12, _), (11, _), (48, _), (10, _), (9, _), (38, _), (33, _), (29, _), (25, _), (18, _), (8, _), (7, _), (3, _), (0, _), (1, _), (2, _)]) ⟨rfl, rfl, rfl, rfl, rfl, rfl, rfl, rfl, rfl, rfl, rfl, rfl, rfl, rfl, rfl, rfl, rfl, trivial⟩ <| hmemQ (X' := [_, _, _, _, _]) (S' := [_]) (fun _ m => m) <| hthen <| hseq <| hseq <| hreg <| ?_
              rw [if_neg hm, if_neg hm]
              refine hy (fun _ => y_move rfl) <| hy (fun _ => y_move rfl) <| hy (fun _ => y_idxS rfl rfl Tryd.underlying30 sz27 hA_b46 rfl (by omega)) <| hy (fun m => yV (y_ldN rfl ag27 sz27 (Sup.cs_len hL) (fun j u hu => rd_fld (m.ord 1 rfl) (hget j u hu))) ((rfl : _ = Value.agg L.cs.toArray))) <| ?_
              refine hx (xh_call rfl Tryd.call17 (ofSC hL) [] rfl [] rfl ?_)
              rintro _ _ _ ⟨rfl, rfl, rfl⟩
              refine hx (xh_call rfl Tryd.call18 (maySC hL) [] rfl [] rfl ?_)
              rintro _ _ _ ⟨rfl, rfl, rfl⟩
              rw [decide_eq_false hm]
              refine hy (fun _ => y_move rfl) <| hy (fun _ => yF (y_bne Tryd.underlying4 rfl rfl) (rfl)) <| hy (fun _ => y_move rfl) <| hyg (o := _) rfl rfl rfl (fun _ => y_move rfl) <| hyg (o := _) rfl rfl rfl (fun _ => yF (y_eql rfl rfl) (rfl)) <| hyg (o := _) rfl rfl rfl (fun _ => y_move rfl) <| hyg (o := _) rfl rfl rfl (fun _ => yF (y_bne Tryd.underlying4 rfl rfl) (rfl)) <| hy (fun _ => y_pickF rfl rfl) <| hy (fun _ => y_move rfl) <| hyg (o := _) rfl rfl rfl (fun _ => y_move rfl) <| hyg (o := _) rfl rfl rfl (fun _ => yT ((y_not rfl)) (rfl)) <| hyg (o := _) rfl rfl rfl (fun _ => y_move rfl) <| hyg (o := _) rfl rfl rfl (fun _ => y_move rfl) <| hyg (o := _) rfl rfl rfl (fun _ => yF (y_neq rfl rfl) (rfl)) <| hyg (o := _) rfl rfl rfl (fun _ => y_move rfl) <| hyg (o := _) rfl rfl rfl (fun _ => y_move rfl) <| hyg (o := _) rfl rfl rfl (fun _ => y_lenS rfl Tryd.underlying32) <| hyg (o := _) rfl rfl rfl (fun _ => yF (y_gtr rfl rfl) (rfl)) <| hyg (o := _) rfl rfl rfl (fun _ => y_pickF rfl rfl) <| hyg (o := _) rfl rfl rfl (fun _ => y_pickT rfl rfl) <| hy (fun _ => y_pickF rfl rfl) <| hend <| hsub (ρ' := [(91, _), (13, _), (12, _), (11, _), (48, _), (10, _), (9, _), (38, _), (33, _), (29, _), (25, _), (18, _), (8, _), (7, _), (3, _), (0, _), (1, _), (2, _)]) ⟨rfl, rfl, rfl, rfl, rfl, rfl, rfl, rfl, rfl, rfl, rfl, rfl, rfl, rfl, rfl, rfl, rfl, rfl, trivial⟩ <| hmemQ (X' := [_, _, _, _, _]) (S' := [_]) (fun _ m => m) <| hthen <| ?_
              refine hiff rfl (rfl) ?_
              refine hcskip <| hthen <| hseq <| hdrw [8, 9] [(0, some 0), (1, some 0), (2, some 2), (3, some 2), (4, some 0), (5, some 0), (6, some 0), (7, some 0), (8, none), (9, none), (10, some 2), (11, some 2)] (by kernel_rfl) (by kernel_rfl) rfl 99 <| htyU (y_move rfl) <| htyU (y_move rfl) <| htskip rfl rfl rfl (by decide) <| htskip rfl rfl rfl (by decide) <| htskip rfl rfl rfl (by decide) <| htskip rfl rfl rfl (by decide) <| htskip rfl rfl rfl (by decide) <| htskip rfl rfl rfl (by decide) <| htskipx rfl rfl rfl (by decide) (fun _ => wk [0, 0, 0, 0, 0] [0] rfl rfl) <| htskipx rfl rfl rfl (by decide) (fun _ => wk [0, 0, 0, 0, 0] [0] rfl rfl) <| htskip rfl rfl rfl (by decide) <| htyU (y_pickF rfl rfl) <| htend <| hsub (ρ' := [(103, _), (91, _), (13, _), (12, _), (11, _), (48, _), (10, _), (9, _), (38, _), (33, _), (29, _), (25, _), (18, _), (8, _), (7, _), (3, _), (0, _), (1, _), (2, _)]) ⟨rfl, rfl, rfl, rfl, rfl, rfl, rfl, rfl, rfl, rfl, rfl, rfl, rfl, rfl, rfl, rfl, rfl, rfl, rfl, trivial⟩ <| hthen <| ?_
              refine hiff rfl (rfl) ?_
              refine hcskip <| hqblock <| hthen <| hreg <| hy (fun _ => y_move rfl) <| hy (fun _ => y_add rfl rfl (w64 (by omega) (by omega))) <| hy (fun _ => y_assign rfl) <| hend <| hsub (ρ' := [(10, _), (103, _), (91, _), (13, _), (12, _), (11, _), (48, _), (9, _), (38, _), (33, _), (29, _), (25, _), (18, _), (8, _), (7, _), (3, _), (0, _), (1, _), (2, _)]) ⟨rfl, rfl, rfl, rfl, rfl, rfl, rfl, rfl, rfl, rfl, rfl, rfl, rfl, rfl, rfl, rfl, rfl, rfl, rfl, trivial⟩ <| ?_
              refine hnext1 (i + 1) ⟨rfl, rfl, rfl, rfl, rfl, rfl, rfl, rfl, rfl, rfl, rfl, rfl, rfl, trivial⟩ [1, 1, 1, 1] rfl [0] rfl (by omega) (by omega)
          · refine hexit <| hthen_exit <| hthen_exit <| hqblock_exit <| hthen <| hseq <| hreg <| ?_
            refine hx (xh_call rfl Tryd.call20 (lives22C) [] rfl [0] rfl ?_)
            rintro _ _ _ ⟨rfl, rfl, rfl⟩
            refine hy (fun _ => y_assign rfl) <| hend <| hsub (ρ' := [(6, _), (48, _), (10, _), (9, _), (38, _), (33, _), (29, _), (25, _), (18, _), (8, _), (7, _), (3, _), (0, _), (1, _), (2, _)]) ⟨rfl, rfl, rfl, rfl, rfl, rfl, rfl, rfl, rfl, rfl, rfl, rfl, rfl, rfl, rfl, trivial⟩ <| hmemQ (X' := [_, _, _, _]) (S' := [_]) (fun _ m => m) <| hthen <| hret <| ?_
            exact hret1 trivial rfl rfl [] rfl [] rfl ⟨rfl, rfl, rfl⟩
theorem slotsMay (xs : List Cell) (z n : Int) (W : World) (_ : holdC W xs) (hT : Ty Tryd.prog 27 xs) (hz : -9223372036854775808 ≤ z ∧ z ≤ 9223372036854775807) (hn : -9223372036854775808 ≤ n ∧ n ≤ 9223372036854775807) (hro : RRoots.holds W) :
    Calls Tryd.prog 3 #[.agg (xs.map Cell.val).toArray, .int .i64 z, .int .i64 n] W fun e w' => e = .returned (.bool true) ∧ Fr No W w' := by
  obtain ⟨s, e, h⟩ := ty_S hT
  rw [e]
  exact con_calls (slotsMayC h hz hn) (by
    intro r hr
    obtain rfl := List.mem_singleton.1 hr
    exact hro)
end Go.Proofs.YtfikjheicjamhaaDoor
