import Derived.Test.YtfikjheicjamhaaDoorG4
import Derived.Test.YtfikjheicjamhaaDoorG3
section
/- Contracts: the program's digest of bytes (layer 2): its state. -/
set_option linter.unusedVariables false
set_option linter.unusedSimpArgs false
set_option maxRecDepth 20000
namespace Go.Proofs.YtfikjheicjamhaaDoor
open Go.Eng Go.Hx
structure ShSt where
  h : List UInt32
  n : Nat
  A : Option Addr
  c : Nat
  rest : List UInt8
def stc (h : List UInt32) (n : Nat) (A : Option Addr) (m c : Nat) : List Value := wds h ++ [.int .i64 (n : Int), .slice A m c]
abbrev RSha (g : Nat) (s : ShSt) : Res := RPack [RBlk g 224 (stc s.h s.n s.A s.rest.length s.c), ROwn 5 1 (.slice s.A s.rest.length s.c) s.rest.length (b8s s.rest)]
/-- what a state has gone through -/
structure ShSt.ok (s : ShSt) (all : List UInt8) : Prop where
  len : s.h.length = 8
  n : s.n = all.length
  mid : ∃ d, d ++ s.rest = all ∧ d.length % 64 = 0 ∧ s.h = foldB h0L d
theorem stc_len {h : List UInt32} {n : Nat} {A : Option Addr} {m c : Nat} (hh : h.length = 8) : (stc h n A m c).length = 10 := by simp [stc, wds, hh]
theorem stc_8 {h : List UInt32} {n : Nat} {A : Option Addr} {m c : Nat} (hh : h.length = 8) : (stc h n A m c)[8]? = some (.int .i64 (n : Int)) := by
  rw [stc, List.getElem?_append_right (by rw [wds_length]; omega), wds_length, hh]; rfl
theorem stc_9 {h : List UInt32} {n : Nat} {A : Option Addr} {m c : Nat} (hh : h.length = 8) : (stc h n A m c)[9]? = some (.slice A m c) := by
  rw [stc, List.getElem?_append_right (by rw [wds_length]; omega), wds_length, hh]; rfl
theorem stc_h {h : List UInt32} {n : Nat} {A : Option Addr} {m c : Nat} {j : Nat} {u : Value} (hu : (wds h)[j]? = some u) : (stc h n A m c)[j]? = some u := by
  rw [stc, List.getElem?_append_left ((List.getElem?_eq_some_iff.1 hu).1)]; exact hu
theorem stc_set8 {h : List UInt32} {n n' : Nat} {A : Option Addr} {m c : Nat} (hh : h.length = 8) : (stc h n A m c).set 8 (.int .i64 (n' : Int)) = stc h n' A m c := by
  rw [stc, List.set_append_right _ _ (by rw [wds_length]; omega), wds_length, hh]; rfl
theorem stc_set9 {h : List UInt32} {n : Nat} {A A' : Option Addr} {m c m' c' : Nat} (hh : h.length = 8) : (stc h n A m c).set 9 (.slice A' m' c') = stc h n A' m' c' := by
  rw [stc, List.set_append_right _ _ (by rw [wds_length]; omega), wds_length, hh]; rfl
theorem stc_spl {h h' : List UInt32} {n : Nat} {A : Option Addr} {m c : Nat} (hh : h.length = 8) (hh' : h'.length = 8) : splice (stc h n A m c) 0 (wds h') = stc h' n A m c := by
  rw [splice, List.take_zero, List.nil_append, Nat.zero_add, wds_length, hh', stc, List.drop_append_of_le_length (by rw [wds_length]; omega), List.drop_of_length_le (by rw [wds_length]; omega)]; rfl
theorem newSC  : Con Tryd.prog 128 [] [] [] (fun v_ X_ S_ => ∃ g, v_ = (.pointer (some ⟨g, 0, none⟩)) ∧ X_ = [RSha g ⟨h0L, 0, none, 0, []⟩] ∧ S_ = []) := by
  refine henter (N := 4) Tryd.func128 rfl rfl (by simp) fun b => ?_
  refine hseq <| hreg <| hy (fun _ => y_assign rfl) <| hend <| hthen <| hseq <| hreg <| hy (fun _ => yV (y_buildA (n := 8) ti222 (by kernel_rfl) rfl (by kernel_rfl) rfl (by kernel_rfl) (by kernel_rfl) (wds_cells (l := [1779033703, 3144134277, 1013904242, 2773480762, 1359893119, 2600822924, 528734635, 1541459225]))) ((rfl : _ = Value.agg (wds h0L).toArray))) <| hy (fun _ => yV (y_build ti224 rfl rfl (by kernel_rfl) (.cons (o := 0) (sz := 8) (by kernel_rfl) rfl rfl (Nat.le_of_ble_eq_true rfl) .nil)) ((rfl : _ = Value.agg (stc h0L 0 none 0 0).toArray))) <| ?_
  refine hx (xh_box rfl (fun g3 => ?_))
  refine hy (fun _ => y_assign rfl) <| hend <| hsub (ρ' := [(0, _)]) ⟨rfl, trivial⟩ <| hmemQ (X' := [_]) (S' := []) (fun _ m => m) <| hthen <| hret <| ?_
  refine hmemQ (fun w m => m.eqX 0 rfl (show _ = RBlk g3 224 (stc h0L 0 none 0 0) from congrArg (RBlk _ _) (cells_agg _))) ?_
  refine hmemQ (fun w m => m.addX (r' := ROwn 5 1 (.slice none 0 0) 0 []) (.refl _ _) (Own.nil _ _ _ _) (fun k hk => hk.elim)) ?_
  refine hmemQ (X' := RSha g3 ⟨h0L, 0, none, 0, []⟩ :: _) (fun w m => (m.perm (takeR_perm [1, 0] _ [_, _] _ rfl)).pack) ?_
  exact hret1 trivial rfl rfl [0] rfl [] rfl ⟨_, rfl, rfl, rfl⟩
theorem ok_new : ShSt.ok ⟨h0L, 0, none, 0, []⟩ [] := ⟨rfl, rfl, [], rfl, rfl, rfl⟩
theorem writeSC {g : Nat} {s : ShSt} {B : Option Addr} {mb mc : Nat} {l : List UInt8} (hh : s.h.length = 8) (hn : s.n + mb ≤ 1000000000000000) (hr : s.rest.length + mb ≤ 140737488355328) : Con Tryd.prog 129 [.pointer (some ⟨g, 0, none⟩), .slice B mb mc] [RSha g s] [RRd 1 B mb (b8s l), RRoots] (fun v_ X_ S_ => ∃ s1, v_ = (.tuple #[]) ∧ X_ = [RSha g s1] ∧ S_ = [] ∧ (s1.rest.length < 64 ∧ ∀ all, s.ok all → s1.ok (all ++ l))) := by
  refine henter (N := 49) Tryd.func129 rfl rfl (by simp) fun b => ?_
  refine hfactC (fun m => rdB (m.rd 0 rfl)) ?_
  rintro ⟨hl_r, hA_r⟩
  have hlm : l.length = mb := hl_r
  have hl0 := stc_len (n := s.n) (A := s.A) (m := s.rest.length) (c := s.c) hh
  refine hmemC (fun w m => (m.perm (takeR_perm [0] _ [_] _ rfl)).unpack) ?_
  refine hseq <| hreg <| hy (fun _ => y_move rfl) <| hy (fun _ => y_nilp rfl) <| hy (fun _ => y_fld rfl fa224_1 (by decide)) <| hy (fun m => y_ld1 rfl ag3 ((m.blk 0 rfl).cells0 8 _ (stc_8 hh))) <| hy (fun _ => y_move rfl) <| hy (fun _ => y_lenS rfl Tryd.underlying32) <| hy (fun _ => y_add rfl rfl (w64 (by omega) (by omega))) <| hy (fun _ => y_nilp rfl) <| hy (fun _ => y_fld rfl fa224_1 (by decide)) <| ?_
  refine hx0 (xh_st1a 0 rfl rfl rfl sz3 rfl (by rw [hl0]; decide) ?_)
  refine hend <| hsub (ρ' := [(0, _), (1, _)]) ⟨rfl, rfl, trivial⟩ <| hmemQ (X' := [_, _]) (S' := [_, _]) (fun _ m => m) <| hthen <| hseq <| hreg <| ?_
  refine hmemL (fun w m => m.eqX 0 rfl (show _ = RBlk g 224 (stc s.h (s.n + mb) s.A s.rest.length s.c) from by rw [Nat.zero_add, ← Int.natCast_add, stc_set8 hh])) ?_
  refine hy (fun _ => y_move rfl) <| hy (fun _ => y_move rfl) <| hy (fun _ => y_nilp rfl) <| hy (fun _ => y_fld rfl fa224_2 (by decide)) <| hy (fun m => y_ld1 rfl ag32 ((m.blk 0 rfl).cells0 9 _ (stc_9 hh))) <| hy (fun _ => y_move rfl) <| ?_
  refine hx (xh_app 1 rfl rfl rfl Tryd.underlying32 Tryd.underlying32 (by exact .inl rfl) ti5 rfl (fun m => Src.of_rd (m.rd 0 rfl)) b8s_one (by unfold maxLen; omega) (by omega) (fun u => ?_))
  refine hfactL (fun m => (m.own 0 rfl).slice) ?_
  rintro ⟨A_d1, c_d1, rfl, hc_d1⟩
  refine hfactL (fun m => (m.ord 0 rfl).2.1) fun hA_d1 => ?_
  refine hmemL (fun w m => m.eqX 0 rfl (show _ = ROwn 5 1 (.slice A_d1 (s.rest ++ l).length c_d1) (s.rest ++ l).length (b8s (s.rest ++ l)) from by rw [List.length_append, hlm]; simp [b8s])) ?_
  have hls := stc_len (n := s.n + mb) (A := s.A) (m := s.rest.length) (c := s.c) hh
  refine hy (fun _ => y_nilp rfl) <| hy (fun _ => y_fld rfl fa224_2 (by decide)) <| ?_
  refine hx0 (xh_st1a 1 rfl rfl rfl sz32 rfl (by rw [hls]; decide) ?_)
  refine hend <| hsub (ρ' := [(0, _), (1, _)]) ⟨rfl, rfl, trivial⟩ <| hmemQ (X' := [_, _]) (S' := [_, _]) (fun _ m => m) <| hthen <| hblock <| ?_
  refine hmemC (fun w m => m.eqX 0 rfl (show _ = RBlk g 224 (stc s.h (s.n + mb) A_d1 (s.rest ++ l).length c_d1) from by rw [Nat.zero_add, stc_set9 hh, List.length_append, hlm])) ?_
  have hlen : (s.rest ++ l).length = s.rest.length + mb := by rw [List.length_append, hlm]
  refine hloop5 (fun h A1 c1 q dn => q.length) (fun h A1 c1 q dn => []) (fun h A1 c1 q dn => [RBlk g 224 (stc h (s.n + mb) A1 q.length c1), ROwn 5 1 (.slice A1 q.length c1) q.length (b8s q)]) (fun h A1 c1 q dn => []) (fun h A1 c1 q dn => h.length = 8 ∧ q.length ≤ c1 ∧ dn ++ q = s.rest ++ l ∧ dn.length % 64 = 0 ∧ ∀ D, D.length % 64 = 0 → s.h = foldB h0L D → h = foldB h0L (D ++ dn)) s.h A_d1 c_d1 (s.rest ++ l) [] [(0, _), (1, _)] ⟨rfl, rfl, trivial⟩ [0, 0] rfl [] rfl (⟨hh, (by omega), rfl, rfl, fun D _ e => by rw [List.append_nil]; exact e⟩) trivial (fun h A1 c1 q dn ⟨h8, hqc, hdq, hd64, hD⟩ => ?_)
  have hls := stc_len (n := s.n + mb) (A := A1) (m := q.length) (c := c1) h8
  refine hseq <| hseq <| hreg <| hy (fun _ => y_move rfl) <| hy (fun _ => y_nilp rfl) <| hy (fun _ => y_fld rfl fa224_2 (by decide)) <| hy (fun m => y_ld1 rfl ag32 ((m.blk 0 rfl).cells0 9 _ (stc_9 h8))) <| hy (fun _ => y_lenS rfl Tryd.underlying32) <| hy (fun _ => y_geq rfl rfl) <| hend <| hsub (ρ' := [(27, _), (0, _), (1, _)]) ⟨rfl, rfl, rfl, trivial⟩ <| hthen <| ?_
  refine hif rfl (fun hge => ?_) (fun hge => ?_)
  · have hq64 : 64 ≤ q.length := by omega
    refine hcskip <| hthen <| hblock <| hseq <| hdrw [10, 13] [(0, some 1), (1, some 0), (2, some 0), (3, some 0), (4, some 0), (5, some 1), (6, some 0), (7, some 0), (8, some 0), (9, some 0), (10, none), (11, some 1), (12, some 1), (13, none)] (by kernel_rfl) (by kernel_rfl) rfl 1 <| htyU (y_move rfl) <| htyU (y_move rfl) <| htyU (y_nilp rfl) <| htyU (y_fld rfl fa224_0 (by decide)) <| hty (fun m => yV (y_ldN rfl ag222 sz222 (by rw [wds_length, h8]) (fun j u hu => (m.blk 0 rfl).cells0 j u (stc_h hu))) ((rfl : _ = Value.agg (wds h).toArray))) <| htyU (y_move rfl) <| htyU (y_nilp rfl) <| htyU (y_fld rfl fa224_2 (by decide)) <| hty (fun m => y_ld1 rfl ag32 ((m.blk 0 rfl).cells0 9 _ (stc_9 h8))) <| htyU (y_slTo rfl rfl Tryd.underlying32 sz5 (show ((64 : Nat) : Int) = 64 from rfl) (by omega)) <| ?_
    refine htx (xh_calll rfl Tryd.call154 (mixC (by omega) h8 (l := (q.take 64))) [] rfl (.x 1 rfl (View.own.trans (View.take hq64)) (.s 1 rfl .nil)) ?_)
    rintro _ _ _ ⟨rfl, rfl, rfl⟩
    refine ⟨rfl, ?_⟩
    refine ⟨(fun _ => wk [0, 0] [0, 1] rfl rfl), ?_⟩
    refine htyU (y_nilp rfl) <| htyU (y_fld rfl fa224_0 (by decide)) <| ?_
    have hb8 := blockL_length h8 (q.take 64)
    refine htx0 (xh_stNa 0 rfl rfl rfl sz222 (by rw [wds_length, hb8]) wds_one (by rw [hls]; decide) ⟨(fun h => absurd h (by decide)), ?_⟩)
    refine htmem (fun w m => m.eqX 0 rfl (show _ = RBlk g 224 (stc (blockL h (q.take 64)) (s.n + mb) A1 q.length c1) from by rw [Nat.zero_add, stc_spl h8 hb8])) ?_
    have hls2 := stc_len (n := s.n + mb) (A := A1) (m := q.length) (c := c1) hb8
    refine htmem (X' := ROwn 5 1 (.slice (if c1 = 64 then A1 else A1.map (·.add (64 * 1))) (q.length - 64) (c1 - 64)) (q.length - 64) ((b8s q).drop (64 * 1)) :: _) (fun w m => (m.perm (takeR_perm [1] _ [_] _ rfl)).viewX (View.ownDrop hq64 hqc)) ?_
    refine htend <| hsub (ρ' := [(27, _), (0, _), (1, _)]) ⟨rfl, rfl, rfl, trivial⟩ <| hmemQ (X' := [_, _]) (S' := [_, _]) (fun _ m => m) <| hthen <| hreg <| hy (fun _ => y_move rfl) <| hy (fun _ => y_move rfl) <| hy (fun _ => y_nilp rfl) <| hy (fun _ => y_fld rfl fa224_2 (by decide)) <| hy (fun m => y_ld1 rfl ag32 ((m.blk 1 rfl).cells0 9 _ (stc_9 hb8))) <| hy (fun _ => y_slFrom rfl rfl Tryd.underlying32 sz5 (show ((64 : Nat) : Int) = 64 from rfl) (by omega)) <| hy (fun _ => y_nilp rfl) <| hy (fun _ => y_fld rfl fa224_2 (by decide)) <| ?_
    refine hx0 (xh_st1a 1 rfl rfl rfl sz32 rfl (by rw [hls2]; decide) ?_)
    refine hend <| hsub (ρ' := [(27, _), (0, _), (1, _)]) ⟨rfl, rfl, rfl, trivial⟩ <| hmemQ (X' := [_, _]) (S' := [_, _]) (fun _ m => m) <| hqblock <| ?_
    have hqd : (q.drop 64).length = q.length - 64 := List.length_drop
    have e9 : (b8s q).drop (64 * 1) = b8s (q.drop 64) := by simp [b8s, List.map_drop]
    generalize hA2 : (if c1 = 64 then A1 else A1.map (·.add (64 * 1))) = A2
    refine hmemQ (fun w m => m.eqX 0 rfl (show _ = RBlk g 224 (stc (blockL h (q.take 64)) (s.n + mb) A2 (q.drop 64).length (c1 - 64)) from by rw [Nat.zero_add, stc_set9 hb8, hqd])) ?_
    refine hmemQ (fun w m => m.eqX 1 rfl (show _ = ROwn 5 1 (.slice A2 (q.drop 64).length (c1 - 64)) (q.drop 64).length (b8s (q.drop 64)) from by rw [hqd, e9])) ?_
    refine hnext5 (blockL h (q.take 64)) A2 (c1 - 64) (q.drop 64) (dn ++ q.take 64) ⟨rfl, rfl, trivial⟩ [1, 0] rfl [0, 1] rfl (⟨hb8, by omega, by rw [List.append_assoc, List.take_append_drop]; exact hdq, by rw [List.length_append, List.length_take]; omega, fun D h1 h2 => by rw [← List.append_assoc, foldB_snoc (by rw [List.length_append]; omega) (by rw [List.length_take]; omega), ← hD D h1 h2]⟩) (by omega)
  · refine hexit <| hthen_exit <| hthen_exit <| hqblock_exit <| ?_
    have hok : ∀ all, s.ok all → ShSt.ok ⟨h, s.n + mb, A1, c1, q⟩ (all ++ l) := fun all ok => by
      obtain ⟨D, e1, e2, e3⟩ := ok.mid
      refine ⟨h8, ?_, D ++ dn, ?_, ?_, hD D e2 e3⟩
      · show s.n + mb = _
        rw [List.length_append, ok.n, hlm]
      · show (D ++ dn) ++ q = _
        rw [List.append_assoc, hdq, ← List.append_assoc, e1]
      · rw [List.length_append]; omega
    refine hmemQ (X' := RSha g ⟨h, s.n + mb, A1, c1, q⟩ :: _) (fun w m => (m.perm (takeR_perm [0, 0] _ [_, _] _ rfl)).pack) ?_
    exact hret0 trivial rfl [0] rfl [] rfl ⟨_, rfl, rfl, rfl, ⟨(by show q.length < 64; omega), hok⟩⟩
theorem stc_new {h : List UInt32} {n : Nat} {A : Option Addr} {m c : Nat} (hh : h.length = 8) {z : List Value} (hz : z.length = 10) : splice (splice (splice z 0 (wds h)) 8 [.int .i64 (n : Int)]) 9 [.slice A m c] = stc h n A m c := by
  have hw : (wds h).length = 8 := by rw [wds_length, hh]
  have e1 : splice z 0 (wds h) = wds h ++ z.drop 8 := by simp [splice, hw]
  match hq : z.drop 8, (show (z.drop 8).length = 2 by rw [List.length_drop, hz]) with
  | [x, y], _ =>
    rw [e1, hq]
    have e2 : splice (wds h ++ [x, y]) 8 [.int .i64 (n : Int)] = wds h ++ [.int .i64 (n : Int), y] := by
      rw [splice, List.take_append_of_le_length (by omega), List.take_of_length_le (by omega), List.drop_append, List.drop_of_length_le (by omega)]
      simp [hw]
    rw [e2, splice, List.take_append, List.take_of_length_le (by omega), List.drop_of_length_le (by simp [hw])]
    simp [hw, stc]
theorem bld_st {P : Program} {pl : Nat → Option (Nat × Nat)} {h : List UInt32} (hh : h.length = 8) {zs : List Value} (hz : zs.length = 10) (p0 : pl 0 = some (0, 8)) (p1 : pl 1 = some (8, 1)) (p2 : pl 2 = some (9, 1)) {n : Nat} {A : Option Addr} {m c : Nat} :
    Bld P pl zs [(0, .agg (wds h).toArray), (1, .int .i64 (n : Int)), (2, .slice A m c)] (stc h n A m c) := by
  have hw : (wds h).length = 8 := by rw [wds_length, hh]
  have l1 : (splice zs 0 (wds h)).length = 10 := by rw [splice_length (by omega), hz]
  have l2 : (splice (splice zs 0 (wds h)) 8 [Value.int .i64 (n : Int)]).length = 10 := by rw [splice_length (by rw [l1]; show 8 + 1 ≤ 10; decide), l1]
  refine .cons (vs := wds h) p0 rfl hw (by omega) (.cons (vs := [.int .i64 (n : Int)]) p1 rfl rfl (by omega) (.cons (vs := [.slice A m c]) p2 rfl rfl (by omega) ?_))
  have e := stc_new (n := n) (A := A) (m := m) (c := c) hh hz
  show Bld P pl (splice (splice (splice zs 0 (wds h)) 8 [.int .i64 (n : Int)]) 9 [.slice A m c]) [] _
  rw [e]
  exact .nil
theorem cloneSC {g : Nat} {s : ShSt} (hh : s.h.length = 8) (hr : s.rest.length ≤ 140737488351232) : Con Tryd.prog 155 [.pointer (some ⟨g, 0, none⟩)] [RSha g s] [] (fun v_ X_ S_ => ∃ g2 s2, v_ = (.pointer (some ⟨g2, 0, none⟩)) ∧ X_ = [RSha g s, RSha g2 s2] ∧ S_ = [] ∧ (s2.h = s.h ∧ s2.n = s.n ∧ s2.rest = s.rest)) := by
  refine henter (N := 18) Tryd.func155 rfl rfl (by simp) fun b => ?_
  refine hmemC (fun w m => (m.perm (takeR_perm [0] _ [_] _ rfl)).unpack) ?_
  have hl0 := stc_len (n := s.n) (A := s.A) (m := s.rest.length) (c := s.c) hh
  refine hseq <| hreg <| hy (fun _ => y_assign rfl) <| hend <| hthen <| hseq <| hdrw [12, 14] [(0, some 2), (1, some 1), (2, some 1), (3, some 1), (4, some 2), (5, some 1), (6, some 1), (7, some 1), (8, some 2), (9, some 2), (10, some 0), (11, some 0), (12, none), (13, some 1), (14, none), (15, some 2)] (by kernel_rfl) (by kernel_rfl) rfl 99 <| htyU (y_move rfl) <| htyU (y_nilp rfl) <| htyU (y_fld rfl fa224_0 (by decide)) <| hty (fun m => yV (y_ldN rfl ag222 sz222 (by rw [wds_length, hh]) (fun j u hu => (m.blk 0 rfl).cells0 j u (stc_h hu))) ((rfl : _ = Value.agg (wds s.h).toArray))) <| htyU (y_move rfl) <| htyU (y_nilp rfl) <| htyU (y_fld rfl fa224_1 (by decide)) <| hty (fun m => y_ld1 rfl ag3 ((m.blk 0 rfl).cells0 8 _ (stc_8 hh))) <| htyU (y_move rfl) <| htyU (y_nilp rfl) <| htyU (y_fld rfl fa224_2 (by decide)) <| hty (fun m => y_ld1 rfl ag32 ((m.blk 0 rfl).cells0 9 _ (stc_9 hh))) <| ?_
  refine htx (xh_calll rfl Tryd.call108 (cloneC (by omega)) [] rfl (.x 1 rfl .own .nil) ?_)
  rintro _ _ _ ⟨v, rfl, rfl, rfl⟩
  refine ⟨rfl, ?_⟩
  refine ⟨(fun _ => wk [1, 1] [] rfl rfl), ?_⟩
  refine htfact (fun m => (m.own 0 rfl).slice) ?_
  rintro ⟨A_x, c_x, rfl, hc_x⟩
  refine htfact (fun m => (m.ord 0 rfl).2.1) fun hA_x => ?_
  refine htyU (y_build ti224 rfl rfl (by kernel_rfl) (bld_st hh rfl (by kernel_rfl) (by kernel_rfl) (by kernel_rfl))) <| ?_
  refine htx (xh_box rfl (fun g17 => ⟨(fun _ => wk [2, 2] [] rfl rfl), ?_⟩))
  refine htyU (y_assign rfl) <| htend <| hsub (ρ' := [(2, _), (0, _)]) ⟨rfl, rfl, trivial⟩ <| hmemQ (X' := [_, _, _, _]) (S' := []) (fun _ m => m) <| hthen <| hret <| ?_
  refine hmemQ (fun w m => m.eqX 0 rfl (show _ = RBlk g17 224 (stc s.h s.n A_x s.rest.length c_x) from congrArg (RBlk _ _) (cells_agg _))) ?_
  refine hmemQ (X' := RSha g s :: _) (fun w m => (m.perm (takeR_perm [2, 2] _ [_, _] _ rfl)).pack) ?_
  refine hmemQ (X' := RSha g17 ⟨s.h, s.n, A_x, c_x, s.rest⟩ :: _) (fun w m => (m.perm (takeR_perm [1, 1] _ [_, _] _ rfl)).pack) ?_
  exact hret1 trivial rfl rfl [1, 0] rfl [] rfl ⟨_, _, rfl, rfl, rfl, ⟨rfl, rfl, rfl⟩⟩
end Go.Proofs.YtfikjheicjamhaaDoor
end
section
/- Contracts: the program's digest of bytes (layer 2): Sum. -/
set_option linter.unusedVariables false
set_option linter.unusedSimpArgs false
set_option maxRecDepth 20000
namespace Go.Proofs.YtfikjheicjamhaaDoor
open Go.Eng Go.Hx
theorem u64mod (n : Nat) (h : n < 18446744073709551616) : IntKind.u64.wrap (n : Int) = (n : Int) := by
  simp [IntKind.wrap, IntKind.signed, IntKind.bits]; omega
theorem be8_snoc {n i : Nat} (hi : i < 8) : (be8 n).take (i + 1) = (be8 n).take i ++ [UInt8.ofNat (n / 256 ^ (7 - i))] := by
  rw [be8, ← List.map_take, ← List.map_take, List.take_range, List.take_range, show min (i + 1) 8 = i + 1 by omega, show min i 8 = i by omega, List.range_succ, List.map_append]; rfl
theorem p56 {i : Nat} (hi : i < 8) : 2 ^ (56 - 8 * i) = 256 ^ (7 - i) := by
  rw [show (256 : Nat) = 2 ^ 8 from rfl, ← Nat.pow_mul]; congr 1; omega
theorem be4_get (h : List UInt32) (j : Nat) (hj : j < h.length) : digOf (h.take (j + 1)) = digOf (h.take j) ++ be4 (h.getD j 0) := by
  rw [List.take_succ_eq_append_getElem hj, digOf, digOf, List.flatMap_append]
  simp [List.getD, List.getElem?_eq_getElem hj]
theorem digOf_take (h : List UInt32) : ∀ j, j ≤ h.length → (digOf (h.take j)).length = 4 * j
  | 0, _ => rfl
  | j + 1, hj => by rw [be4_get h j (by omega), List.length_append, digOf_take h j (by omega)]; show 4 * j + 4 = _; omega
theorem set4 {p r : List UInt8} {k : Nat} {a b c d x y z u : UInt8} (hp : p.length = k) :
    ((((b8s (p ++ x :: y :: z :: u :: r)).set k (B8 a)).set (k + 1) (B8 b)).set (k + 2) (B8 c)).set (k + 3) (B8 d) = b8s (p ++ a :: b :: c :: d :: r) := by
  subst hp
  simp [b8s, List.set_append]
theorem sumSC {g : Nat} {s : ShSt} {all : List UInt8} (ok : s.ok all) (hr : s.rest.length < 64) (ha : all.length ≤ 140737488351232) : Con Tryd.prog 130 [.pointer (some ⟨g, 0, none⟩)] [RSha g s] [RRoots] (fun v_ X_ S_ => v_ = (.agg (b8s (shaL all)).toArray) ∧ X_ = [RSha g s] ∧ S_ = []) := by
  have hh := ok.len
  have hsn := ok.n
  have hl0 := stc_len (n := s.n) (A := s.A) (m := s.rest.length) (c := s.c) hh
  have hz64 : padZ s.n < 64 := Nat.mod_lt _ (by decide)
  have hzp : (s.n + (1 + padZ s.n)) % 64 = 56 := by unfold padZ; omega
  have hzm : ∀ j, j < padZ s.n → (s.n + (1 + j)) % 64 ≠ 56 := fun j hj => by unfold padZ at hj; omega
  refine henter (N := 83) Tryd.func130 rfl rfl (by simp) fun b => ?_
  refine hseq <| hreg <| ?_
  refine hx (xh_alloc ti23 (fun g2 => ?_))
  refine hend <| hmemQ (X' := [_, _]) (S' := [_]) (fun _ m => m) <| hthen <| hseq <| hreg <| hy (fun _ => y_move rfl) <| ?_
  refine hx (xh_call rfl Tryd.call155 (cloneSC (by omega) (by omega)) [1] rfl [] rfl ?_)
  rintro _ _ _ ⟨g22, s2, rfl, rfl, rfl, hp⟩
  refine hy (fun _ => y_assign rfl) <| hend <| hsub (ρ' := [(3, _), (2, _), (0, _)]) ⟨rfl, rfl, rfl, trivial⟩ <| hmemQ (X' := [_, _, _]) (S' := [_]) (fun _ m => m) <| hthen <| hseq <| hreg <| ?_
  refine hx (xh_bsl Tryd.underlying32 ti5 rfl rfl rfl (by simp [Value.cells, B8]) (by decide) (by decide) (fun g12 => ?_))
  have hA_b12 : 0 < 1 → (some (⟨g12, 0, none⟩ : Addr)) ≠ none := fun _ h => by cases h
  refine hy (fun _ => y_assign rfl) <| hend <| hsub (ρ' := [(4, _), (3, _), (2, _), (0, _)]) ⟨rfl, rfl, rfl, rfl, trivial⟩ <| hmemQ (X' := [_, _, _, _]) (S' := [_]) (fun _ m => m) <| hthen <| hseq <| hblock <| ?_
  obtain ⟨c1, c2, c3⟩ := hp
  refine hmemC (fun w m => m.eqX 0 rfl (show _ = ROwn 5 1 (.slice (some ⟨g12, 0, none⟩) 1 1) (1 + 0) (b8s (128 :: List.replicate 0 0)) from rfl)) ?_
  refine hloop3 (fun j A1 cc => padZ s.n - j) (fun j A1 cc => [(4, .slice A1 (1 + j) cc)]) (fun j A1 cc => [ROwn 5 1 (.slice A1 (1 + j) cc) (1 + j) (b8s (128 :: List.replicate j 0)), RSha g s]) (fun j A1 cc => []) (fun j A1 cc => j ≤ padZ s.n) 0 (some ⟨g12, 0, none⟩) 1 [(3, _), (2, _), (0, _)] ⟨rfl, rfl, rfl, trivial⟩ [0, 0] rfl [] rfl (Nat.zero_le _) ⟨rfl, trivial⟩ (fun j A1 cc hjz => ?_)
  refine hmemC (fun w m => (m.perm (takeR_perm [1] _ [_] _ rfl)).unpack) ?_
  refine hseq <| hseq <| hreg <| hy (fun _ => y_move rfl) <| hy (fun _ => y_nilp rfl) <| hy (fun _ => y_fld rfl fa224_1 (by decide)) <| hy (fun m => y_ld1 rfl ag3 ((m.blk 0 rfl).cells0 8 _ (stc_8 hh))) <| hy (fun _ => y_move rfl) <| hy (fun _ => y_lenS rfl Tryd.underlying32) <| hy (fun _ => y_add rfl rfl (w64 (by omega) (by omega))) <| hy (fun _ => y_rem rfl rfl (by omega) (by omega)) <| hy (fun _ => y_neq rfl rfl) <| hend <| hsub (ρ' := [(21, _), (4, _), (3, _), (2, _), (0, _)]) ⟨rfl, rfl, rfl, rfl, rfl, trivial⟩ <| hthen <| ?_
  refine hmemC (X' := RSha g s :: _) (fun w m => (m.perm (takeR_perm [0, 0] _ [_, _] _ rfl)).pack) ?_
  refine hif rfl (fun hne => ?_) (fun hne => ?_)
  · have hj : j < padZ s.n := by
      rcases Nat.lt_or_eq_of_le hjz with h | h
      · exact h
      · rw [← h] at hzp; omega
    refine hcskip <| hthen <| hblock <| hreg <| hy (fun _ => y_move rfl) <| ?_
    refine hx (xh_bsl Tryd.underlying32 ti5 rfl rfl rfl (by simp [Value.cells, B8]) (by decide) (by decide) (fun g23 => ?_))
    have hA_b23 : 0 < 1 → (some (⟨g23, 0, none⟩ : Addr)) ≠ none := fun _ h => by cases h
    refine hmemL (fun w m => m.eqX 0 rfl (show _ = ROwn 5 1 (.slice (some ⟨g23, 0, none⟩) 1 1) 1 (b8s [0]) from rfl)) ?_
    refine hx (xh_app 2 rfl rfl rfl Tryd.underlying32 Tryd.underlying32 (by exact .inl rfl) ti5 rfl (fun m => Src.of_rd (m.ord 0 rfl)) b8s_one (by unfold maxLen; omega) (by omega) (fun u => ?_))
    refine hfactL (fun m => (m.own 0 rfl).slice) ?_
    rintro ⟨A_b12, c_b12, rfl, hc_b12⟩
    refine hfactL (fun m => (m.ord 0 rfl).2.1) fun hA_b12 => ?_
    refine hy (fun _ => y_assign rfl) <| hend <| hsub (ρ' := [(4, _), (21, _), (3, _), (2, _), (0, _)]) ⟨rfl, rfl, rfl, rfl, rfl, trivial⟩ <| hmemQ (X' := [_, _, _, _, _]) (S' := [_]) (fun _ m => m) <| hqblock <| ?_
    refine hmemQ (fun w m => m.eqX 0 rfl (show _ = ROwn 5 1 (.slice A_b12 (1 + (j + 1)) c_b12) (1 + (j + 1)) (b8s (128 :: List.replicate (j + 1) 0)) from by rw [Nat.add_assoc, List.replicate_succ', b8s, b8s, b8s, ← List.map_append]; rfl)) ?_
    refine hnext3 (j + 1) A_b12 c_b12 ⟨rfl, rfl, rfl, rfl, trivial⟩ [0, 1, 1, 1] rfl [0] rfl (by omega) (by omega)
  · have hj : j = padZ s.n := by
      refine Decidable.byContradiction fun hn => ?_
      have := hzm j (by omega)
      omega
    subst hj
    have hsl : IntKind.u64.wrap ((s.n : Int) * 8) = ((8 * s.n : Nat) : Int) := by
      rw [show (s.n : Int) * 8 = ((8 * s.n : Nat) : Int) by omega]
      exact u64mod _ (by omega)
    refine hexit <| hthen_exit <| hthen_exit <| hqblock_exit <| hthen <| hseq <| hreg <| hy (fun _ => y_move rfl) <| hy (fun _ => y_nilp rfl) <| hy (fun _ => y_fld rfl fa224_1 (by decide)) <| hy (fun m => y_ld1 rfl ag3 ((show Blk _ _ _ _ from m.inP 0 rfl 0 rfl).cells0 8 _ (stc_8 hh))) <| hy (fun _ => y_conv rfl Tryd.underlying3 Tryd.underlying226 (u64mod s.n (by omega))) <| hy (fun _ => y_shl (p := 8) rfl rfl (by decide) (by decide) (by decide) hsl) <| hy (fun _ => y_assign rfl) <| hend <| hsub (ρ' := [(5, _), (21, _), (4, _), (3, _), (2, _), (0, _)]) ⟨rfl, rfl, rfl, rfl, rfl, rfl, trivial⟩ <| hthen <| hseq <| hseq <| hreg <| hy (fun _ => y_move rfl) <| hend <| hthen <| hblock <| ?_
    generalize hz : padZ s.n = z at hz64
    refine hmemC (fun w m => m.eqX 1 rfl (show _ = ROwn 5 1 (.slice A1 (1 + z + 0) cc) (1 + z + 0) (b8s (128 :: List.replicate z 0 ++ (be8 (8 * s.n)).take 0)) from by rw [List.take_zero, List.append_nil]; rfl)) ?_
    refine hloop3 (fun i A2 ce => 8 - i) (fun i A2 ce => [(4, .slice A2 (1 + z + i) ce), (31, .int .i64 (i : Nat))]) (fun i A2 ce => [ROwn 5 1 (.slice A2 (1 + z + i) ce) (1 + z + i) (b8s (128 :: List.replicate z 0 ++ (be8 (8 * s.n)).take i))]) (fun i A2 ce => []) (fun i A2 ce => i ≤ 8) 0 A1 cc [(5, _), (21, _), (3, _), (2, _), (0, _)] ⟨rfl, rfl, rfl, rfl, rfl, trivial⟩ [0] rfl [] rfl (Nat.zero_le _) ⟨rfl, rfl, trivial⟩ (fun i A2 ce hi8 => ?_)
    refine hseq <| hreg <| hy (fun _ => y_lss rfl rfl) <| hend <| hthen <| hseq <| ?_
    refine hif rfl (fun hi => ?_) (fun hi => ?_)
    · have hcv : IntKind.u8.wrap (((8 * s.n : Nat) : Int) / ((2 ^ (56 - 8 * i) : Nat) : Int)) = ((UInt8.ofNat (8 * s.n / 256 ^ (7 - i))).toNat : Int) := by
        rw [← Int.natCast_ediv, p56 (by omega)]
        exact u8mod _
      have hsb : (56 : Int) - 8 * (i : Int) = ((56 - 8 * i : Nat) : Int) := by omega
      refine hcskip <| hthen <| hseq <| hblock <| hseq <| hreg <| hy (fun _ => y_move rfl) <| hy (fun _ => y_assign rfl) <| hend <| hsub (ρ' := [(6, _), (32, _), (4, _), (31, _), (5, _), (21, _), (3, _), (2, _), (0, _)]) ⟨rfl, rfl, rfl, rfl, rfl, rfl, rfl, rfl, rfl, trivial⟩ <| hthen <| hreg <| hy (fun _ => y_move rfl) <| hy (fun _ => y_move rfl) <| hy (fun _ => y_move rfl) <| hy (fun _ => y_mul rfl rfl (w64 (by omega) (by omega))) <| hy (fun _ => y_sub rfl rfl (w64 (by omega) (by omega))) <| ?_
      rw [hsb]
      refine hy (fun _ => y_shr rfl rfl (by omega) (by simp [IntKind.bits]; omega) (show (2 : Int) ^ (((56 - 8 * i : Nat) : Int)).toNat = ((2 ^ (56 - 8 * i) : Nat) : Int) by rw [Int.toNat_natCast]; simp)) <| hy (fun _ => y_conv rfl Tryd.underlying226 Tryd.underlying5 hcv) <| ?_
      refine hx (xh_bsl Tryd.underlying32 ti5 rfl rfl rfl (by simp [Value.cells, B8]) (by decide) (by decide) (fun g41 => ?_))
      have hA_b41 : 0 < 1 → (some (⟨g41, 0, none⟩ : Addr)) ≠ none := fun _ h => by cases h
      refine hmemL (fun w m => m.eqX 0 rfl (show _ = ROwn 5 1 (.slice (some ⟨g41, 0, none⟩) 1 1) 1 (b8s [UInt8.ofNat (8 * s.n / 256 ^ (7 - i))]) from rfl)) ?_
      refine hx (xh_app 1 rfl rfl rfl Tryd.underlying32 Tryd.underlying32 (by exact .inl rfl) ti5 rfl (fun m => Src.of_rd (m.ord 0 rfl)) b8s_one (by unfold maxLen; omega) (by omega) (fun u => ?_))
      refine hfactL (fun m => (m.own 0 rfl).slice) ?_
      rintro ⟨A_b12, c_b12, rfl, hc_b12⟩
      refine hfactL (fun m => (m.ord 0 rfl).2.1) fun hA_b12 => ?_
      refine hy (fun _ => y_assign rfl) <| hend <| hsub (ρ' := [(4, _), (6, _), (32, _), (31, _), (5, _), (21, _), (3, _), (2, _), (0, _)]) ⟨rfl, rfl, rfl, rfl, rfl, rfl, rfl, rfl, rfl, trivial⟩ <| hmemQ (X' := [_, _, _, _, _]) (S' := [_]) (fun _ m => m) <| hqblock <| hthen <| hreg <| hy (fun _ => y_add rfl rfl (w64 (by omega) (by omega))) <| hy (fun _ => y_move rfl) <| hend <| hsub (ρ' := [(31, _), (4, _), (6, _), (32, _), (5, _), (21, _), (3, _), (2, _), (0, _)]) ⟨rfl, rfl, rfl, rfl, rfl, rfl, rfl, rfl, rfl, trivial⟩ <| ?_
      refine hmemQ (fun w m => m.eqX 0 rfl (show _ = ROwn 5 1 (.slice A_b12 (1 + z + (i + 1)) c_b12) (1 + z + (i + 1)) (b8s (128 :: List.replicate z 0 ++ (be8 (8 * s.n)).take (i + 1))) from by rw [be8_snoc (by omega), ← List.append_assoc]; simp [b8s, Nat.add_assoc])) ?_
      refine hnext3 (i + 1) A_b12 c_b12 ⟨rfl, rfl, rfl, rfl, rfl, rfl, rfl, trivial⟩ [0, 1, 1, 1] rfl [0] rfl (by omega) (by omega)
    · obtain rfl : i = 8 := by omega
      have hpad : all ++ (128 :: List.replicate z 0 ++ (be8 (8 * s.n)).take 8) = padL all := by
        rw [List.take_of_length_le (by simp [be8]), padL, ← hsn, hz, List.append_assoc]
      refine hexit <| hthen_exit <| hthen_exit <| hqblock_exit <| hthen <| hseq <| hreg <| hy (fun _ => y_move rfl) <| hy (fun _ => y_move rfl) <| ?_
      refine hx (xh_calll rfl Tryd.call129 (writeSC (by rw [c1]; exact hh) (by rw [c2]; omega) (by rw [c3]; omega) (s := s2) (l := (128 :: List.replicate z 0 ++ (be8 (8 * s.n)).take 8))) [2] rfl (.x 0 rfl .own (.s 0 rfl .nil)) ?_)
      rintro _ _ _ ⟨s1, rfl, rfl, rfl, hw⟩
      refine ⟨rfl, ?_⟩
      obtain ⟨hw1, hw2⟩ := hw
      have ok2 : s2.ok all := ⟨by rw [c1]; exact hh, by rw [c2]; exact hsn, by rw [c1, c3]; exact ok.mid⟩
      have ok3 := hw2 all ok2
      rw [hpad] at ok3
      have hh3 := ok3.len
      have hfin : s1.h = foldB h0L (padL all) := by
        obtain ⟨D, e1, e2, e3⟩ := ok3.mid
        have hl := congrArg List.length e1
        rw [List.length_append] at hl
        have hp := padL_length all
        have : s1.rest = [] := List.eq_nil_of_length_eq_zero (by omega)
        rw [this, List.append_nil] at e1
        rw [e3, e1]
      have hsha : digOf s1.h = shaL all := by rw [hfin]; rfl
      have hd32 := digOf_take s1.h
      have hl3 := stc_len (n := s1.n) (A := s1.A) (m := s1.rest.length) (c := s1.c) hh3
      refine hmemL (fun w m => (m.perm (takeR_perm [0] _ [_] _ rfl)).unpack) ?_
      refine hend <| hsub (ρ' := [(32, _), (4, _), (31, _), (5, _), (21, _), (3, _), (2, _), (0, _)]) ⟨rfl, rfl, rfl, rfl, rfl, rfl, rfl, rfl, trivial⟩ <| hmemQ (X' := [_, _, _, _, _]) (S' := [_]) (fun _ m => m) <| hthen <| hseq <| hreg <| ?_
      refine hx (xh_alloc ti23 (fun g7 => ?_))
      refine hmemL (fun w m => m.eqX 0 rfl (show _ = RBlk g7 23 (b8s (digOf (s1.h.take 0) ++ List.replicate (32 - 4 * 0) 0)) from rfl)) ?_
      refine hend <| hmemQ (X' := [_, _, _, _, _, _]) (S' := [_]) (fun _ m => m) <| hthen <| hseq <| hseq <| hreg <| hy (fun _ => y_move rfl) <| hy (fun _ => y_nilp rfl) <| hy (fun _ => y_fld rfl fa224_0 (by decide)) <| hy (fun m => yV (y_ldN rfl ag222 sz222 (by rw [wds_length, hh3]) (fun j u hu => (m.blk 1 rfl).cells0 j u (stc_h hu))) ((rfl : _ = Value.agg (wds s1.h).toArray))) <| hy (fun _ => y_move rfl) <| hend <| hsub (ρ' := [(51, _), (50, _), (7, _), (32, _), (4, _), (31, _), (5, _), (21, _), (3, _), (2, _), (0, _)]) ⟨rfl, rfl, rfl, rfl, rfl, rfl, rfl, rfl, rfl, rfl, rfl, trivial⟩ <| hthen <| hblock <| ?_
      refine hloop1 (fun k => 8 - k) (fun k => [(51, .int .i64 (k : Nat))]) (fun k => [RBlk g7 23 (b8s (digOf (s1.h.take k) ++ List.replicate (32 - 4 * k) 0))]) (fun k => []) (fun k => k ≤ 8) 0 [(50, _), (7, _), (32, _), (4, _), (31, _), (5, _), (21, _), (3, _), (2, _), (0, _)] ⟨rfl, rfl, rfl, rfl, rfl, rfl, rfl, rfl, rfl, rfl, trivial⟩ [0] rfl [] rfl (Nat.zero_le _) ⟨rfl, trivial⟩ (fun k hk8 => ?_)
      refine hseq <| hreg <| hy (fun _ => y_lss rfl rfl) <| hend <| hthen <| hseq <| ?_
      refine hif rfl (fun hk => ?_) (fun hk => ?_)
      · have hdk := hd32 k (by omega)
        have hr4 : List.replicate (32 - 4 * k) (0 : UInt8) = 0 :: 0 :: 0 :: 0 :: List.replicate (32 - 4 * (k + 1)) 0 := by
          rw [show 32 - 4 * k = (32 - 4 * (k + 1)) + 4 by omega]; rfl
        refine hcskip <| hthen <| hseq <| hblock <| hseq <| hreg <| hy (fun _ => y_move rfl) <| hy (fun _ => yV (y_idxV rfl rfl Tryd.underlying222 sz120 ag120 rfl (by omega) (wds_get (by omega))) ((rfl : _ = Wd (s1.h.getD k 0)))) <| hy (fun _ => y_assign rfl) <| hy (fun _ => y_assign rfl) <| hend <| hsub (ρ' := [(9, _), (8, _), (52, _), (51, _), (50, _), (7, _), (32, _), (4, _), (31, _), (5, _), (21, _), (3, _), (2, _), (0, _)]) ⟨rfl, rfl, rfl, rfl, rfl, rfl, rfl, rfl, rfl, rfl, rfl, rfl, rfl, rfl, trivial⟩ <| hthen <| hreg <| hy (fun _ => y_move rfl) <| hy (fun _ => y_mul rfl rfl (w64 (by omega) (by omega))) <| hy (fun _ => y_move rfl) <| hy (fun _ => y_mul rfl rfl (w64 (by omega) (by omega))) <| hy (fun _ => y_add rfl rfl (w64 (by omega) (by omega))) <| hy (fun _ => y_move rfl) <| hy (fun _ => y_mul rfl rfl (w64 (by omega) (by omega))) <| hy (fun _ => y_add rfl rfl (w64 (by omega) (by omega))) <| hy (fun _ => y_move rfl) <| hy (fun _ => y_mul rfl rfl (w64 (by omega) (by omega))) <| hy (fun _ => y_add rfl rfl (w64 (by omega) (by omega))) <| hy (fun _ => y_move rfl) <| hy (fun _ => y_wshrD (k := 24) (b := 16777216) (by decide) rfl rfl rfl) <| hy (fun _ => y_8w rfl Tryd.underlying120 Tryd.underlying5) <| hy (fun _ => y_move rfl) <| hy (fun _ => y_wshrD (k := 16) (b := 65536) (by decide) rfl rfl rfl) <| hy (fun _ => y_8w rfl Tryd.underlying120 Tryd.underlying5) <| hy (fun _ => y_move rfl) <| hy (fun _ => y_wshrD (k := 8) (b := 256) (by decide) rfl rfl rfl) <| hy (fun _ => y_8w rfl Tryd.underlying120 Tryd.underlying5) <| hy (fun _ => y_move rfl) <| hy (fun _ => y_8w rfl Tryd.underlying120 Tryd.underlying5) <| hy (fun _ => y_idxA1 rfl rfl Tryd.underlying23 sz5 (show ((4 * k : Nat) : Int) = _ by omega) (by omega)) <| ?_
        refine hx0 (xh_st1a 0 rfl rfl rfl sz5 rfl (by simp [b8s]; omega) ?_)
        refine hy (fun _ => y_idxA1 rfl rfl Tryd.underlying23 sz5 (show ((4 * k + 1 : Nat) : Int) = _ by omega) (by omega)) <| ?_
        refine hx0 (xh_st1a 0 rfl rfl rfl sz5 rfl (by simp [b8s]; omega) ?_)
        refine hy (fun _ => y_idxA1 rfl rfl Tryd.underlying23 sz5 (show ((4 * k + 2 : Nat) : Int) = _ by omega) (by omega)) <| ?_
        refine hx0 (xh_st1a 0 rfl rfl rfl sz5 rfl (by simp [b8s]; omega) ?_)
        refine hy (fun _ => y_idxA1 rfl rfl Tryd.underlying23 sz5 (show ((4 * k + 3 : Nat) : Int) = _ by omega) (by omega)) <| ?_
        refine hx0 (xh_st1a 0 rfl rfl rfl sz5 rfl (by simp [b8s]; omega) ?_)
        refine hend <| hsub (ρ' := [(9, _), (8, _), (52, _), (51, _), (50, _), (7, _), (32, _), (4, _), (31, _), (5, _), (21, _), (3, _), (2, _), (0, _)]) ⟨rfl, rfl, rfl, rfl, rfl, rfl, rfl, rfl, rfl, rfl, rfl, rfl, rfl, rfl, trivial⟩ <| hmemQ (X' := [_, _, _, _, _, _]) (S' := [_]) (fun _ m => m) <| hqblock <| hthen <| hreg <| hy (fun _ => y_add rfl rfl (w64 (by omega) (by omega))) <| hy (fun _ => y_move rfl) <| hend <| hsub (ρ' := [(51, _), (9, _), (8, _), (52, _), (50, _), (7, _), (32, _), (4, _), (31, _), (5, _), (21, _), (3, _), (2, _), (0, _)]) ⟨rfl, rfl, rfl, rfl, rfl, rfl, rfl, rfl, rfl, rfl, rfl, rfl, rfl, rfl, trivial⟩ <| ?_
        refine hmemQ (fun w m => m.eqX 0 rfl (show _ = RBlk g7 23 (b8s (digOf (s1.h.take (k + 1)) ++ List.replicate (32 - 4 * (k + 1)) 0)) from by rw [hr4, Nat.zero_add, Nat.zero_add, Nat.zero_add, Nat.zero_add, set4 hdk, be4_get _ _ (by omega)]; simp [be4])) ?_
        refine hnext1 (k + 1) ⟨rfl, rfl, rfl, rfl, rfl, rfl, rfl, rfl, rfl, rfl, rfl, trivial⟩ [0, 0, 0, 0, 0, 0] rfl [0] rfl (by omega) (by omega)
      · obtain rfl : k = 8 := by omega
        refine hmemC (fun w m => m.eqX 0 rfl (show _ = RBlk g7 23 (b8s (shaL all)) from by rw [List.take_of_length_le (by omega), hsha]; simp)) ?_
        refine hexit <| hthen_exit <| hthen_exit <| hqblock_exit <| hthen <| hseq <| hreg <| hy (fun m => yV (y_ldN rfl ag23 sz23 (by rw [b8s_length, shaL_length]) ((m.blk 0 rfl).cells0)) ((rfl : _ = Value.agg (b8s (shaL all)).toArray))) <| ?_
        refine hx0 (xh_stA 5 rfl rfl rfl sz23 (by rw [b8s_length, shaL_length]) b8s_one rfl ?_)
        refine hend <| hsub (ρ' := [(52, _), (51, _), (50, _), (7, _), (32, _), (4, _), (31, _), (5, _), (21, _), (3, _), (2, _), (0, _)]) ⟨rfl, rfl, rfl, rfl, rfl, rfl, rfl, rfl, rfl, rfl, rfl, rfl, trivial⟩ <| hmemQ (X' := [_, _, _, _, _, _]) (S' := [_]) (fun _ m => m) <| hthen <| hret <| ?_
        exact hretN trivial rfl rfl ag23 sz23 (by rw [b8s_length, shaL_length]) (fun m => (m.blk 0 rfl).cells0) [5] rfl [] rfl ⟨rfl, rfl, rfl⟩
theorem shaSumC {A : Option Addr} {n c : Nat} {l : List UInt8} (hn : n ≤ 140737488351232) : Con Tryd.prog 82 [.slice A n c] [] [RRd 1 A n (b8s l), RRoots] (fun v_ X_ S_ => v_ = (.agg (b8s (shaL l)).toArray) ∧ X_ = [] ∧ S_ = []) := by
  refine henter (N := 10) Tryd.func82 rfl rfl (by simp) fun b => ?_
  refine hfactC (fun m => rdB (m.rd 0 rfl)) ?_
  rintro ⟨hl_r, hA_r⟩
  have hln : l.length = n := hl_r
  refine hseq <| hreg <| ?_
  refine hx (xh_alloc ti23 (fun g2 => ?_))
  refine hend <| hmemQ (X' := [_]) (S' := [_, _]) (fun _ m => m) <| hthen <| hseq <| hreg <| ?_
  refine hx (xh_call rfl Tryd.call128 (newSC) [] rfl [] rfl ?_)
  rintro _ _ _ ⟨g, rfl, rfl, rfl⟩
  refine hy (fun _ => y_assign rfl) <| hend <| hsub (ρ' := [(3, _), (2, _), (0, _)]) ⟨rfl, rfl, rfl, trivial⟩ <| hmemQ (X' := [_, _]) (S' := [_, _]) (fun _ m => m) <| hthen <| hseq <| hreg <| hy (fun _ => y_move rfl) <| hy (fun _ => y_move rfl) <| ?_
  refine hx (xh_call rfl Tryd.call129 (writeSC rfl (by show 0 + n ≤ _; omega) (by show 0 + n ≤ _; omega) (s := ⟨h0L, 0, none, 0, []⟩)) [0] rfl [0, 1] rfl ?_)
  rintro _ _ _ ⟨s1, rfl, rfl, rfl, hw⟩
  refine hend <| hsub (ρ' := [(3, _), (2, _), (0, _)]) ⟨rfl, rfl, rfl, trivial⟩ <| hmemQ (X' := [_, _]) (S' := [_, _]) (fun _ m => m) <| hthen <| hseq <| hreg <| ?_
  obtain ⟨hw1, hw2⟩ := hw
  have ok1 := hw2 [] ok_new
  rw [List.nil_append] at ok1
  refine hy (fun _ => y_move rfl) <| ?_
  refine hx (xh_call rfl Tryd.call130 (sumSC ok1 hw1 (by omega) (all := l)) [0] rfl [1] rfl ?_)
  rintro _ _ _ ⟨rfl, rfl, rfl⟩
  refine hx0 (xh_stA 1 rfl rfl rfl sz23 (by rw [b8s_length, shaL_length]) b8s_one rfl ?_)
  refine hend <| hsub (ρ' := [(3, _), (2, _), (0, _)]) ⟨rfl, rfl, rfl, trivial⟩ <| hmemQ (X' := [_, _]) (S' := [_, _]) (fun _ m => m) <| hthen <| hret <| ?_
  exact hretN trivial rfl rfl ag23 sz23 (by rw [b8s_length, shaL_length]) (fun m => (m.blk 0 rfl).cells0) [] rfl [] rfl ⟨rfl, rfl, rfl⟩
end Go.Proofs.YtfikjheicjamhaaDoor
end
section
/- Contracts: the document's digest of bytes (layer 2). -/
set_option linter.unusedVariables false
set_option linter.unusedSimpArgs false
set_option maxRecDepth 20000
namespace Go.Proofs.YtfikjheicjamhaaDoor
open Go.Eng Go.Hx
theorem rturnC {x : UInt32} {n : Nat} (hn : n ≤ 32) : Con Tryd.prog 133 [Wd x, .int .i64 (n : Int)] [] [] (fun v_ X_ S_ => v_ = (Wd (rotr n x)) ∧ X_ = [] ∧ S_ = []) := by
  refine henter (N := 18) Tryd.func133 rfl rfl (by simp) fun b => ?_
  refine hseq <| hreg <| hy (fun _ => y_assign rfl) <| hend <| hthen <| hseq <| hseq <| hreg <| hy (fun _ => y_assign rfl) <| hend <| hthen <| hblock <| ?_
  refine hloop2 (fun i y => n - i) (fun i y => [(0, Wd y), (5, .int .i64 (i : Nat))]) (fun i y => []) (fun i y => []) (fun i y => i ≤ n ∧ y = rotr i x) 0 x [(4, _), (1, _)] ⟨rfl, rfl, trivial⟩ [] rfl [] rfl (⟨Nat.zero_le _, (rotr_zero x).symm⟩) ⟨rfl, rfl, trivial⟩ (fun i y ⟨hin, hyv⟩ => ?_)
  refine hseq <| hseq <| hreg <| hy (fun _ => y_move rfl) <| hy (fun _ => y_move rfl) <| hy (fun _ => y_lss rfl rfl) <| hend <| hsub (ρ' := [(8, _), (0, _), (5, _), (4, _), (1, _)]) ⟨rfl, rfl, rfl, rfl, rfl, trivial⟩ <| hthen <| ?_
  refine hif rfl (fun h => ?_) (fun h => ?_)
  · refine hcskip <| hthen <| hseq <| hblock <| hreg <| hy (fun _ => y_move rfl) <| hy (fun _ => y_wquo (b := 2) (by decide) rfl rfl) <| hy (fun _ => y_move rfl) <| hy (fun _ => y_wrem (b := 2) (by decide) rfl rfl) <| hy (fun _ => y_wmul (b := 2147483648) rfl rfl) <| hy (fun _ => yV (y_wadd rfl rfl) ((rfl : _ = Wd (turn1 y)))) <| hy (fun _ => y_assign rfl) <| hend <| hsub (ρ' := [(0, _), (8, _), (5, _), (4, _), (1, _)]) ⟨rfl, rfl, rfl, rfl, rfl, trivial⟩ <| hqblock <| hthen <| hreg <| hy (fun _ => y_move rfl) <| hy (fun _ => y_add rfl rfl (w64 (by omega) (by omega))) <| hy (fun _ => y_assign rfl) <| hend <| hsub (ρ' := [(5, _), (0, _), (8, _), (4, _), (1, _)]) ⟨rfl, rfl, rfl, rfl, rfl, trivial⟩ <| ?_
    refine hnext2 (i + 1) (turn1 y) ⟨rfl, rfl, rfl, rfl, trivial⟩ [] rfl [] rfl (⟨by omega, by rw [hyv, rotr_succ (by omega)]⟩) (by omega)
  · obtain rfl : i = n := by omega
    subst hyv
    refine hexit <| hthen_exit <| hthen_exit <| hqblock_exit <| hthen <| hseq <| hreg <| hy (fun _ => y_move rfl) <| hy (fun _ => y_assign rfl) <| hend <| hsub (ρ' := [(4, _), (8, _), (0, _), (5, _), (1, _)]) ⟨rfl, rfl, rfl, rfl, rfl, trivial⟩ <| hthen <| hret <| ?_
    exact hret1 trivial rfl rfl [] rfl [] rfl ⟨rfl, rfl, rfl⟩
theorem rwordC {A : Option Addr} {n c : Nat} {l : List UInt8} {i : Nat} (hi : i + 4 ≤ n) (hn : n ≤ 1000000000000) : Con Tryd.prog 132 [.slice A n c, .int .i64 (i : Int)] [] [RRd 1 A n (b8s l)] (fun v_ X_ S_ => v_ = (Wd (word4 l i)) ∧ X_ = [] ∧ S_ = []) := by
  refine henter (N := 34) Tryd.func132 rfl rfl (by simp) fun b => ?_
  refine hfactC (fun m => rdB (m.rd 0 rfl)) ?_
  rintro ⟨hl_r, hA_r⟩
  have hl : l.length = n := hl_r
  refine hseq <| hreg <| hy (fun _ => y_assign rfl) <| hend <| hthen <| hseq <| hdrw [] [(0, some 0), (1, some 0), (2, some 0), (3, some 0), (4, some 0), (5, some 0), (6, some 0), (7, some 0), (8, some 0), (9, some 0), (10, some 0), (11, some 0), (12, some 0), (13, some 0), (14, some 0), (15, some 0), (16, some 0), (17, some 0), (18, some 0), (19, some 0), (20, some 0), (21, some 0), (22, some 0), (23, some 0), (24, some 0), (25, some 0), (26, some 0), (27, some 0), (28, some 0), (29, some 0)] (by kernel_rfl) (by kernel_rfl) rfl 99 <| htyU (y_move rfl) <| htyU (y_move rfl) <| htyU (y_idxS1 rfl rfl Tryd.underlying32 sz5 hA_r rfl (by omega)) <| hty (fun m => y_ld1 rfl ag5 ((m.rd 0 rfl).cell (b8s_get (by omega)))) <| htyU (y_w8 rfl Tryd.underlying5 Tryd.underlying120) <| htyU (y_wmul (b := 16777216) rfl rfl) <| htyU (y_move rfl) <| htyU (y_move rfl) <| htyU (y_add rfl rfl (w64 (by omega) (by omega))) <| htyU (y_idxS1 rfl rfl Tryd.underlying32 sz5 hA_r (show ((i + 1 : Nat) : Int) = _ by omega) (by omega)) <| hty (fun m => y_ld1 rfl ag5 ((m.rd 0 rfl).cell (b8s_get (by omega)))) <| htyU (y_w8 rfl Tryd.underlying5 Tryd.underlying120) <| htyU (y_wmul (b := 65536) rfl rfl) <| htyU (y_wadd rfl rfl) <| htyU (y_move rfl) <| htyU (y_move rfl) <| htyU (y_add rfl rfl (w64 (by omega) (by omega))) <| htyU (y_idxS1 rfl rfl Tryd.underlying32 sz5 hA_r (show ((i + 2 : Nat) : Int) = _ by omega) (by omega)) <| hty (fun m => y_ld1 rfl ag5 ((m.rd 0 rfl).cell (b8s_get (by omega)))) <| htyU (y_w8 rfl Tryd.underlying5 Tryd.underlying120) <| htyU (y_wmul (b := 256) rfl rfl) <| htyU (y_wadd rfl rfl) <| htyU (y_move rfl) <| htyU (y_move rfl) <| htyU (y_add rfl rfl (w64 (by omega) (by omega))) <| htyU (y_idxS1 rfl rfl Tryd.underlying32 sz5 hA_r (show ((i + 3 : Nat) : Int) = _ by omega) (by omega)) <| hty (fun m => y_ld1 rfl ag5 ((m.rd 0 rfl).cell (b8s_get (by omega)))) <| htyU (y_w8 rfl Tryd.underlying5 Tryd.underlying120) <| htyU (yV (y_wadd rfl rfl) ((show Wd ((l.getD i 0).toUInt32 * 16777216 + (l.getD (i + 1) 0).toUInt32 * 65536 + (l.getD (i + 2) 0).toUInt32 * 256 + (l.getD (i + 3) 0).toUInt32) = Wd (word4 l i) by rw [word4_sum]))) <| htyU (y_assign rfl) <| htend <| hsub (ρ' := [(4, _), (0, _), (1, _)]) ⟨rfl, rfl, rfl, trivial⟩ <| hthen <| hret <| ?_
  exact hret1 trivial rfl rfl [] rfl [] rfl ⟨rfl, rfl, rfl⟩
theorem rrootsC  : Con Tryd.prog 131 [] [] [] (fun v_ X_ S_ => ∃ v, v_ = v ∧ X_ = [ROwn 120 1 v 64 (wds rootsL)] ∧ S_ = []) := by
  refine henter (N := 2) Tryd.func131 rfl rfl (by simp) fun b => ?_
  refine hseq <| hreg <| hy (fun _ => y_assign rfl) <| hend <| hthen <| hseq <| hreg <| ?_
  refine hx (xh_bsl Tryd.underlying139 ti120 rfl rfl rfl (by decide) (by decide) (by decide) (fun g1 => ?_))
  have hA_b1 : 0 < 64 → (some (⟨g1, 0, none⟩ : Addr)) ≠ none := fun _ h => by cases h
  refine hy (fun _ => y_assign rfl) <| hend <| hsub (ρ' := [(0, _)]) ⟨rfl, trivial⟩ <| hmemQ (X' := [_]) (S' := []) (fun _ m => m) <| hthen <| hret <| ?_
  refine hmemQ (fun w m => m.eqX 0 rfl (show _ = ROwn 120 1 (.slice (some ⟨g1, 0, none⟩) 64 64) 64 (wds rootsL) from rfl)) ?_
  exact hret1 trivial rfl rfl [0] rfl [] rfl ⟨_, rfl, rfl, rfl⟩
theorem rblockC {H : Option Addr} {hc : Nat} {A : Option Addr} {c : Nat} {l : List UInt8} {h : List UInt32} (hcc : 64 ≤ c) (hh : h.length = 8) : Con Tryd.prog 85 [.slice H 8 hc, .slice A 64 c] [] [RRd 1 H 8 (wds h), RRd 1 A 64 (b8s l)] (fun v_ X_ S_ => ∃ u, v_ = u ∧ X_ = [ROwn 120 1 u 8 (wds (blockL h l))] ∧ S_ = []) := by
  refine henter (N := 230) Tryd.func85 rfl rfl (by simp) fun b => ?_
  refine hfactC (fun m => rdX (m.rd 0 rfl)) ?_
  rintro ⟨hl_q, hA_q⟩
  refine hfactC (fun m => rdB (m.rd 1 rfl)) ?_
  rintro ⟨hl_r, hA_r⟩
  have hl : l.length = 64 := hl_r
  refine hseq <| hreg <| hy (fun _ => y_assign rfl) <| hend <| hthen <| hseq <| hreg <| ?_
  refine hx (xh_call rfl Tryd.call131 (rrootsC) [] rfl [] rfl ?_)
  rintro _ _ _ ⟨v, rfl, rfl, rfl⟩
  refine hfactL (fun m => (m.own 0 rfl).slice) ?_
  rintro ⟨A_x, c_x, rfl, hc_x⟩
  refine hfactL (fun m => (m.ord 0 rfl).2.1) fun hA_x => ?_
  refine hy (fun _ => y_assign rfl) <| hend <| hsub (ρ' := [(5, _), (4, _), (0, _), (1, _)]) ⟨rfl, rfl, rfl, rfl, trivial⟩ <| hmemQ (X' := [_]) (S' := [_, _]) (fun _ m => m) <| hthen <| hseq <| hreg <| hy (fun _ => y_assign rfl) <| hend <| hthen <| hseq <| hseq <| hreg <| hy (fun _ => y_assign rfl) <| hend <| hthen <| hblock <| ?_
  refine hmemC (fun w m => m.addX (r' := ROwn 120 1 (.slice none 0 0) 0 []) (.refl _ _) (Own.nil _ _ _ _) (fun k hk => hk.elim)) ?_
  refine hmemC (fun w m => m.eqX 0 rfl (show _ = ROwn 120 1 (.slice none 0 0) 0 (wds (wl l 0)) from rfl)) ?_
  refine hloop3 (fun i A1 c1 => 16 - i) (fun i A1 c1 => [(6, .slice A1 i c1), (7, .int .i64 (i : Nat))]) (fun i A1 c1 => [ROwn 120 1 (.slice A1 i c1) i (wds (wl l i))]) (fun i A1 c1 => []) (fun i A1 c1 => i ≤ 16) 0 none 0 [(5, _), (4, _), (0, _), (1, _)] ⟨rfl, rfl, rfl, rfl, trivial⟩ [0] rfl [] rfl (Nat.zero_le _) ⟨rfl, rfl, trivial⟩ (fun i A1 c1 hI => ?_)
  refine hseq <| hseq <| hreg <| hy (fun _ => y_move rfl) <| hy (fun _ => y_lss rfl rfl) <| hend <| hsub (ρ' := [(21, _), (6, _), (7, _), (5, _), (4, _), (0, _), (1, _)]) ⟨rfl, rfl, rfl, rfl, rfl, rfl, rfl, trivial⟩ <| hthen <| ?_
  refine hif rfl (fun hlt => ?_) (fun hlt => ?_)
  · have hws : wl l (i + 1) = wl l i ++ [word4 l (4 * i)] := by rw [wl, if_pos (by omega)]
    refine hcskip <| hthen <| hseq <| hblock <| hreg <| hy (fun _ => y_move rfl) <| hy (fun _ => y_move rfl) <| hy (fun _ => y_move rfl) <| hy (fun _ => y_mul rfl rfl (w64 (by omega) (by omega))) <| ?_
    rw [show (4 : Int) * (i : Int) = ((4 * i : Nat) : Int) by omega]
    refine hx (xh_call rfl Tryd.call132 (rwordC (by omega) (by omega) (i := 4 * i)) [] rfl [1] rfl ?_)
    rintro _ _ _ ⟨rfl, rfl, rfl⟩
    refine hx (xh_bsl Tryd.underlying139 ti120 rfl rfl rfl (by simp [Value.cells, B8]) (by decide) (by decide) (fun g29 => ?_))
    have hA_b29 : 0 < 1 → (some (⟨g29, 0, none⟩ : Addr)) ≠ none := fun _ h => by cases h
    refine hmemL (fun w m => m.eqX 0 rfl (show _ = ROwn 120 1 (.slice (some ⟨g29, 0, none⟩) 1 1) 1 (wds [word4 l (4 * i)]) from rfl)) ?_
    refine hx (xh_app 1 rfl rfl rfl Tryd.underlying139 Tryd.underlying139 (by exact .inl rfl) ti120 rfl (fun m => Src.of_rd (m.ord 0 rfl)) wds_one (by unfold maxLen; omega) (by omega) (fun u => ?_))
    refine hfactL (fun m => (m.own 0 rfl).slice) ?_
    rintro ⟨A_o, c_o, rfl, hc_o⟩
    refine hfactL (fun m => (m.ord 0 rfl).2.1) fun hA_o => ?_
    refine hmemL (fun w m => m.eqX 0 rfl (show _ = ROwn 120 1 (.slice A_o (i + 1) c_o) (i + 1) (wds (wl l (i + 1))) from by rw [hws, wds_append])) ?_
    refine hy (fun _ => y_assign rfl) <| hend <| hsub (ρ' := [(6, _), (21, _), (7, _), (5, _), (4, _), (0, _), (1, _)]) ⟨rfl, rfl, rfl, rfl, rfl, rfl, rfl, trivial⟩ <| hmemQ (X' := [_, _, _]) (S' := [_, _]) (fun _ m => m) <| hqblock <| hthen <| hreg <| hy (fun _ => y_move rfl) <| hy (fun _ => y_add rfl rfl (w64 (by omega) (by omega))) <| hy (fun _ => y_assign rfl) <| hend <| hsub (ρ' := [(7, _), (6, _), (21, _), (5, _), (4, _), (0, _), (1, _)]) ⟨rfl, rfl, rfl, rfl, rfl, rfl, rfl, trivial⟩ <| ?_
    refine hnext3 (i + 1) A_o c_o ⟨rfl, rfl, rfl, rfl, rfl, rfl, trivial⟩ [0, 1] rfl [0, 1] rfl (by omega) (by omega)
  · obtain rfl : i = 16 := by omega
    refine hexit <| hthen_exit <| hthen_exit <| hqblock_exit <| hthen <| hseq <| hseq <| hreg <| hy (fun _ => y_assign rfl) <| hend <| hthen <| hblock <| ?_
    refine hloop3 (fun i A1 c1 => 64 - i) (fun i A1 c1 => [(6, .slice A1 i c1), (8, .int .i64 (i : Nat))]) (fun i A1 c1 => [ROwn 120 1 (.slice A1 i c1) i (wds (wl l i))]) (fun i A1 c1 => []) (fun i A1 c1 => 16 ≤ i ∧ i ≤ 64) 16 A1 c1 [(21, _), (7, _), (5, _), (4, _), (0, _), (1, _)] ⟨rfl, rfl, rfl, rfl, rfl, rfl, trivial⟩ [0] rfl [] rfl (⟨Nat.le_refl _, by decide⟩) ⟨rfl, rfl, trivial⟩ (fun i A1 c1 ⟨hi16, hi64⟩ => ?_)
    have hwl := wl_length l i
    refine hfactC (fun m => (m.ord 0 rfl).2.1) fun hA_o => ?_
    refine hseq <| hseq <| hreg <| hy (fun _ => y_move rfl) <| hy (fun _ => y_lss rfl rfl) <| hend <| hsub (ρ' := [(32, _), (6, _), (8, _), (21, _), (7, _), (5, _), (4, _), (0, _), (1, _)]) ⟨rfl, rfl, rfl, rfl, rfl, rfl, rfl, rfl, rfl, trivial⟩ <| hthen <| ?_
    refine hif rfl (fun hlt => ?_) (fun hlt => ?_)
    · have hws : wl l (i + 1) = wl l i ++ [wnext (wl l i) i] := by rw [wl, if_neg (by omega)]
      refine hcskip <| hthen <| hseq <| hblock <| hseq <| hdrw [5, 11] [(0, some 0), (1, some 2), (2, some 0), (3, some 0), (4, some 0), (6, some 1), (7, some 1), (8, some 1), (9, some 1), (10, some 1), (13, some 2), (14, some 2), (15, some 2), (16, some 2), (17, some 2), (18, some 2), (5, none), (11, none), (12, some 2), (19, some 2), (20, some 2)] (by kernel_rfl) (by kernel_rfl) rfl 99 <| htyU (y_move rfl) <| htyU (y_move rfl) <| htyU (y_sub rfl rfl (w64 (by omega) (by omega))) <| htyU (y_idxS1 rfl rfl Tryd.underlying139 sz120 hA_o (show ((i - 15 : Nat) : Int) = _ by omega) (by omega)) <| hty (fun m => y_ld1 rfl ag120 ((m.ord 0 rfl).cell (j := i - 15) (wds_get (by omega)))) <| htyU (y_move rfl) <| htyU (y_move rfl) <| htyU (y_sub rfl rfl (w64 (by omega) (by omega))) <| htyU (y_idxS1 rfl rfl Tryd.underlying139 sz120 hA_o (show ((i - 15 : Nat) : Int) = _ by omega) (by omega)) <| hty (fun m => y_ld1 rfl ag120 ((m.ord 0 rfl).cell (j := i - 15) (wds_get (by omega)))) <| htyU (y_move rfl) <| htyU (y_move rfl) <| htyU (y_sub rfl rfl (w64 (by omega) (by omega))) <| htyU (y_idxS1 rfl rfl Tryd.underlying139 sz120 hA_o (show ((i - 15 : Nat) : Int) = _ by omega) (by omega)) <| hty (fun m => y_ld1 rfl ag120 ((m.ord 0 rfl).cell (j := i - 15) (wds_get (by omega)))) <| htyU (y_wquo (b := 8) (by decide) rfl rfl) <| ?_
      refine htx (xh_call rfl Tryd.call133 (rturnC (by omega) (n := 7)) [] rfl [] rfl ?_)
      rintro _ _ _ ⟨rfl, rfl, rfl⟩
      refine ⟨(fun _ => wk [0, 0] [0, 1] rfl rfl), ?_⟩
      refine htx (xh_call rfl Tryd.call133 (rturnC (by omega) (n := 18)) [] rfl [] rfl ?_)
      rintro _ _ _ ⟨rfl, rfl, rfl⟩
      refine ⟨(fun _ => wk [0, 0] [0, 1] rfl rfl), ?_⟩
      refine htyU (y_wxor rfl rfl) <| htyU (y_wxor rfl rfl) <| htyU (y_assign rfl) <| htend <| hsub (ρ' := [(9, _), (32, _), (6, _), (8, _), (21, _), (7, _), (5, _), (4, _), (0, _), (1, _)]) ⟨rfl, rfl, rfl, rfl, rfl, rfl, rfl, rfl, rfl, rfl, trivial⟩ <| hmemQ (X' := [_, _]) (S' := [_, _]) (fun _ m => m) <| hthen <| hseq <| hdrw [5, 11] [(0, some 0), (1, some 2), (2, some 0), (3, some 0), (4, some 0), (6, some 1), (7, some 1), (8, some 1), (9, some 1), (10, some 1), (13, some 2), (14, some 2), (15, some 2), (16, some 2), (17, some 2), (18, some 2), (5, none), (11, none), (12, some 2), (19, some 2), (20, some 2)] (by kernel_rfl) (by kernel_rfl) rfl 99 <| htyU (y_move rfl) <| htyU (y_move rfl) <| htyU (y_sub rfl rfl (w64 (by omega) (by omega))) <| htyU (y_idxS1 rfl rfl Tryd.underlying139 sz120 hA_o (show ((i - 2 : Nat) : Int) = _ by omega) (by omega)) <| hty (fun m => y_ld1 rfl ag120 ((m.ord 0 rfl).cell (j := i - 2) (wds_get (by omega)))) <| htyU (y_move rfl) <| htyU (y_move rfl) <| htyU (y_sub rfl rfl (w64 (by omega) (by omega))) <| htyU (y_idxS1 rfl rfl Tryd.underlying139 sz120 hA_o (show ((i - 2 : Nat) : Int) = _ by omega) (by omega)) <| hty (fun m => y_ld1 rfl ag120 ((m.ord 0 rfl).cell (j := i - 2) (wds_get (by omega)))) <| htyU (y_move rfl) <| htyU (y_move rfl) <| htyU (y_sub rfl rfl (w64 (by omega) (by omega))) <| htyU (y_idxS1 rfl rfl Tryd.underlying139 sz120 hA_o (show ((i - 2 : Nat) : Int) = _ by omega) (by omega)) <| hty (fun m => y_ld1 rfl ag120 ((m.ord 0 rfl).cell (j := i - 2) (wds_get (by omega)))) <| htyU (y_wquo (b := 1024) (by decide) rfl rfl) <| ?_
      refine htx (xh_call rfl Tryd.call133 (rturnC (by omega) (n := 17)) [] rfl [] rfl ?_)
      rintro _ _ _ ⟨rfl, rfl, rfl⟩
      refine ⟨(fun _ => wk [0, 0] [0, 1] rfl rfl), ?_⟩
      refine htx (xh_call rfl Tryd.call133 (rturnC (by omega) (n := 19)) [] rfl [] rfl ?_)
      rintro _ _ _ ⟨rfl, rfl, rfl⟩
      refine ⟨(fun _ => wk [0, 0] [0, 1] rfl rfl), ?_⟩
      refine htyU (y_wxor rfl rfl) <| htyU (y_wxor rfl rfl) <| htyU (y_assign rfl) <| htend <| hsub (ρ' := [(10, _), (9, _), (32, _), (6, _), (8, _), (21, _), (7, _), (5, _), (4, _), (0, _), (1, _)]) ⟨rfl, rfl, rfl, rfl, rfl, rfl, rfl, rfl, rfl, rfl, rfl, trivial⟩ <| hmemQ (X' := [_, _]) (S' := [_, _]) (fun _ m => m) <| hthen <| hdrw [5, 16, 17] [(0, some 2), (1, some 3), (2, some 3), (3, some 3), (4, some 3), (6, some 3), (8, some 3), (9, some 3), (10, some 3), (11, some 3), (12, some 1), (14, some 1), (5, none), (7, some 1), (13, some 1), (15, some 1), (16, none), (17, none), (18, some 3)] (by kernel_rfl) (by kernel_rfl) rfl 2 <| htyU (y_move rfl) <| htyU (y_move rfl) <| htyU (y_move rfl) <| htyU (y_sub rfl rfl (w64 (by omega) (by omega))) <| htyU (y_idxS1 rfl rfl Tryd.underlying139 sz120 hA_o (show ((i - 16 : Nat) : Int) = _ by omega) (by omega)) <| htyU (y_move rfl) <| htyU (y_move rfl) <| htyU (y_move rfl) <| htyU (y_sub rfl rfl (w64 (by omega) (by omega))) <| htyU (y_idxS1 rfl rfl Tryd.underlying139 sz120 hA_o (show ((i - 7 : Nat) : Int) = _ by omega) (by omega)) <| hty (fun m => y_ld1 rfl ag120 ((m.ord 0 rfl).cell (j := i - 7) (wds_get (by omega)))) <| htyU (y_move rfl) <| hts (fun _ => wk [0, 0] [0, 1] rfl rfl) (fun m => y_ld1 rfl ag120 ((m.ord 0 rfl).cell (j := i - 16) (wds_get (by omega)))) <| htyU (y_wadd rfl rfl) <| htyU (y_wadd rfl rfl) <| htyU (yV (y_wadd rfl rfl) ((rfl : _ = Wd (wnext (wl l i) i)))) <| ?_
      refine htx (xh_bsl Tryd.underlying139 ti120 rfl rfl rfl (by exact wds_size (l := [_])) (by decide) (by decide) (fun g91 => ⟨(fun _ => wk [1, 1] [0, 1] rfl rfl), ?_⟩))
      have hA_b91 : 0 < 1 → (some (⟨g91, 0, none⟩ : Addr)) ≠ none := fun _ h => by cases h
      refine htmem (fun w m => m.eqX 0 rfl (show _ = ROwn 120 1 (.slice (some ⟨g91, 0, none⟩) 1 1) 1 (wds [wnext (wl l i) i]) from rfl)) ?_
      refine htx (xh_app 1 rfl rfl rfl Tryd.underlying139 Tryd.underlying139 (by exact .inl rfl) ti120 rfl (fun m => Src.of_rd (m.ord 0 rfl)) wds_one (by unfold maxLen; omega) (by omega) (fun u => ⟨(fun h => absurd h (by decide)), ?_⟩))
      refine htfact (fun m => (m.own 0 rfl).slice) ?_
      rintro ⟨A_o, c_o, rfl, hc_o⟩
      refine htfact (fun m => (m.ord 0 rfl).2.1) fun hA_o => ?_
      refine htmem (fun w m => m.eqX 0 rfl (show _ = ROwn 120 1 (.slice A_o (i + 1) c_o) (i + 1) (wds (wl l (i + 1))) from by rw [hws, wds_append])) ?_
      refine htyU (y_assign rfl) <| htend <| hsub (ρ' := [(6, _), (10, _), (9, _), (32, _), (8, _), (21, _), (7, _), (5, _), (4, _), (0, _), (1, _)]) ⟨rfl, rfl, rfl, rfl, rfl, rfl, rfl, rfl, rfl, rfl, rfl, trivial⟩ <| hmemQ (X' := [_, _, _]) (S' := [_, _]) (fun _ m => m) <| hqblock <| hthen <| hreg <| hy (fun _ => y_move rfl) <| hy (fun _ => y_add rfl rfl (w64 (by omega) (by omega))) <| hy (fun _ => y_assign rfl) <| hend <| hsub (ρ' := [(8, _), (6, _), (10, _), (9, _), (32, _), (21, _), (7, _), (5, _), (4, _), (0, _), (1, _)]) ⟨rfl, rfl, rfl, rfl, rfl, rfl, rfl, rfl, rfl, rfl, rfl, trivial⟩ <| ?_
      refine hnext3 (i + 1) A_o c_o ⟨rfl, rfl, rfl, rfl, rfl, rfl, rfl, rfl, trivial⟩ [0, 1] rfl [0, 1] rfl (⟨by omega, by omega⟩) (by omega)
    · obtain rfl : i = 64 := by omega
      obtain ⟨W, hW⟩ : ∃ W, wl l 64 = W := ⟨_, rfl⟩
      have hw64 : W.length = 64 := by rw [← hW]; exact wl_length l 64
      rw [hW]
      refine hexit <| hthen_exit <| hthen_exit <| hqblock_exit <| hthen <| hseq <| hreg <| hy (fun _ => y_assign rfl) <| hend <| hthen <| hseq <| hreg <| hy (fun _ => y_move rfl) <| hy (fun _ => y_move rfl) <| ?_
      refine hmemL (fun w m => m.addX (r' := ROwn 120 1 (.slice none 0 0) 0 []) (.refl _ _) (Own.nil _ _ _ _) (fun k hk => hk.elim)) ?_
      refine hx (xh_app 0 rfl rfl rfl Tryd.underlying139 Tryd.underlying139 (by exact .inl rfl) ti120 rfl (fun m => Src.of_rd (m.rd 0 rfl)) wds_one (by unfold maxLen; omega) (by omega) (fun u => ?_))
      refine hfactL (fun m => (m.own 0 rfl).slice) ?_
      rintro ⟨A_v, c_v, rfl, hc_v⟩
      refine hfactL (fun m => (m.ord 0 rfl).2.1) fun hA_v => ?_
      refine hmemL (fun w m => m.eqX 0 rfl (show _ = ROwn 120 1 (.slice A_v 8 c_v) 8 (wds (rnds W h 0)) from rfl)) ?_
      refine hy (fun _ => y_assign rfl) <| hend <| hsub (ρ' := [(11, _), (32, _), (6, _), (8, _), (21, _), (7, _), (5, _), (4, _), (0, _), (1, _)]) ⟨rfl, rfl, rfl, rfl, rfl, rfl, rfl, rfl, rfl, rfl, trivial⟩ <| hmemQ (X' := [_, _, _]) (S' := [_, _]) (fun _ m => m) <| hthen <| hseq <| hseq <| hreg <| hy (fun _ => y_assign rfl) <| hend <| hthen <| hblock <| ?_
      refine hloop3 (fun i A2 c2 => 64 - i) (fun i A2 c2 => [(11, .slice A2 8 c2), (12, .int .i64 (i : Nat))]) (fun i A2 c2 => [ROwn 120 1 (.slice A2 8 c2) 8 (wds (rnds W h i))]) (fun i A2 c2 => []) (fun i A2 c2 => i ≤ 64) 0 A_v c_v [(32, _), (6, _), (8, _), (21, _), (7, _), (5, _), (4, _), (0, _), (1, _)] ⟨rfl, rfl, rfl, rfl, rfl, rfl, rfl, rfl, rfl, trivial⟩ [0] rfl [] rfl (Nat.zero_le _) ⟨rfl, rfl, trivial⟩ (fun i A2 c2 hi64 => ?_)
      have hv := rnds_length (w := W) hh i
      have hro : rootsL.length = 64 := rfl
      refine hfactC (fun m => (m.ord 0 rfl).2.1) fun hA_v => ?_
      refine hfactC (fun m => (m.ord 2 rfl).2.1) fun hA_x => ?_
      refine hfactC (fun m => (m.ord 1 rfl).2.1) fun hA_o => ?_
      refine hseq <| hseq <| hreg <| hy (fun _ => y_move rfl) <| hy (fun _ => y_lss rfl rfl) <| hend <| hsub (ρ' := [(97, _), (11, _), (12, _), (32, _), (6, _), (8, _), (21, _), (7, _), (5, _), (4, _), (0, _), (1, _)]) ⟨rfl, rfl, rfl, rfl, rfl, rfl, rfl, rfl, rfl, rfl, rfl, rfl, trivial⟩ <| hthen <| ?_
      refine hif rfl (fun hlt => ?_) (fun hlt => ?_)
      · generalize hvd : rnds W h i = v at hv ⊢
        refine hcskip <| hthen <| hseq <| hblock <| hseq <| hdrw [3, 7, 12] [(0, some 3), (1, some 0), (2, some 0), (4, some 1), (5, some 1), (6, some 1), (9, some 2), (10, some 2), (11, some 2), (3, none), (7, none), (8, some 3), (12, none), (13, some 3), (14, some 3)] (by kernel_rfl) (by kernel_rfl) rfl 99 <| htyU (y_move rfl) <| htyU (y_idxS1 rfl rfl Tryd.underlying139 sz120 hA_v (show ((4 : Nat) : Int) = 4 from rfl) (by omega)) <| hty (fun m => y_ld1 rfl ag120 ((m.ord 0 rfl).cell (j := 4) (wds_get (by omega)))) <| htyU (y_move rfl) <| htyU (y_idxS1 rfl rfl Tryd.underlying139 sz120 hA_v (show ((4 : Nat) : Int) = 4 from rfl) (by omega)) <| hty (fun m => y_ld1 rfl ag120 ((m.ord 0 rfl).cell (j := 4) (wds_get (by omega)))) <| htyU (y_move rfl) <| htyU (y_idxS1 rfl rfl Tryd.underlying139 sz120 hA_v (show ((4 : Nat) : Int) = 4 from rfl) (by omega)) <| hty (fun m => y_ld1 rfl ag120 ((m.ord 0 rfl).cell (j := 4) (wds_get (by omega)))) <| ?_
        refine htx (xh_call rfl Tryd.call133 (rturnC (by omega) (n := 6)) [] rfl [] rfl ?_)
        rintro _ _ _ ⟨rfl, rfl, rfl⟩
        refine ⟨(fun _ => wk [0, 0, 0] [0, 1] rfl rfl), ?_⟩
        refine htx (xh_call rfl Tryd.call133 (rturnC (by omega) (n := 11)) [] rfl [] rfl ?_)
        rintro _ _ _ ⟨rfl, rfl, rfl⟩
        refine ⟨(fun _ => wk [0, 0, 0] [0, 1] rfl rfl), ?_⟩
        refine htyU (y_wxor rfl rfl) <| ?_
        refine htx (xh_call rfl Tryd.call133 (rturnC (by omega) (n := 25)) [] rfl [] rfl ?_)
        rintro _ _ _ ⟨rfl, rfl, rfl⟩
        refine ⟨(fun _ => wk [0, 0, 0] [0, 1] rfl rfl), ?_⟩
        refine htyU (yV (y_wxor rfl rfl) ((rfl : _ = Wd (turns 6 11 25 (v_ v 4))))) <| htyU (y_assign rfl) <| htend <| hsub (ρ' := [(13, _), (97, _), (11, _), (12, _), (32, _), (6, _), (8, _), (21, _), (7, _), (5, _), (4, _), (0, _), (1, _)]) ⟨rfl, rfl, rfl, rfl, rfl, rfl, rfl, rfl, rfl, rfl, rfl, rfl, rfl, trivial⟩ <| hmemQ (X' := [_, _, _]) (S' := [_, _]) (fun _ m => m) <| hthen <| hseq <| hdrw [] [(0, some 0), (1, some 0), (2, some 0), (3, some 0), (4, some 0), (5, some 0), (6, some 0), (7, some 0), (8, some 0), (9, some 0), (10, some 0), (11, some 0), (12, some 0), (13, some 0), (14, some 0), (15, some 0), (16, some 0)] (by kernel_rfl) (by kernel_rfl) rfl 99 <| htyU (y_move rfl) <| htyU (y_idxS1 rfl rfl Tryd.underlying139 sz120 hA_v (show ((4 : Nat) : Int) = 4 from rfl) (by omega)) <| hty (fun m => y_ld1 rfl ag120 ((m.ord 0 rfl).cell (j := 4) (wds_get (by omega)))) <| htyU (y_move rfl) <| htyU (y_idxS1 rfl rfl Tryd.underlying139 sz120 hA_v (show ((5 : Nat) : Int) = 5 from rfl) (by omega)) <| hty (fun m => y_ld1 rfl ag120 ((m.ord 0 rfl).cell (j := 5) (wds_get (by omega)))) <| htyU (y_wand rfl rfl) <| htyU (y_move rfl) <| htyU (y_idxS1 rfl rfl Tryd.underlying139 sz120 hA_v (show ((4 : Nat) : Int) = 4 from rfl) (by omega)) <| hty (fun m => y_ld1 rfl ag120 ((m.ord 0 rfl).cell (j := 4) (wds_get (by omega)))) <| htyU (y_wsub1 rfl rfl) <| htyU (y_move rfl) <| htyU (y_idxS1 rfl rfl Tryd.underlying139 sz120 hA_v (show ((6 : Nat) : Int) = 6 from rfl) (by omega)) <| hty (fun m => y_ld1 rfl ag120 ((m.ord 0 rfl).cell (j := 6) (wds_get (by omega)))) <| htyU (y_wand rfl rfl) <| htyU (y_wxor rfl rfl) <| htyU (y_assign rfl) <| htend <| hsub (ρ' := [(14, _), (13, _), (97, _), (11, _), (12, _), (32, _), (6, _), (8, _), (21, _), (7, _), (5, _), (4, _), (0, _), (1, _)]) ⟨rfl, rfl, rfl, rfl, rfl, rfl, rfl, rfl, rfl, rfl, rfl, rfl, rfl, rfl, trivial⟩ <| hthen <| hseq <| hdrw [] [(0, some 0), (1, some 0), (2, some 0), (3, some 0), (4, some 0), (5, some 0), (6, some 0), (7, some 0), (8, some 0), (9, some 0), (10, some 0), (11, some 0), (12, some 0), (13, some 0), (14, some 0), (15, some 0), (16, some 0), (17, some 0)] (by kernel_rfl) (by kernel_rfl) rfl 99 <| htyU (y_move rfl) <| htyU (y_idxS1 rfl rfl Tryd.underlying139 sz120 hA_v (show ((7 : Nat) : Int) = 7 from rfl) (by omega)) <| hty (fun m => y_ld1 rfl ag120 ((m.ord 0 rfl).cell (j := 7) (wds_get (by omega)))) <| htyU (y_move rfl) <| htyU (y_wadd rfl rfl) <| htyU (y_move rfl) <| htyU (y_wadd rfl rfl) <| htyU (y_move rfl) <| htyU (y_move rfl) <| htyU (y_idxS1 rfl rfl Tryd.underlying139 sz120 hA_x rfl (by omega)) <| hty (fun m => y_ld1 rfl ag120 ((m.ord 2 rfl).cell (j := i) (wds_get (by omega)))) <| ?_
        generalize hk : rootsL.getD i 0 = k
        refine htyU (y_wadd rfl rfl) <| htyU (y_move rfl) <| htyU (y_move rfl) <| htyU (y_idxS1 rfl rfl Tryd.underlying139 sz120 hA_o rfl (by omega)) <| hty (fun m => y_ld1 rfl ag120 ((m.ord 1 rfl).cell (j := i) (wds_get (by omega)))) <| htyU (yV (y_wadd rfl rfl) ((rfl : _ = Wd (rt v k (W.getD i 0))))) <| htyU (y_assign rfl) <| htend <| hsub (ρ' := [(15, _), (14, _), (13, _), (97, _), (11, _), (12, _), (32, _), (6, _), (8, _), (21, _), (7, _), (5, _), (4, _), (0, _), (1, _)]) ⟨rfl, rfl, rfl, rfl, rfl, rfl, rfl, rfl, rfl, rfl, rfl, rfl, rfl, rfl, rfl, trivial⟩ <| hthen <| hseq <| hdrw [3, 7, 12] [(0, some 3), (1, some 0), (2, some 0), (4, some 1), (5, some 1), (6, some 1), (9, some 2), (10, some 2), (11, some 2), (3, none), (7, none), (8, some 3), (12, none), (13, some 3), (14, some 3)] (by kernel_rfl) (by kernel_rfl) rfl 99 <| htyU (y_move rfl) <| htyU (y_idxS1 rfl rfl Tryd.underlying139 sz120 hA_v (show ((0 : Nat) : Int) = 0 from rfl) (by omega)) <| hty (fun m => y_ld1 rfl ag120 ((m.ord 0 rfl).cell (j := 0) (wds_get (by omega)))) <| htyU (y_move rfl) <| htyU (y_idxS1 rfl rfl Tryd.underlying139 sz120 hA_v (show ((0 : Nat) : Int) = 0 from rfl) (by omega)) <| hty (fun m => y_ld1 rfl ag120 ((m.ord 0 rfl).cell (j := 0) (wds_get (by omega)))) <| htyU (y_move rfl) <| htyU (y_idxS1 rfl rfl Tryd.underlying139 sz120 hA_v (show ((0 : Nat) : Int) = 0 from rfl) (by omega)) <| hty (fun m => y_ld1 rfl ag120 ((m.ord 0 rfl).cell (j := 0) (wds_get (by omega)))) <| ?_
        refine htx (xh_call rfl Tryd.call133 (rturnC (by omega) (n := 2)) [] rfl [] rfl ?_)
        rintro _ _ _ ⟨rfl, rfl, rfl⟩
        refine ⟨(fun _ => wk [0, 0, 0] [0, 1] rfl rfl), ?_⟩
        refine htx (xh_call rfl Tryd.call133 (rturnC (by omega) (n := 13)) [] rfl [] rfl ?_)
        rintro _ _ _ ⟨rfl, rfl, rfl⟩
        refine ⟨(fun _ => wk [0, 0, 0] [0, 1] rfl rfl), ?_⟩
        refine htyU (y_wxor rfl rfl) <| ?_
        refine htx (xh_call rfl Tryd.call133 (rturnC (by omega) (n := 22)) [] rfl [] rfl ?_)
        rintro _ _ _ ⟨rfl, rfl, rfl⟩
        refine ⟨(fun _ => wk [0, 0, 0] [0, 1] rfl rfl), ?_⟩
        refine htyU (yV (y_wxor rfl rfl) ((rfl : _ = Wd (turns 2 13 22 (v_ v 0))))) <| htyU (y_assign rfl) <| htend <| hsub (ρ' := [(16, _), (15, _), (14, _), (13, _), (97, _), (11, _), (12, _), (32, _), (6, _), (8, _), (21, _), (7, _), (5, _), (4, _), (0, _), (1, _)]) ⟨rfl, rfl, rfl, rfl, rfl, rfl, rfl, rfl, rfl, rfl, rfl, rfl, rfl, rfl, rfl, rfl, trivial⟩ <| hmemQ (X' := [_, _, _]) (S' := [_, _]) (fun _ m => m) <| hthen <| hseq <| hdrw [] [(0, some 0), (1, some 0), (2, some 0), (3, some 0), (4, some 0), (5, some 0), (6, some 0), (7, some 0), (8, some 0), (9, some 0), (10, some 0), (11, some 0), (12, some 0), (13, some 0), (14, some 0), (15, some 0), (16, some 0), (17, some 0), (18, some 0), (19, some 0), (20, some 0), (21, some 0), (22, some 0), (23, some 0)] (by kernel_rfl) (by kernel_rfl) rfl 99 <| htyU (y_move rfl) <| htyU (y_idxS1 rfl rfl Tryd.underlying139 sz120 hA_v (show ((0 : Nat) : Int) = 0 from rfl) (by omega)) <| hty (fun m => y_ld1 rfl ag120 ((m.ord 0 rfl).cell (j := 0) (wds_get (by omega)))) <| htyU (y_move rfl) <| htyU (y_idxS1 rfl rfl Tryd.underlying139 sz120 hA_v (show ((1 : Nat) : Int) = 1 from rfl) (by omega)) <| hty (fun m => y_ld1 rfl ag120 ((m.ord 0 rfl).cell (j := 1) (wds_get (by omega)))) <| htyU (y_wand rfl rfl) <| htyU (y_move rfl) <| htyU (y_idxS1 rfl rfl Tryd.underlying139 sz120 hA_v (show ((0 : Nat) : Int) = 0 from rfl) (by omega)) <| hty (fun m => y_ld1 rfl ag120 ((m.ord 0 rfl).cell (j := 0) (wds_get (by omega)))) <| htyU (y_move rfl) <| htyU (y_idxS1 rfl rfl Tryd.underlying139 sz120 hA_v (show ((2 : Nat) : Int) = 2 from rfl) (by omega)) <| hty (fun m => y_ld1 rfl ag120 ((m.ord 0 rfl).cell (j := 2) (wds_get (by omega)))) <| htyU (y_wand rfl rfl) <| htyU (y_wxor rfl rfl) <| htyU (y_move rfl) <| htyU (y_idxS1 rfl rfl Tryd.underlying139 sz120 hA_v (show ((1 : Nat) : Int) = 1 from rfl) (by omega)) <| hty (fun m => y_ld1 rfl ag120 ((m.ord 0 rfl).cell (j := 1) (wds_get (by omega)))) <| htyU (y_move rfl) <| htyU (y_idxS1 rfl rfl Tryd.underlying139 sz120 hA_v (show ((2 : Nat) : Int) = 2 from rfl) (by omega)) <| hty (fun m => y_ld1 rfl ag120 ((m.ord 0 rfl).cell (j := 2) (wds_get (by omega)))) <| htyU (y_wand rfl rfl) <| htyU (y_wxor rfl rfl) <| htyU (y_assign rfl) <| htend <| hsub (ρ' := [(17, _), (16, _), (15, _), (14, _), (13, _), (97, _), (11, _), (12, _), (32, _), (6, _), (8, _), (21, _), (7, _), (5, _), (4, _), (0, _), (1, _)]) ⟨rfl, rfl, rfl, rfl, rfl, rfl, rfl, rfl, rfl, rfl, rfl, rfl, rfl, rfl, rfl, rfl, rfl, trivial⟩ <| hthen <| hdrw [28] [(0, some 0), (1, some 0), (2, some 0), (3, some 0), (4, some 0), (5, some 0), (6, some 0), (7, some 0), (8, some 0), (9, some 0), (10, some 0), (11, some 0), (12, some 0), (13, some 0), (14, some 0), (15, some 0), (16, some 0), (17, some 0), (18, some 0), (19, some 0), (20, some 0), (21, some 0), (22, some 0), (23, some 0), (24, some 0), (25, some 0), (26, some 0), (27, some 0), (28, none), (29, some 1)] (by kernel_rfl) (by kernel_rfl) rfl 99 <| htyU (y_move rfl) <| htyU (y_move rfl) <| htyU (y_wadd rfl rfl) <| htyU (y_move rfl) <| htyU (yV (y_wadd rfl rfl) ((show Wd (rt v k (W.getD i 0) + turns 2 13 22 (v_ v 0) + ((v_ v 0 &&& v_ v 1) ^^^ (v_ v 0 &&& v_ v 2) ^^^ (v_ v 1 &&& v_ v 2))) = Wd (rt v k (W.getD i 0) + ru v) by rw [UInt32.add_assoc]; rfl))) <| htyU (y_move rfl) <| htyU (y_idxS1 rfl rfl Tryd.underlying139 sz120 hA_v (show ((0 : Nat) : Int) = 0 from rfl) (by omega)) <| hty (fun m => y_ld1 rfl ag120 ((m.ord 0 rfl).cell (j := 0) (wds_get (by omega)))) <| htyU (y_move rfl) <| htyU (y_idxS1 rfl rfl Tryd.underlying139 sz120 hA_v (show ((1 : Nat) : Int) = 1 from rfl) (by omega)) <| hty (fun m => y_ld1 rfl ag120 ((m.ord 0 rfl).cell (j := 1) (wds_get (by omega)))) <| htyU (y_move rfl) <| htyU (y_idxS1 rfl rfl Tryd.underlying139 sz120 hA_v (show ((2 : Nat) : Int) = 2 from rfl) (by omega)) <| hty (fun m => y_ld1 rfl ag120 ((m.ord 0 rfl).cell (j := 2) (wds_get (by omega)))) <| htyU (y_move rfl) <| htyU (y_idxS1 rfl rfl Tryd.underlying139 sz120 hA_v (show ((3 : Nat) : Int) = 3 from rfl) (by omega)) <| hty (fun m => y_ld1 rfl ag120 ((m.ord 0 rfl).cell (j := 3) (wds_get (by omega)))) <| htyU (y_move rfl) <| htyU (y_wadd rfl rfl) <| htyU (y_move rfl) <| htyU (y_idxS1 rfl rfl Tryd.underlying139 sz120 hA_v (show ((4 : Nat) : Int) = 4 from rfl) (by omega)) <| hty (fun m => y_ld1 rfl ag120 ((m.ord 0 rfl).cell (j := 4) (wds_get (by omega)))) <| htyU (y_move rfl) <| htyU (y_idxS1 rfl rfl Tryd.underlying139 sz120 hA_v (show ((5 : Nat) : Int) = 5 from rfl) (by omega)) <| hty (fun m => y_ld1 rfl ag120 ((m.ord 0 rfl).cell (j := 5) (wds_get (by omega)))) <| htyU (y_move rfl) <| htyU (y_idxS1 rfl rfl Tryd.underlying139 sz120 hA_v (show ((6 : Nat) : Int) = 6 from rfl) (by omega)) <| hty (fun m => y_ld1 rfl ag120 ((m.ord 0 rfl).cell (j := 6) (wds_get (by omega)))) <| ?_
        refine htx (xh_bsl Tryd.underlying139 ti120 rfl rfl rfl (by exact wds_size (l := [_, _, _, _, _, _, _, _])) (by decide) (by decide) (fun g212 => ⟨(fun _ => wk [1, 1, 1] [0, 1] rfl rfl), ?_⟩))
        have hA_b212 : 0 < 8 → (some (⟨g212, 0, none⟩ : Addr)) ≠ none := fun _ h => by cases h
        refine htyU (y_assign rfl) <| htend <| hsub (ρ' := [(11, _), (17, _), (16, _), (15, _), (14, _), (13, _), (97, _), (12, _), (32, _), (6, _), (8, _), (21, _), (7, _), (5, _), (4, _), (0, _), (1, _)]) ⟨rfl, rfl, rfl, rfl, rfl, rfl, rfl, rfl, rfl, rfl, rfl, rfl, rfl, rfl, rfl, rfl, rfl, trivial⟩ <| hmemQ (X' := [_, _, _, _]) (S' := [_, _]) (fun _ m => m) <| hqblock <| hthen <| hreg <| hy (fun _ => y_move rfl) <| hy (fun _ => y_add rfl rfl (w64 (by omega) (by omega))) <| hy (fun _ => y_assign rfl) <| hend <| hsub (ρ' := [(12, _), (11, _), (17, _), (16, _), (15, _), (14, _), (13, _), (97, _), (32, _), (6, _), (8, _), (21, _), (7, _), (5, _), (4, _), (0, _), (1, _)]) ⟨rfl, rfl, rfl, rfl, rfl, rfl, rfl, rfl, rfl, rfl, rfl, rfl, rfl, rfl, rfl, rfl, rfl, trivial⟩ <| ?_
        refine hmemQ (fun w m => m.eqX 0 rfl (show _ = ROwn 120 1 (.slice (some ⟨g212, 0, none⟩) 8 8) 8 (wds (rnds W h (i + 1))) from by rw [rnds, hvd, hk]; rfl)) ?_
        refine hnext3 (i + 1) (some ⟨g212, 0, none⟩) 8 ⟨rfl, rfl, rfl, rfl, rfl, rfl, rfl, rfl, rfl, rfl, rfl, trivial⟩ [0, 1, 1] rfl [0, 1] rfl (by omega) (by omega)
      · obtain rfl : i = 64 := by omega
        generalize hvv : rnds W h 64 = v at hv ⊢
        refine hmemC (fun w m => m.eqX 0 rfl (show _ = ROwn 120 1 (.slice A2 8 c2) 8 (wds (hsum v h 0)) from by rw [hsum_zero])) ?_
        refine hexit <| hthen_exit <| hthen_exit <| hqblock_exit <| hthen <| hseq <| hseq <| hreg <| hy (fun _ => y_assign rfl) <| hend <| hthen <| hblock <| ?_
        refine hloop1 (fun j => 8 - j) (fun j => [(18, .int .i64 (j : Nat))]) (fun j => [ROwn 120 1 (.slice A2 8 c2) 8 (wds (hsum v h j))]) (fun j => []) (fun j => j ≤ 8) 0 [(97, _), (11, _), (12, _), (32, _), (6, _), (8, _), (21, _), (7, _), (5, _), (4, _), (0, _), (1, _)] ⟨rfl, rfl, rfl, rfl, rfl, rfl, rfl, rfl, rfl, rfl, rfl, rfl, trivial⟩ [0] rfl [] rfl (Nat.zero_le _) ⟨rfl, trivial⟩ (fun j hj8 => ?_)
        have hsl : (hsum v h j).length = v.length := by simp [hsum]
        refine hseq <| hseq <| hreg <| hy (fun _ => y_move rfl) <| hy (fun _ => y_lss rfl rfl) <| hend <| hsub (ρ' := [(214, _), (18, _), (97, _), (11, _), (12, _), (32, _), (6, _), (8, _), (21, _), (7, _), (5, _), (4, _), (0, _), (1, _)]) ⟨rfl, rfl, rfl, rfl, rfl, rfl, rfl, rfl, rfl, rfl, rfl, rfl, rfl, rfl, trivial⟩ <| hthen <| ?_
        refine hif rfl (fun hj => ?_) (fun hj => ?_)
        · refine hcskip <| hthen <| hseq <| hblock <| hdrw [12] [(0, some 0), (1, some 0), (2, some 0), (3, some 0), (4, some 0), (5, some 0), (6, some 0), (7, some 0), (8, some 0), (9, some 0), (10, some 0), (11, some 0), (12, none)] (by kernel_rfl) (by kernel_rfl) rfl 0 <| htyU (y_move rfl) <| htyU (y_move rfl) <| htyU (y_move rfl) <| htyU (y_move rfl) <| htyU (y_idxS1 rfl rfl Tryd.underlying139 sz120 hA_v rfl (by omega)) <| hty (fun m => y_ld1 rfl ag120 ((m.ord 0 rfl).cell (j := j) (wds_get (by omega)))) <| htyU (y_move rfl) <| htyU (y_move rfl) <| htyU (y_idxS1 rfl rfl Tryd.underlying139 sz120 hA_q rfl (by omega)) <| hty (fun m => y_ld1 rfl ag120 ((m.rd 0 rfl).cell (j := j) (wds_get (by omega)))) <| htyU (yV (y_wadd rfl rfl) ((rfl : _ = Wd (v_ (hsum v h j) j + v_ h j)))) <| htyU (y_idxS1 rfl rfl Tryd.underlying139 sz120 hA_v rfl (by omega)) <| ?_
          refine htx0 (xh_stO 0 rfl rfl rfl sz120 rfl (by omega) ⟨(fun h => absurd h (by decide)), ?_⟩)
          refine htend <| hsub (ρ' := [(214, _), (18, _), (97, _), (11, _), (12, _), (32, _), (6, _), (8, _), (21, _), (7, _), (5, _), (4, _), (0, _), (1, _)]) ⟨rfl, rfl, rfl, rfl, rfl, rfl, rfl, rfl, rfl, rfl, rfl, rfl, rfl, rfl, trivial⟩ <| hmemQ (X' := [_, _, _]) (S' := [_, _]) (fun _ m => m) <| hqblock <| hthen <| hreg <| hy (fun _ => y_move rfl) <| hy (fun _ => y_add rfl rfl (w64 (by omega) (by omega))) <| hy (fun _ => y_assign rfl) <| hend <| hsub (ρ' := [(18, _), (214, _), (97, _), (11, _), (12, _), (32, _), (6, _), (8, _), (21, _), (7, _), (5, _), (4, _), (0, _), (1, _)]) ⟨rfl, rfl, rfl, rfl, rfl, rfl, rfl, rfl, rfl, rfl, rfl, rfl, rfl, rfl, trivial⟩ <| ?_
          refine hmemQ (fun w m => m.eqX 0 rfl (show _ = ROwn 120 1 (.slice A2 8 c2) 8 (wds (hsum v h (j + 1))) from by rw [wds_set, hsum_succ (by omega)])) ?_
          refine hnext1 (j + 1) ⟨rfl, rfl, rfl, rfl, rfl, rfl, rfl, rfl, rfl, rfl, rfl, rfl, rfl, trivial⟩ [0, 0, 0] rfl [0, 1] rfl (by omega) (by omega)
        · obtain rfl : j = 8 := by omega
          have hB : hsum v h 8 = blockL h l := by rw [blockL, hW, hvv]
          rw [hB]
          refine hexit <| hthen_exit <| hthen_exit <| hqblock_exit <| hthen <| hseq <| hreg <| hy (fun _ => y_move rfl) <| hy (fun _ => y_assign rfl) <| hend <| hsub (ρ' := [(4, _), (214, _), (18, _), (97, _), (11, _), (12, _), (32, _), (6, _), (8, _), (21, _), (7, _), (5, _), (0, _), (1, _)]) ⟨rfl, rfl, rfl, rfl, rfl, rfl, rfl, rfl, rfl, rfl, rfl, rfl, rfl, rfl, trivial⟩ <| hthen <| hret <| ?_
          exact hret1 trivial rfl rfl [0] rfl [] rfl ⟨_, rfl, rfl, rfl⟩
end Go.Proofs.YtfikjheicjamhaaDoor
end
section
/- Contracts: the document's digest of bytes (layer 2): Sum. -/
set_option linter.unusedVariables false
set_option linter.unusedSimpArgs false
set_option maxRecDepth 20000
namespace Go.Proofs.YtfikjheicjamhaaDoor
open Go.Eng Go.Hx
def q256 (n : Nat) : Nat → Nat
  | 0 => n
  | i + 1 => q256 n i / 256
theorem q256_pow (n : Nat) : ∀ i, q256 n i = n / 256 ^ i
  | 0 => by simp [q256]
  | i + 1 => by rw [q256, q256_pow n i, Nat.div_div_eq_div_mul, Nat.pow_succ]
/-- the last so many of eight bytes -/
def be8t (n i : Nat) : List UInt8 := List.replicate (8 - i) 0 ++ (be8 n).drop (8 - i)
theorem be8_len (n : Nat) : (be8 n).length = 8 := by simp [be8]
theorem be8t_len (n i : Nat) (h : i ≤ 8) : (be8t n i).length = 8 := by
  rw [be8t, List.length_append, List.length_replicate, List.length_drop, be8_len]; omega
theorem be8t_step {n i : Nat} (hi : i < 8) : (be8t n i).set (7 - i) (UInt8.ofNat (q256 n i % 256)) = be8t n (i + 1) := by
  have e : UInt8.ofNat (q256 n i % 256) = UInt8.ofNat (n / 256 ^ i) := by
    rw [q256_pow]; apply UInt8.toNat_inj.1; simp
  rw [e]
  obtain ⟨k, hk⟩ : ∃ k, 8 - i = k + 1 := ⟨7 - i, by omega⟩
  have h7 : 7 - i = k := by omega
  have hd : (be8 n).drop k = UInt8.ofNat (n / 256 ^ i) :: (be8 n).drop (k + 1) := by
    rw [List.drop_eq_getElem_cons (by rw [be8_len]; omega)]
    congr 1
    simp only [be8, List.getElem_map, List.getElem_range]
    congr 3; omega
  rw [be8t, be8t, hk, h7, show 8 - (i + 1) = k by omega, hd, List.replicate_succ', List.append_assoc, List.set_append_right _ _ (by simp)]
  simp
theorem rwholeC {A : Option Addr} {n c : Nat} {l : List UInt8} (hn : n ≤ 140737488351232) : Con Tryd.prog 84 [.slice A n c] [] [RRd 1 A n (b8s l)] (fun v_ X_ S_ => ∃ v, v_ = v ∧ X_ = [ROwn 5 1 v (padL l).length (b8s (padL l))] ∧ S_ = []) := by
  have hz64 : padZ n < 64 := Nat.mod_lt _ (by decide)
  have hzp : (n + (1 + padZ n)) % 64 = 56 := by unfold padZ; omega
  have hzm : ∀ j, j < padZ n → (n + (1 + j)) % 64 ≠ 56 := fun j hj => by unfold padZ at hj; omega
  refine henter (N := 39) Tryd.func84 rfl rfl (by simp) fun b => ?_
  refine hfactC (fun m => rdB (m.rd 0 rfl)) ?_
  rintro ⟨hl_r, hA_r⟩
  have hl : l.length = n := hl_r
  refine hseq <| hreg <| hy (fun _ => y_assign rfl) <| hend <| hthen <| hseq <| hreg <| hy (fun _ => y_assign rfl) <| hend <| hthen <| hseq <| hreg <| hy (fun _ => y_move rfl) <| hy (fun _ => y_move rfl) <| ?_
  refine hmemL (fun w m => m.addX (r' := ROwn 5 1 (.slice none 0 0) 0 []) (.refl _ _) (Own.nil _ _ _ _) (fun k hk => hk.elim)) ?_
  refine hx (xh_app 0 rfl rfl rfl Tryd.underlying32 Tryd.underlying32 (by exact .inl rfl) ti5 rfl (fun m => Src.of_rd (m.rd 0 rfl)) b8s_one (by unfold maxLen; omega) (by omega) (fun u => ?_))
  refine hfactL (fun m => (m.own 0 rfl).slice) ?_
  rintro ⟨A_o, c_o, rfl, hc_o⟩
  refine hfactL (fun m => (m.ord 0 rfl).2.1) fun hA_o => ?_
  rw [Nat.zero_add]
  refine hy (fun _ => y_assign rfl) <| hend <| hsub (ρ' := [(3, _), (2, _), (0, _)]) ⟨rfl, rfl, rfl, trivial⟩ <| hmemQ (X' := [_]) (S' := [_]) (fun _ m => m) <| hthen <| hseq <| hreg <| hy (fun _ => y_move rfl) <| ?_
  refine hx (xh_bsl Tryd.underlying32 ti5 rfl rfl rfl (by simp [Value.cells, B8]) (by decide) (by decide) (fun g11 => ?_))
  have hA_b11 : 0 < 1 → (some (⟨g11, 0, none⟩ : Addr)) ≠ none := fun _ h => by cases h
  refine hmemL (fun w m => m.eqX 0 rfl (show _ = ROwn 5 1 (.slice (some ⟨g11, 0, none⟩) 1 1) 1 (b8s [128]) from rfl)) ?_
  refine hx (xh_app 1 rfl rfl rfl Tryd.underlying32 Tryd.underlying32 (by exact .inl rfl) ti5 rfl (fun m => Src.of_rd (m.ord 0 rfl)) b8s_one (by unfold maxLen; omega) (by omega) (fun u2 => ?_))
  refine hfactL (fun m => (m.own 0 rfl).slice) ?_
  rintro ⟨A_o2, c_o2, rfl, hc_o⟩
  refine hfactL (fun m => (m.ord 0 rfl).2.1) fun hA_o => ?_
  refine hmemL (fun w m => m.eqX 0 rfl (show _ = ROwn 5 1 (.slice A_o2 (n + 1 + 0) c_o2) (n + 1 + 0) (b8s (l ++ 128 :: List.replicate 0 0)) from by simp [b8s])) ?_
  refine hy (fun _ => y_assign rfl) <| hend <| hsub (ρ' := [(3, _), (2, _), (0, _)]) ⟨rfl, rfl, rfl, trivial⟩ <| hmemQ (X' := [_, _]) (S' := [_]) (fun _ m => m) <| hthen <| hseq <| hblock <| ?_
  refine hloop3 (fun j A1 cc => padZ n - j) (fun j A1 cc => [(3, .slice A1 (n + 1 + j) cc)]) (fun j A1 cc => [ROwn 5 1 (.slice A1 (n + 1 + j) cc) (n + 1 + j) (b8s (l ++ 128 :: List.replicate j 0))]) (fun j A1 cc => []) (fun j A1 cc => j ≤ padZ n) 0 A_o2 c_o2 [(2, _), (0, _)] ⟨rfl, rfl, trivial⟩ [0] rfl [] rfl (Nat.zero_le _) ⟨rfl, trivial⟩ (fun j A1 cc hjz => ?_)
  refine hseq <| hseq <| hreg <| hy (fun _ => y_move rfl) <| hy (fun _ => y_lenS rfl Tryd.underlying32) <| hy (fun _ => y_rem rfl rfl (by omega) (by omega)) <| hy (fun _ => y_neq rfl rfl) <| hend <| hsub (ρ' := [(16, _), (3, _), (2, _), (0, _)]) ⟨rfl, rfl, rfl, rfl, trivial⟩ <| hthen <| ?_
  refine hif rfl (fun hne => ?_) (fun hne => ?_)
  · have hj : j < padZ n := by
      rcases Nat.lt_or_eq_of_le hjz with h | h
      · exact h
      · rw [← h] at hzp; omega
    refine hcskip <| hthen <| hblock <| hreg <| hy (fun _ => y_move rfl) <| ?_
    refine hx (xh_bsl Tryd.underlying32 ti5 rfl rfl rfl (by simp [Value.cells, B8]) (by decide) (by decide) (fun g18 => ?_))
    have hA_b18 : 0 < 1 → (some (⟨g18, 0, none⟩ : Addr)) ≠ none := fun _ h => by cases h
    refine hmemL (fun w m => m.eqX 0 rfl (show _ = ROwn 5 1 (.slice (some ⟨g18, 0, none⟩) 1 1) 1 (b8s [0]) from rfl)) ?_
    refine hx (xh_app 1 rfl rfl rfl Tryd.underlying32 Tryd.underlying32 (by exact .inl rfl) ti5 rfl (fun m => Src.of_rd (m.ord 0 rfl)) b8s_one (by unfold maxLen; omega) (by omega) (fun u3 => ?_))
    refine hfactL (fun m => (m.own 0 rfl).slice) ?_
    rintro ⟨A_o3, c_o3, rfl, hc_o⟩
    refine hfactL (fun m => (m.ord 0 rfl).2.1) fun hA_o => ?_
    refine hy (fun _ => y_assign rfl) <| hend <| hsub (ρ' := [(3, _), (16, _), (2, _), (0, _)]) ⟨rfl, rfl, rfl, rfl, trivial⟩ <| hmemQ (X' := [_, _, _]) (S' := [_]) (fun _ m => m) <| hqblock <| ?_
    refine hmemQ (fun w m => m.eqX 0 rfl (show _ = ROwn 5 1 (.slice A_o3 (n + 1 + (j + 1)) c_o3) (n + 1 + (j + 1)) (b8s (l ++ 128 :: List.replicate (j + 1) 0)) from by rw [List.replicate_succ']; simp [b8s, Nat.add_assoc])) ?_
    refine hnext3 (j + 1) A_o3 c_o3 ⟨rfl, rfl, rfl, trivial⟩ [0, 1] rfl [0] rfl (by omega) (by omega)
  · have hj : j = padZ n := by
      refine Decidable.byContradiction fun hn => ?_
      have := hzm j (by omega)
      omega
    subst hj
    refine hexit <| hthen_exit <| hthen_exit <| hqblock_exit <| hthen <| hseq <| hreg <| hy (fun _ => y_move rfl) <| hy (fun _ => y_lenS rfl Tryd.underlying32) <| hy (fun _ => yV (y_mul rfl rfl (w64 (by omega) (by omega))) ((show Value.int .i64 (8 * (n : Int)) = .int .i64 ((q256 (8 * n) 0 : Nat) : Int) by rw [q256]; congr 1))) <| hy (fun _ => y_assign rfl) <| hend <| hsub (ρ' := [(4, _), (16, _), (3, _), (2, _), (0, _)]) ⟨rfl, rfl, rfl, rfl, rfl, trivial⟩ <| hthen <| hseq <| hreg <| ?_
    refine hx (xh_mksl (n := 8) Tryd.underlying32 ti5 rfl rfl rfl (by decide) (by decide) (fun g23 => ?_))
    have hA_b23 : ∀ {n : Nat}, 0 < n → (some (⟨g23, 0, none⟩ : Addr)) ≠ none := fun _ h => by cases h
    refine hy (fun _ => y_assign rfl) <| hend <| hsub (ρ' := [(5, _), (4, _), (16, _), (3, _), (2, _), (0, _)]) ⟨rfl, rfl, rfl, rfl, rfl, rfl, trivial⟩ <| hmemQ (X' := [_, _, _]) (S' := [_]) (fun _ m => m) <| hthen <| hseq <| hseq <| hreg <| ?_
    refine hmemL (fun w m => m.eqX 0 rfl (show _ = RBlk g23 5 (b8s (be8t (8 * n) 0)) from by rw [be8t, List.drop_of_length_le (by rw [be8_len]; decide), List.append_nil]; rfl)) ?_
    refine hy (fun _ => y_assign rfl) <| hend <| hthen <| hblock <| ?_
    refine hloop1 (fun i => 8 - i) (fun i => [(4, .int .i64 ((q256 (8 * n) i : Nat) : Int)), (6, .int .i64 (7 - (i : Int)))]) (fun i => [RBlk g23 5 (b8s (be8t (8 * n) i))]) (fun i => []) (fun i => i ≤ 8) 0 [(5, _), (16, _), (3, _), (2, _), (0, _)] ⟨rfl, rfl, rfl, rfl, rfl, trivial⟩ [0] rfl [] rfl (Nat.zero_le _) ⟨rfl, rfl, trivial⟩ (fun i hi8 => ?_)
    have hq : q256 (8 * n) i ≤ 8 * n := by rw [q256_pow]; exact Nat.div_le_self ..
    have hbl := be8t_len (8 * n) i hi8
    refine hseq <| hseq <| hreg <| hy (fun _ => y_move rfl) <| hy (fun _ => y_geq rfl rfl) <| hend <| hsub (ρ' := [(25, _), (4, _), (6, _), (5, _), (16, _), (3, _), (2, _), (0, _)]) ⟨rfl, rfl, rfl, rfl, rfl, rfl, rfl, rfl, trivial⟩ <| hthen <| ?_
    refine hif rfl (fun hi => ?_) (fun hi => ?_)
    · refine hcskip <| hthen <| hseq <| hblock <| hseq <| hreg <| hy (fun _ => y_move rfl) <| hy (fun _ => y_move rfl) <| hy (fun _ => y_move rfl) <| hy (fun _ => y_rem rfl rfl (by omega) (by omega)) <| hy (fun _ => y_conv rfl Tryd.underlying3 Tryd.underlying5 (show IntKind.u8.wrap (((q256 (8 * n) i : Nat) : Int) % 256) = ((UInt8.ofNat (q256 (8 * n) i % 256)).toNat : Int) from u8mod (q256 (8 * n) i % 256))) <| hy (fun _ => y_idxS1 rfl rfl Tryd.underlying32 sz5 hA_b23 (show ((7 - i : Nat) : Int) = _ by omega) (by omega)) <| ?_
      refine hx0 (xh_st1a 0 rfl rfl rfl sz5 rfl (by rw [b8s_length, hbl]; omega) ?_)
      refine hend <| hsub (ρ' := [(25, _), (4, _), (6, _), (5, _), (16, _), (3, _), (2, _), (0, _)]) ⟨rfl, rfl, rfl, rfl, rfl, rfl, rfl, rfl, trivial⟩ <| hmemQ (X' := [_, _, _]) (S' := [_]) (fun _ m => m) <| hthen <| hreg <| hy (fun _ => y_move rfl) <| hy (fun _ => yV (y_quo rfl rfl (by omega) (by omega) (w64 (by omega) (by omega))) ((show Value.int .i64 (((q256 (8 * n) i : Nat) : Int) / 256) = .int .i64 ((q256 (8 * n) (i + 1) : Nat) : Int) from rfl))) <| hy (fun _ => y_assign rfl) <| hend <| hsub (ρ' := [(4, _), (25, _), (6, _), (5, _), (16, _), (3, _), (2, _), (0, _)]) ⟨rfl, rfl, rfl, rfl, rfl, rfl, rfl, rfl, trivial⟩ <| hqblock <| hthen <| hreg <| hy (fun _ => y_move rfl) <| hy (fun _ => yV (y_sub rfl rfl (w64 (by omega) (by omega))) ((show Value.int .i64 (7 - (i : Int) - 1) = .int .i64 (7 - ((i + 1 : Nat) : Int)) from congrArg (Value.int .i64) (by omega)))) <| hy (fun _ => y_assign rfl) <| hend <| hsub (ρ' := [(6, _), (4, _), (25, _), (5, _), (16, _), (3, _), (2, _), (0, _)]) ⟨rfl, rfl, rfl, rfl, rfl, rfl, rfl, rfl, trivial⟩ <| ?_
      refine hmemQ (fun w m => m.eqX 0 rfl (show _ = RBlk g23 5 (b8s (be8t (8 * n) (i + 1))) from by rw [Nat.zero_add, ← be8t_step (by omega), b8s_set]; rfl)) ?_
      refine hnext1 (i + 1) ⟨rfl, rfl, rfl, rfl, rfl, rfl, rfl, trivial⟩ [0, 0, 0] rfl [0] rfl (by omega) (by omega)
    · obtain rfl : i = 8 := by omega
      have hpl : (padL l).length = n + 1 + padZ n + 8 := by
        simp only [padL, List.length_append, List.length_cons, List.length_replicate, be8_len, hl]; omega
      refine hmemC (fun w m => m.eqX 0 rfl (show _ = RBlk g23 5 (b8s (be8 (8 * n))) from by simp [be8t])) ?_
      refine hexit <| hthen_exit <| hthen_exit <| hqblock_exit <| hthen <| hseq <| hreg <| hy (fun _ => y_move rfl) <| hy (fun _ => y_move rfl) <| ?_
      refine hx (xh_app 1 rfl rfl rfl Tryd.underlying32 Tryd.underlying32 (by exact .inl rfl) ti5 rfl (fun m => Src.of_rd (Rd.of_blk (m.blk 0 rfl) (by rw [b8s_length, be8_len]))) b8s_one (by unfold maxLen; omega) (by omega) (fun u3 => ?_))
      refine hfactL (fun m => (m.own 0 rfl).slice) ?_
      rintro ⟨A_o3, c_o3, rfl, hc_o⟩
      refine hfactL (fun m => (m.ord 0 rfl).2.1) fun hA_o => ?_
      refine hmemL (fun w m => m.eqX 0 rfl (show _ = ROwn 5 1 (.slice A_o3 (padL l).length c_o3) (padL l).length (b8s (padL l)) from by rw [hpl, padL, hl]; simp [b8s])) ?_
      refine hy (fun _ => y_assign rfl) <| hend <| hsub (ρ' := [(2, _), (25, _), (4, _), (6, _), (5, _), (16, _), (3, _), (0, _)]) ⟨rfl, rfl, rfl, rfl, rfl, rfl, rfl, rfl, trivial⟩ <| hmemQ (X' := [_, _, _]) (S' := [_]) (fun _ m => m) <| hthen <| hret <| ?_
      exact hret1 trivial rfl rfl [0] rfl [] rfl ⟨_, (by rw [hpl]), rfl, rfl⟩
theorem set_mid8 {p r : List UInt8} {k : Nat} {a x : UInt8} (hp : p.length = k) : (b8s (p ++ x :: r)).set k (B8 a) = b8s (p ++ [a] ++ r) := by
  subst hp
  simp [b8s, List.set_append]
def qw (x : UInt32) : Nat → UInt32
  | 0 => x
  | j + 1 => qw x j / 256
theorem qw_toNat (x : UInt32) : ∀ j, (qw x j).toNat = x.toNat / 256 ^ j
  | 0 => by simp [qw]
  | j + 1 => by
    rw [qw, UInt32.toNat_div, qw_toNat x j, Nat.pow_succ, ← Nat.div_div_eq_div_mul]; rfl
theorem qw_be4 (x : UInt32) {r : Nat} (hr : r < 4) : (be4 x)[r]? = some (UInt8.ofNat (qw x (3 - r) % 256).toNat) := by
  have h256 : (256 : UInt32).toNat = 256 := rfl
  have e : ∀ k, UInt8.ofNat ((qw x k % 256).toNat) = UInt8.ofNat (x.toNat / 256 ^ k) := fun k => by
    rw [UInt32.toNat_mod, qw_toNat, h256]
    apply UInt8.toNat_inj.1; simp
  rw [e]
  match r, hr with
  | 0, _ => simp [be4, UInt32.toNat_div]
  | 1, _ => simp [be4, UInt32.toNat_div]
  | 2, _ => simp [be4, UInt32.toNat_div]
  | 3, _ => simp [be4]
theorem digOf_get : ∀ (h : List UInt32) (q r : Nat), q < h.length → r < 4 → (digOf h)[4 * q + r]? = (be4 (h.getD q 0))[r]?
  | a :: t, 0, r, hq, hr => by
    rw [digOf, List.flatMap_cons, List.getElem?_append_left (by show 4 * 0 + r < 4; omega)]
    simp
  | a :: t, q + 1, r, hq, hr => by
    rw [digOf, List.flatMap_cons, List.getElem?_append_right (by show 4 ≤ _; omega), show 4 * (q + 1) + r - (be4 a).length = 4 * q + r by show 4 * (q + 1) + r - 4 = _; omega]
    have := digOf_get t q r (by simpa using hq) hr
    simpa [digOf] using this
theorem rshaSumC {A : Option Addr} {n c : Nat} {l : List UInt8} (hn : n ≤ 140737488351232) : Con Tryd.prog 29 [.slice A n c] [] [RRd 1 A n (b8s l)] (fun v_ X_ S_ => v_ = (.agg (b8s (shaL l)).toArray) ∧ X_ = [] ∧ S_ = []) := by
  refine henter (N := 49) Tryd.func29 rfl rfl (by simp) fun b => ?_
  refine hfactC (fun m => rdB (m.rd 0 rfl)) ?_
  rintro ⟨hl_r, hA_r⟩
  refine hseq <| hreg <| ?_
  refine hx (xh_alloc ti23 (fun g2 => ?_))
  refine hend <| hmemQ (X' := [_]) (S' := [_]) (fun _ m => m) <| hthen <| hseq <| hreg <| ?_
  refine hx (xh_bsl Tryd.underlying139 ti120 rfl rfl rfl (by decide) (by decide) (by decide) (fun g10 => ?_))
  have hA_b10 : 0 < 8 → (some (⟨g10, 0, none⟩ : Addr)) ≠ none := fun _ h => by cases h
  refine hmemL (fun w m => m.eqX 0 rfl (show _ = ROwn 120 1 (.slice (some ⟨g10, 0, none⟩) 8 8) 8 (wds (foldB h0L ((padL l).take (64 * 0)))) from by rw [Nat.mul_zero, List.take_zero]; rfl)) ?_
  refine hy (fun _ => y_assign rfl) <| hend <| hsub (ρ' := [(3, _), (2, _), (0, _)]) ⟨rfl, rfl, rfl, trivial⟩ <| hmemQ (X' := [_, _]) (S' := [_]) (fun _ m => m) <| hthen <| hseq <| hreg <| hy (fun _ => y_move rfl) <| ?_
  refine hx (xh_call rfl Tryd.call84 (rwholeC (by omega)) [] rfl [0] rfl ?_)
  rintro _ _ _ ⟨v, rfl, rfl, rfl⟩
  refine hfactL (fun m => (m.own 0 rfl).slice) ?_
  rintro ⟨A_x, c_x, rfl, hc_x⟩
  refine hfactL (fun m => (m.ord 0 rfl).2.1) fun hA_x => ?_
  refine hy (fun _ => y_assign rfl) <| hend <| hsub (ρ' := [(4, _), (3, _), (2, _), (0, _)]) ⟨rfl, rfl, rfl, rfl, trivial⟩ <| hmemQ (X' := [_, _, _]) (S' := [_]) (fun _ m => m) <| hthen <| hseq <| hseq <| hreg <| hy (fun _ => y_assign rfl) <| hend <| hthen <| hblock <| ?_
  have hpl := padL_length l
  have hpb : (padL l).length ≤ 140737488352000 := by
    have : l.length = n := hl_r
    have hz : padZ l.length < 64 := Nat.mod_lt _ (by decide)
    simp only [padL, List.length_append, List.length_cons, List.length_replicate, be8_len]; omega
  obtain ⟨K, hK⟩ : ∃ K, (padL l).length = 64 * K := ⟨(padL l).length / 64, by omega⟩
  generalize hP : padL l = P at hpl hpb hK hc_x hA_x ⊢
  refine hmemC (fun w m => (m.perm (takeR_perm [0] _ [_] _ rfl)).freeze) ?_
  refine hmemC (fun w m => m.asV 0 rfl .own) ?_
  refine hfactC (fun m => rdB (m.rd 0 rfl)) ?_
  rintro ⟨hl_xr, hA_xr⟩
  refine hloop3 (fun k H hc => K - k) (fun k H hc => [(3, .slice H 8 hc), (5, .int .i64 ((64 * k : Nat) : Int))]) (fun k H hc => [ROwn 120 1 (.slice H 8 hc) 8 (wds (foldB h0L (P.take (64 * k))))]) (fun k H hc => []) (fun k H hc => k ≤ K) 0 (some ⟨g10, 0, none⟩) 8 [(4, _), (2, _), (0, _)] ⟨rfl, rfl, rfl, trivial⟩ [0] rfl [] rfl (Nat.zero_le _) ⟨rfl, rfl, trivial⟩ (fun k H hc hkK => ?_)
  have hh := foldB_length (h := h0L) (P.take (64 * k)) rfl
  refine hseq <| hseq <| hreg <| hy (fun _ => y_move rfl) <| hy (fun _ => y_move rfl) <| hy (fun _ => y_lenS rfl Tryd.underlying32) <| hy (fun _ => y_lss rfl rfl) <| hend <| hsub (ρ' := [(16, _), (3, _), (5, _), (4, _), (2, _), (0, _)]) ⟨rfl, rfl, rfl, rfl, rfl, rfl, trivial⟩ <| hthen <| ?_
  refine hif rfl (fun hlt => ?_) (fun hlt => ?_)
  · have hk : k < K := by omega
    refine hmemC (fun w m => m.asV 0 rfl (View.sub (k := 64 * k) (m := 64) hc_x (by omega))) ?_
    refine hfactC (fun m => rdB (m.rd 0 rfl)) ?_
    rintro ⟨hl_r64, hA_r64⟩
    refine hcskip <| hthen <| hseq <| hblock <| hreg <| hy (fun _ => y_move rfl) <| hy (fun _ => y_move rfl) <| hy (fun _ => y_move rfl) <| hy (fun _ => y_move rfl) <| hy (fun _ => y_add rfl rfl (w64 (by omega) (by omega))) <| hy (fun _ => yV (y_slBoth rfl rfl rfl Tryd.underlying32 sz5 (show ((64 * k : Nat) : Int) = _ by omega) (show ((64 * k + 64 : Nat) : Int) = _ by omega) (by omega) (by omega)) ((show Value.slice (if c_x = 64 * k then A_x else A_x.map (·.add (64 * k * 1))) (64 * k + 64 - 64 * k) (c_x - 64 * k) = .slice (if c_x = 64 * k then A_x else A_x.map (·.add (64 * k * 1))) 64 (c_x - 64 * k) by rw [Nat.add_sub_cancel_left]))) <| ?_
    refine hx (xh_calll rfl Tryd.call85 (rblockC (by omega) hh (h := (foldB h0L (P.take (64 * k))))) [] rfl (.x 0 rfl .own (.s 0 rfl .nil)) ?_)
    rintro _ _ _ ⟨u, rfl, rfl, rfl⟩
    refine ⟨rfl, ?_⟩
    refine hfactL (fun m => (m.own 0 rfl).slice) ?_
    rintro ⟨A_y, c_y, rfl, hc_y⟩
    refine hfactL (fun m => (m.ord 0 rfl).2.1) fun hA_y => ?_
    refine hy (fun _ => y_assign rfl) <| hend <| hsub (ρ' := [(3, _), (16, _), (5, _), (4, _), (2, _), (0, _)]) ⟨rfl, rfl, rfl, rfl, rfl, rfl, trivial⟩ <| hmemQ (X' := [_, _, _]) (S' := [_, _, _, _]) (fun _ m => m) <| hqblock <| hthen <| hreg <| hy (fun _ => y_move rfl) <| hy (fun _ => yV (y_add rfl rfl (w64 (by omega) (by omega))) ((show Value.int .i64 (((64 * k : Nat) : Int) + 64) = .int .i64 ((64 * (k + 1) : Nat) : Int) from congrArg (Value.int .i64) (by omega)))) <| hy (fun _ => y_assign rfl) <| hend <| hsub (ρ' := [(5, _), (3, _), (16, _), (4, _), (2, _), (0, _)]) ⟨rfl, rfl, rfl, rfl, rfl, rfl, trivial⟩ <| ?_
    have hfs : blockL (foldB h0L (P.take (64 * k))) ((P.drop (64 * k)).take 64) = foldB h0L (P.take (64 * (k + 1))) := by
      rw [← foldB_snoc (by rw [List.length_take]; omega) (by rw [List.length_take, List.length_drop]; omega), ← List.take_add]
      rfl
    rw [hfs]
    refine hnext3 (k + 1) A_y c_y ⟨rfl, rfl, rfl, rfl, rfl, trivial⟩ [0, 1] rfl [1, 2, 3] rfl (by omega) (by omega)
  · obtain rfl : k = K := by omega
    have hfl : foldB h0L (P.take (64 * k)) = foldB h0L P := by rw [List.take_of_length_le (by omega)]
    rw [hfl] at hh ⊢
    have hsha : shaL l = digOf (foldB h0L P) := by rw [shaL, hP]
    have hdl := digOf_length hh
    generalize foldB h0L P = F at hh hsha hdl ⊢
    refine hfactC (fun m => (m.ord 0 rfl).2.1) fun hA_b10 => ?_
    refine hexit <| hthen_exit <| hthen_exit <| hqblock_exit <| hthen <| hseq <| hreg <| ?_
    refine hx (xh_alloc ti23 (fun g6 => ?_))
    refine hend <| hmemQ (X' := [_, _, _]) (S' := [_, _, _]) (fun _ m => m) <| hthen <| hseq <| hseq <| hreg <| hy (fun _ => y_assign rfl) <| hend <| hthen <| hblock <| ?_
    refine hmemC (fun w m => m.eqX 0 rfl (show _ = RBlk g6 23 (b8s ((digOf F).take 0 ++ List.replicate (32 - 0) 0)) from rfl)) ?_
    refine hloop1 (fun i => 32 - i) (fun i => [(7, .int .i64 (i : Nat))]) (fun i => [RBlk g6 23 (b8s ((digOf F).take i ++ List.replicate (32 - i) 0))]) (fun i => []) (fun i => i ≤ 32) 0 [(6, _), (16, _), (3, _), (5, _), (4, _), (2, _), (0, _)] ⟨rfl, rfl, rfl, rfl, rfl, rfl, rfl, trivial⟩ [0] rfl [] rfl (Nat.zero_le _) ⟨rfl, trivial⟩ (fun i hi32 => ?_)
    refine hseq <| hseq <| hreg <| hy (fun _ => y_move rfl) <| hy (fun _ => y_lss rfl rfl) <| hend <| hsub (ρ' := [(27, _), (7, _), (6, _), (16, _), (3, _), (5, _), (4, _), (2, _), (0, _)]) ⟨rfl, rfl, rfl, rfl, rfl, rfl, rfl, rfl, rfl, trivial⟩ <| hthen <| ?_
    refine hif rfl (fun hi => ?_) (fun hi => ?_)
    · refine hcskip <| hthen <| hseq <| hblock <| hseq <| hreg <| hy (fun _ => y_move rfl) <| hy (fun _ => y_move rfl) <| hy (fun _ => y_quo rfl rfl (by omega) (by omega) (w64 (by omega) (by omega))) <| hy (fun _ => y_idxS1 rfl rfl Tryd.underlying139 sz120 hA_b10 (show ((i / 4 : Nat) : Int) = _ by omega) (by omega)) <| hy (fun m => yV (y_ld1 rfl ag120 ((m.ord 1 rfl).cell (j := i / 4) (wds_get (by omega)))) ((rfl : _ = Wd (qw (F.getD (i / 4) 0) 0)))) <| hy (fun _ => y_assign rfl) <| hend <| hsub (ρ' := [(8, _), (27, _), (7, _), (6, _), (16, _), (3, _), (5, _), (4, _), (2, _), (0, _)]) ⟨rfl, rfl, rfl, rfl, rfl, rfl, rfl, rfl, rfl, rfl, trivial⟩ <| hthen <| hseq <| hseq <| hreg <| hy (fun _ => y_move rfl) <| hy (fun _ => yV (y_rem rfl rfl (by omega) (by omega)) ((show Value.int .i64 ((i : Int) % 4) = .int .i64 (((i % 4 + 0 : Nat)) : Int) from congrArg (Value.int .i64) (by omega)))) <| hy (fun _ => y_assign rfl) <| hend <| hsub (ρ' := [(9, _), (8, _), (27, _), (7, _), (6, _), (16, _), (3, _), (5, _), (4, _), (2, _), (0, _)]) ⟨rfl, rfl, rfl, rfl, rfl, rfl, rfl, rfl, rfl, rfl, rfl, trivial⟩ <| hthen <| hblock <| ?_
      refine hloop1 (fun j => 3 - j) (fun j => [(8, Wd (qw (F.getD (i / 4) 0) j)), (9, .int .i64 ((i % 4 + j : Nat) : Int))]) (fun j => []) (fun j => []) (fun j => i % 4 + j ≤ 3) 0 [(27, _), (7, _), (6, _), (16, _), (3, _), (5, _), (4, _), (2, _), (0, _)] ⟨rfl, rfl, rfl, rfl, rfl, rfl, rfl, rfl, rfl, trivial⟩ [] rfl [] rfl ((by omega)) ⟨rfl, rfl, trivial⟩ (fun j hj3 => ?_)
      refine hseq <| hseq <| hreg <| hy (fun _ => y_move rfl) <| hy (fun _ => y_lss rfl rfl) <| hend <| hsub (ρ' := [(38, _), (8, _), (9, _), (27, _), (7, _), (6, _), (16, _), (3, _), (5, _), (4, _), (2, _), (0, _)]) ⟨rfl, rfl, rfl, rfl, rfl, rfl, rfl, rfl, rfl, rfl, rfl, rfl, trivial⟩ <| hthen <| ?_
      refine hif rfl (fun hj => ?_) (fun hj => ?_)
      · refine hcskip <| hthen <| hseq <| hblock <| hreg <| hy (fun _ => y_move rfl) <| hy (fun _ => yV (y_wquo (b := 256) (by decide) rfl rfl) ((rfl : _ = Wd (qw (F.getD (i / 4) 0) (j + 1))))) <| hy (fun _ => y_assign rfl) <| hend <| hsub (ρ' := [(8, _), (38, _), (9, _), (27, _), (7, _), (6, _), (16, _), (3, _), (5, _), (4, _), (2, _), (0, _)]) ⟨rfl, rfl, rfl, rfl, rfl, rfl, rfl, rfl, rfl, rfl, rfl, rfl, trivial⟩ <| hqblock <| hthen <| hreg <| hy (fun _ => y_move rfl) <| hy (fun _ => yV (y_add rfl rfl (w64 (by omega) (by omega))) ((show Value.int .i64 (((i % 4 + j : Nat) : Int) + 1) = .int .i64 ((i % 4 + (j + 1) : Nat) : Int) from congrArg (Value.int .i64) (by omega)))) <| hy (fun _ => y_assign rfl) <| hend <| hsub (ρ' := [(9, _), (8, _), (38, _), (27, _), (7, _), (6, _), (16, _), (3, _), (5, _), (4, _), (2, _), (0, _)]) ⟨rfl, rfl, rfl, rfl, rfl, rfl, rfl, rfl, rfl, rfl, rfl, rfl, trivial⟩ <| ?_
        refine hnext1 (j + 1) ⟨rfl, rfl, rfl, rfl, rfl, rfl, rfl, rfl, rfl, rfl, rfl, trivial⟩ [0, 0, 0] rfl [0, 1, 2] rfl (by omega) (by omega)
      · have hj : j = 3 - i % 4 := by omega
        subst hj
        have hbyte : (digOf F)[i]? = some (UInt8.ofNat (qw (F.getD (i / 4) 0) (3 - i % 4) % 256).toNat) := by
          rw [← qw_be4 _ (by omega), ← digOf_get F (i / 4) (i % 4) (by omega) (by omega)]
          congr 1; omega
        have hri : List.replicate (32 - i) (0 : UInt8) = 0 :: List.replicate (32 - (i + 1)) 0 := by rw [show 32 - i = (32 - (i + 1)) + 1 by omega]; rfl
        have hti : (digOf F).take (i + 1) = (digOf F).take i ++ [UInt8.ofNat (qw (F.getD (i / 4) 0) (3 - i % 4) % 256).toNat] := by
          rw [List.take_add_one, hbyte]; rfl
        refine hexit <| hthen_exit <| hthen_exit <| hqblock_exit <| hthen <| hreg <| hy (fun _ => y_move rfl) <| hy (fun _ => y_move rfl) <| hy (fun _ => y_wrem (b := 256) (by decide) rfl rfl) <| hy (fun _ => y_8w rfl Tryd.underlying120 Tryd.underlying5) <| hy (fun _ => y_idxA1 rfl rfl Tryd.underlying23 sz5 rfl (by omega)) <| ?_
        refine hx0 (xh_st1a 0 rfl rfl rfl sz5 rfl (by rw [b8s_length, List.length_append, List.length_take, List.length_replicate]; omega) ?_)
        refine hend <| hsub (ρ' := [(38, _), (8, _), (9, _), (27, _), (7, _), (6, _), (16, _), (3, _), (5, _), (4, _), (2, _), (0, _)]) ⟨rfl, rfl, rfl, rfl, rfl, rfl, rfl, rfl, rfl, rfl, rfl, rfl, trivial⟩ <| hmemQ (X' := [_, _, _]) (S' := [_, _, _]) (fun _ m => m) <| hqblock <| hthen <| hreg <| hy (fun _ => y_move rfl) <| hy (fun _ => y_add rfl rfl (w64 (by omega) (by omega))) <| hy (fun _ => y_assign rfl) <| hend <| hsub (ρ' := [(7, _), (38, _), (8, _), (9, _), (27, _), (6, _), (16, _), (3, _), (5, _), (4, _), (2, _), (0, _)]) ⟨rfl, rfl, rfl, rfl, rfl, rfl, rfl, rfl, rfl, rfl, rfl, rfl, trivial⟩ <| ?_
        refine hmemQ (fun w m => m.eqX 0 rfl (show _ = RBlk g6 23 (b8s ((digOf F).take (i + 1) ++ List.replicate (32 - (i + 1)) 0)) from by rw [hri, Nat.zero_add, hti]; exact congrArg (RBlk _ _) (set_mid8 (by rw [List.length_take]; omega)))) ?_
        refine hnext1 (i + 1) ⟨rfl, rfl, rfl, rfl, rfl, rfl, rfl, rfl, trivial⟩ [0, 0, 0] rfl [0, 1, 2] rfl (by omega) (by omega)
    · obtain rfl : i = 32 := by omega
      refine hmemC (fun w m => m.eqX 0 rfl (show _ = RBlk g6 23 (b8s (shaL l)) from by rw [List.take_of_length_le (by omega), ← hsha]; simp)) ?_
      refine hexit <| hthen_exit <| hthen_exit <| hqblock_exit <| hthen <| hseq <| hreg <| hy (fun m => yV (y_ldN rfl ag23 sz23 (by rw [b8s_length, shaL_length]) ((m.blk 0 rfl).cells0)) ((rfl : _ = Value.agg (b8s (shaL l)).toArray))) <| ?_
      refine hx0 (xh_stA 2 rfl rfl rfl sz23 (by rw [b8s_length, shaL_length]) b8s_one rfl ?_)
      refine hend <| hsub (ρ' := [(27, _), (7, _), (6, _), (16, _), (3, _), (5, _), (4, _), (2, _), (0, _)]) ⟨rfl, rfl, rfl, rfl, rfl, rfl, rfl, rfl, rfl, trivial⟩ <| hmemQ (X' := [_, _, _]) (S' := [_, _, _]) (fun _ m => m) <| hthen <| hret <| ?_
      exact hretN trivial rfl rfl ag23 sz23 (by rw [b8s_length, shaL_length]) (fun m => (m.blk 0 rfl).cells0) [] rfl [] rfl ⟨rfl, rfl, rfl⟩
end Go.Proofs.YtfikjheicjamhaaDoor
end
