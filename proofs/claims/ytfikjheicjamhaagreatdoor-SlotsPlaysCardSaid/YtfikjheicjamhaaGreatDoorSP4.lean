/- What the claim leans on, part 4. -/
import Derived.Test.YtfikjheicjamhaaGreatDoorSP3
import Derived.Laws.BitsAllLaws
section
/- Contracts: the program's digest of bytes (layer 2): Sum. -/
set_option linter.unusedVariables false
set_option linter.unusedSimpArgs false
set_option maxRecDepth 20000
namespace Go.Proofs.YtfikjheicjamhaaGreatDoor
open Go.Eng Go.Hx
theorem u64mod (n : Nat) (h : n < 18446744073709551616) : IntKind.u64.wrap (n : Int) = (n : Int) := by
  simp [IntKind.wrap, IntKind.signed, IntKind.bits]; omega
theorem be8_snoc {n i : Nat} (hi : i < 8) : (be8 n).take (i + 1) = (be8 n).take i ++ [UInt8.ofNat (n / 256 ^ (7 - i))] := by
  rw [be8, ← List.map_take, ← List.map_take, List.take_range, List.take_range, show min (i + 1) 8 = i + 1 by omega, show min i 8 = i by omega, List.range_succ, List.map_append]; rfl
theorem p56 {i : Nat} (hi : i < 8) : 2 ^ (56 - 8 * i) = 256 ^ (7 - i) := by
  rw [show (256 : Nat) = 2 ^ 8 from rfl, ← Nat.pow_mul]; congr 1; omega
theorem be4_get (h : List UInt32) (j : Nat) (hj : j < h.length) : digOf (h.take (j + 1)) = digOf (h.take j) ++ be4 (h.getD j 0) := by
  rw [List.take_succ_eq_append_getElem hj, digOf, digOf, List.flatMap_append]
  simp [List.getD, List.getElem?_eq_getElem hj]
theorem digOf_take (h : List UInt32) : ∀ j, j ≤ h.length → (digOf (h.take j)).length = 4 * j
  | 0, _ => rfl
  | j + 1, hj => by rw [be4_get h j (by omega), List.length_append, digOf_take h j (by omega)]; show 4 * j + 4 = _; omega
theorem set4 {p r : List UInt8} {k : Nat} {a b c d x y z u : UInt8} (hp : p.length = k) :
    ((((b8s (p ++ x :: y :: z :: u :: r)).set k (B8 a)).set (k + 1) (B8 b)).set (k + 2) (B8 c)).set (k + 3) (B8 d) = b8s (p ++ a :: b :: c :: d :: r) := by
  subst hp
  simp [b8s, List.set_append]
theorem sumSC {g : Nat} {s : ShSt} {all : List UInt8} (ok : s.ok all) (hr : s.rest.length < 64) (ha : all.length ≤ 140737488351232) : Con Tryz.prog 139 [.pointer (some ⟨g, 0, none⟩)] [RSha g s] [RRoots] (fun v_ X_ S_ => v_ = (.agg (b8s (shaL all)).toArray) ∧ X_ = [RSha g s] ∧ S_ = []) := by
  have hh := ok.len
  have hsn := ok.n
  have hl0 := stc_len (n := s.n) (A := s.A) (m := s.rest.length) (c := s.c) hh
  have hz64 : padZ s.n < 64 := Nat.mod_lt _ (by decide)
  have hzp : (s.n + (1 + padZ s.n)) % 64 = 56 := by unfold padZ; omega
  have hzm : ∀ j, j < padZ s.n → (s.n + (1 + j)) % 64 ≠ 56 := fun j hj => by unfold padZ at hj; omega
  refine henter (N := 83) Tryz.func139 rfl rfl (by simp) fun b => ?_
  refine hseq <| hreg <| ?_
  refine hx (xh_alloc ti33 (fun g2 => ?_))
  refine hend <| hmemQ (X' := [_, _]) (S' := [_]) (fun _ m => m) <| hthen <| hseq <| hreg <| hy (fun _ => y_move rfl) <| ?_
  refine hx (xh_call rfl Tryz.call186 (cloneSC (by omega) (by omega)) [1] rfl [] rfl ?_)
  rintro _ _ _ ⟨g22, s2, rfl, rfl, rfl, hp⟩
  refine hy (fun _ => y_assign rfl) <| hend <| hsub (ρ' := [(3, _), (2, _), (0, _)]) ⟨rfl, rfl, rfl, trivial⟩ <| hmemQ (X' := [_, _, _]) (S' := [_]) (fun _ m => m) <| hthen <| hseq <| hreg <| ?_
  refine hx (xh_bsl Tryz.underlying27 ti5 rfl rfl rfl (by simp [Value.cells, B8]) (by decide) (by decide) (fun g12 => ?_))
  have hA_b12 : 0 < 1 → (some (⟨g12, 0, none⟩ : Addr)) ≠ none := fun _ h => by cases h
  refine hy (fun _ => y_assign rfl) <| hend <| hsub (ρ' := [(4, _), (3, _), (2, _), (0, _)]) ⟨rfl, rfl, rfl, rfl, trivial⟩ <| hmemQ (X' := [_, _, _, _]) (S' := [_]) (fun _ m => m) <| hthen <| hseq <| hblock <| ?_
  obtain ⟨c1, c2, c3⟩ := hp
  refine hmemC (fun w m => m.eqX 0 rfl (show _ = ROwn 5 1 (.slice (some ⟨g12, 0, none⟩) 1 1) (1 + 0) (b8s (128 :: List.replicate 0 0)) from rfl)) ?_
  refine hloop3 (fun j A1 cc => padZ s.n - j) (fun j A1 cc => [(4, .slice A1 (1 + j) cc)]) (fun j A1 cc => [ROwn 5 1 (.slice A1 (1 + j) cc) (1 + j) (b8s (128 :: List.replicate j 0)), RSha g s]) (fun j A1 cc => []) (fun j A1 cc => j ≤ padZ s.n) 0 (some ⟨g12, 0, none⟩) 1 [(3, _), (2, _), (0, _)] ⟨rfl, rfl, rfl, trivial⟩ [0, 0] rfl [] rfl (Nat.zero_le _) ⟨rfl, trivial⟩ (fun j A1 cc hjz => ?_)
  refine hmemC (fun w m => (m.perm (takeR_perm [1] _ [_] _ rfl)).unpack) ?_
  refine hseq <| hseq <| hreg <| hy (fun _ => y_move rfl) <| hy (fun _ => y_nilp rfl) <| hy (fun _ => y_fld rfl fa248_1 (by decide)) <| hy (fun m => y_ld1 rfl ag3 ((m.blk 0 rfl).cells0 8 _ (stc_8 hh))) <| hy (fun _ => y_move rfl) <| hy (fun _ => y_lenS rfl Tryz.underlying27) <| hy (fun _ => y_add rfl rfl (w64 (by omega) (by omega))) <| hy (fun _ => y_rem rfl rfl (by omega) (by omega)) <| hy (fun _ => y_neq rfl rfl) <| hend <| hsub (ρ' := [(21, _), (4, _), (3, _), (2, _), (0, _)]) ⟨rfl, rfl, rfl, rfl, rfl, trivial⟩ <| hthen <| ?_
  refine hmemC (X' := RSha g s :: _) (fun w m => (m.perm (takeR_perm [0, 0] _ [_, _] _ rfl)).pack) ?_
  refine hif rfl (fun hne => ?_) (fun hne => ?_)
  · have hj : j < padZ s.n := by
      rcases Nat.lt_or_eq_of_le hjz with h | h
      · exact h
      · rw [← h] at hzp; omega
    refine hcskip <| hthen <| hblock <| hreg <| hy (fun _ => y_move rfl) <| ?_
    refine hx (xh_bsl Tryz.underlying27 ti5 rfl rfl rfl (by simp [Value.cells, B8]) (by decide) (by decide) (fun g23 => ?_))
    have hA_b23 : 0 < 1 → (some (⟨g23, 0, none⟩ : Addr)) ≠ none := fun _ h => by cases h
    refine hmemL (fun w m => m.eqX 0 rfl (show _ = ROwn 5 1 (.slice (some ⟨g23, 0, none⟩) 1 1) 1 (b8s [0]) from rfl)) ?_
    refine hx (xh_app 2 rfl rfl rfl Tryz.underlying27 Tryz.underlying27 (by exact .inl rfl) ti5 rfl (fun m => Src.of_rd (m.ord 0 rfl)) b8s_one (by unfold maxLen; omega) (by omega) (fun u => ?_))
    refine hfactL (fun m => (m.own 0 rfl).slice) ?_
    rintro ⟨A_b12, c_b12, rfl, hc_b12⟩
    refine hfactL (fun m => (m.ord 0 rfl).2.1) fun hA_b12 => ?_
    refine hy (fun _ => y_assign rfl) <| hend <| hsub (ρ' := [(4, _), (21, _), (3, _), (2, _), (0, _)]) ⟨rfl, rfl, rfl, rfl, rfl, trivial⟩ <| hmemQ (X' := [_, _, _, _, _]) (S' := [_]) (fun _ m => m) <| hqblock <| ?_
    refine hmemQ (fun w m => m.eqX 0 rfl (show _ = ROwn 5 1 (.slice A_b12 (1 + (j + 1)) c_b12) (1 + (j + 1)) (b8s (128 :: List.replicate (j + 1) 0)) from by rw [Nat.add_assoc, List.replicate_succ', b8s, b8s, b8s, ← List.map_append]; rfl)) ?_
    refine hnext3 (j + 1) A_b12 c_b12 ⟨rfl, rfl, rfl, rfl, trivial⟩ [0, 1, 1, 1] rfl [0] rfl (by omega) (by omega)
  · have hj : j = padZ s.n := by
      refine Decidable.byContradiction fun hn => ?_
      have := hzm j (by omega)
      omega
    subst hj
    have hsl : IntKind.u64.wrap ((s.n : Int) * 8) = ((8 * s.n : Nat) : Int) := by
      rw [show (s.n : Int) * 8 = ((8 * s.n : Nat) : Int) by omega]
      exact u64mod _ (by omega)
    refine hexit <| hthen_exit <| hthen_exit <| hqblock_exit <| hthen <| hseq <| hreg <| hy (fun _ => y_move rfl) <| hy (fun _ => y_nilp rfl) <| hy (fun _ => y_fld rfl fa248_1 (by decide)) <| hy (fun m => y_ld1 rfl ag3 ((show Blk _ _ _ _ from m.inP 0 rfl 0 rfl).cells0 8 _ (stc_8 hh))) <| hy (fun _ => y_conv rfl Tryz.underlying3 Tryz.underlying250 (u64mod s.n (by omega))) <| hy (fun _ => y_shl (p := 8) rfl rfl (by decide) (by decide) (by decide) hsl) <| hy (fun _ => y_assign rfl) <| hend <| hsub (ρ' := [(5, _), (21, _), (4, _), (3, _), (2, _), (0, _)]) ⟨rfl, rfl, rfl, rfl, rfl, rfl, trivial⟩ <| hthen <| hseq <| hseq <| hreg <| hy (fun _ => y_move rfl) <| hend <| hthen <| hblock <| ?_
    generalize hz : padZ s.n = z at hz64
    refine hmemC (fun w m => m.eqX 1 rfl (show _ = ROwn 5 1 (.slice A1 (1 + z + 0) cc) (1 + z + 0) (b8s (128 :: List.replicate z 0 ++ (be8 (8 * s.n)).take 0)) from by rw [List.take_zero, List.append_nil]; rfl)) ?_
    refine hloop3 (fun i A2 ce => 8 - i) (fun i A2 ce => [(4, .slice A2 (1 + z + i) ce), (31, .int .i64 (i : Nat))]) (fun i A2 ce => [ROwn 5 1 (.slice A2 (1 + z + i) ce) (1 + z + i) (b8s (128 :: List.replicate z 0 ++ (be8 (8 * s.n)).take i))]) (fun i A2 ce => []) (fun i A2 ce => i ≤ 8) 0 A1 cc [(5, _), (21, _), (3, _), (2, _), (0, _)] ⟨rfl, rfl, rfl, rfl, rfl, trivial⟩ [0] rfl [] rfl (Nat.zero_le _) ⟨rfl, rfl, trivial⟩ (fun i A2 ce hi8 => ?_)
    refine hseq <| hreg <| hy (fun _ => y_lss rfl rfl) <| hend <| hthen <| hseq <| ?_
    refine hif rfl (fun hi => ?_) (fun hi => ?_)
    · have hcv : IntKind.u8.wrap (((8 * s.n : Nat) : Int) / ((2 ^ (56 - 8 * i) : Nat) : Int)) = ((UInt8.ofNat (8 * s.n / 256 ^ (7 - i))).toNat : Int) := by
        rw [← Int.natCast_ediv, p56 (by omega)]
        exact u8mod _
      have hsb : (56 : Int) - 8 * (i : Int) = ((56 - 8 * i : Nat) : Int) := by omega
      refine hcskip <| hthen <| hseq <| hblock <| hseq <| hreg <| hy (fun _ => y_move rfl) <| hy (fun _ => y_assign rfl) <| hend <| hsub (ρ' := [(6, _), (32, _), (4, _), (31, _), (5, _), (21, _), (3, _), (2, _), (0, _)]) ⟨rfl, rfl, rfl, rfl, rfl, rfl, rfl, rfl, rfl, trivial⟩ <| hthen <| hreg <| hy (fun _ => y_move rfl) <| hy (fun _ => y_move rfl) <| hy (fun _ => y_move rfl) <| hy (fun _ => y_mul rfl rfl (w64 (by omega) (by omega))) <| hy (fun _ => y_sub rfl rfl (w64 (by omega) (by omega))) <| ?_
      rw [hsb]
      refine hy (fun _ => y_shr rfl rfl (by omega) (by simp [IntKind.bits]; omega) (show (2 : Int) ^ (((56 - 8 * i : Nat) : Int)).toNat = ((2 ^ (56 - 8 * i) : Nat) : Int) by rw [Int.toNat_natCast]; simp)) <| hy (fun _ => y_conv rfl Tryz.underlying250 Tryz.underlying5 hcv) <| ?_
      refine hx (xh_bsl Tryz.underlying27 ti5 rfl rfl rfl (by simp [Value.cells, B8]) (by decide) (by decide) (fun g41 => ?_))
      have hA_b41 : 0 < 1 → (some (⟨g41, 0, none⟩ : Addr)) ≠ none := fun _ h => by cases h
      refine hmemL (fun w m => m.eqX 0 rfl (show _ = ROwn 5 1 (.slice (some ⟨g41, 0, none⟩) 1 1) 1 (b8s [UInt8.ofNat (8 * s.n / 256 ^ (7 - i))]) from rfl)) ?_
      refine hx (xh_app 1 rfl rfl rfl Tryz.underlying27 Tryz.underlying27 (by exact .inl rfl) ti5 rfl (fun m => Src.of_rd (m.ord 0 rfl)) b8s_one (by unfold maxLen; omega) (by omega) (fun u => ?_))
      refine hfactL (fun m => (m.own 0 rfl).slice) ?_
      rintro ⟨A_b12, c_b12, rfl, hc_b12⟩
      refine hfactL (fun m => (m.ord 0 rfl).2.1) fun hA_b12 => ?_
      refine hy (fun _ => y_assign rfl) <| hend <| hsub (ρ' := [(4, _), (6, _), (32, _), (31, _), (5, _), (21, _), (3, _), (2, _), (0, _)]) ⟨rfl, rfl, rfl, rfl, rfl, rfl, rfl, rfl, rfl, trivial⟩ <| hmemQ (X' := [_, _, _, _, _]) (S' := [_]) (fun _ m => m) <| hqblock <| hthen <| hreg <| hy (fun _ => y_add rfl rfl (w64 (by omega) (by omega))) <| hy (fun _ => y_move rfl) <| hend <| hsub (ρ' := [(31, _), (4, _), (6, _), (32, _), (5, _), (21, _), (3, _), (2, _), (0, _)]) ⟨rfl, rfl, rfl, rfl, rfl, rfl, rfl, rfl, rfl, trivial⟩ <| ?_
      refine hmemQ (fun w m => m.eqX 0 rfl (show _ = ROwn 5 1 (.slice A_b12 (1 + z + (i + 1)) c_b12) (1 + z + (i + 1)) (b8s (128 :: List.replicate z 0 ++ (be8 (8 * s.n)).take (i + 1))) from by rw [be8_snoc (by omega), ← List.append_assoc]; simp [b8s, Nat.add_assoc])) ?_
      refine hnext3 (i + 1) A_b12 c_b12 ⟨rfl, rfl, rfl, rfl, rfl, rfl, rfl, trivial⟩ [0, 1, 1, 1] rfl [0] rfl (by omega) (by omega)
    · obtain rfl : i = 8 := by omega
      have hpad : all ++ (128 :: List.replicate z 0 ++ (be8 (8 * s.n)).take 8) = padL all := by
        rw [List.take_of_length_le (by simp [be8]), padL, ← hsn, hz, List.append_assoc]
      refine hexit <| hthen_exit <| hthen_exit <| hqblock_exit <| hthen <| hseq <| hreg <| hy (fun _ => y_move rfl) <| hy (fun _ => y_move rfl) <| ?_
      refine hx (xh_calll rfl Tryz.call138 (writeSC (by rw [c1]; exact hh) (by rw [c2]; omega) (by rw [c3]; omega) (s := s2) (l := (128 :: List.replicate z 0 ++ (be8 (8 * s.n)).take 8))) [2] rfl (.x 0 rfl .own (.s 0 rfl .nil)) ?_)
      rintro _ _ _ ⟨s1, rfl, rfl, rfl, hw⟩
      refine ⟨rfl, ?_⟩
      obtain ⟨hw1, hw2⟩ := hw
      have ok2 : s2.ok all := ⟨by rw [c1]; exact hh, by rw [c2]; exact hsn, by rw [c1, c3]; exact ok.mid⟩
      have ok3 := hw2 all ok2
      rw [hpad] at ok3
      have hh3 := ok3.len
      have hfin : s1.h = foldB h0L (padL all) := by
        obtain ⟨D, e1, e2, e3⟩ := ok3.mid
        have hl := congrArg List.length e1
        rw [List.length_append] at hl
        have hp := padL_length all
        have : s1.rest = [] := List.eq_nil_of_length_eq_zero (by omega)
        rw [this, List.append_nil] at e1
        rw [e3, e1]
      have hsha : digOf s1.h = shaL all := by rw [hfin]; rfl
      have hd32 := digOf_take s1.h
      have hl3 := stc_len (n := s1.n) (A := s1.A) (m := s1.rest.length) (c := s1.c) hh3
      refine hmemL (fun w m => (m.perm (takeR_perm [0] _ [_] _ rfl)).unpack) ?_
      refine hend <| hsub (ρ' := [(32, _), (4, _), (31, _), (5, _), (21, _), (3, _), (2, _), (0, _)]) ⟨rfl, rfl, rfl, rfl, rfl, rfl, rfl, rfl, trivial⟩ <| hmemQ (X' := [_, _, _, _, _]) (S' := [_]) (fun _ m => m) <| hthen <| hseq <| hreg <| ?_
      refine hx (xh_alloc ti33 (fun g7 => ?_))
      refine hmemL (fun w m => m.eqX 0 rfl (show _ = RBlk g7 33 (b8s (digOf (s1.h.take 0) ++ List.replicate (32 - 4 * 0) 0)) from rfl)) ?_
      refine hend <| hmemQ (X' := [_, _, _, _, _, _]) (S' := [_]) (fun _ m => m) <| hthen <| hseq <| hseq <| hreg <| hy (fun _ => y_move rfl) <| hy (fun _ => y_nilp rfl) <| hy (fun _ => y_fld rfl fa248_0 (by decide)) <| hy (fun m => yV (y_ldN rfl ag246 sz246 (by rw [wds_length, hh3]) (fun j u hu => (m.blk 1 rfl).cells0 j u (stc_h hu))) ((rfl : _ = Value.agg (wds s1.h).toArray))) <| hy (fun _ => y_move rfl) <| hend <| hsub (ρ' := [(51, _), (50, _), (7, _), (32, _), (4, _), (31, _), (5, _), (21, _), (3, _), (2, _), (0, _)]) ⟨rfl, rfl, rfl, rfl, rfl, rfl, rfl, rfl, rfl, rfl, rfl, trivial⟩ <| hthen <| hblock <| ?_
      refine hloop1 (fun k => 8 - k) (fun k => [(51, .int .i64 (k : Nat))]) (fun k => [RBlk g7 33 (b8s (digOf (s1.h.take k) ++ List.replicate (32 - 4 * k) 0))]) (fun k => []) (fun k => k ≤ 8) 0 [(50, _), (7, _), (32, _), (4, _), (31, _), (5, _), (21, _), (3, _), (2, _), (0, _)] ⟨rfl, rfl, rfl, rfl, rfl, rfl, rfl, rfl, rfl, rfl, trivial⟩ [0] rfl [] rfl (Nat.zero_le _) ⟨rfl, trivial⟩ (fun k hk8 => ?_)
      refine hseq <| hreg <| hy (fun _ => y_lss rfl rfl) <| hend <| hthen <| hseq <| ?_
      refine hif rfl (fun hk => ?_) (fun hk => ?_)
      · have hdk := hd32 k (by omega)
        have hr4 : List.replicate (32 - 4 * k) (0 : UInt8) = 0 :: 0 :: 0 :: 0 :: List.replicate (32 - 4 * (k + 1)) 0 := by
          rw [show 32 - 4 * k = (32 - 4 * (k + 1)) + 4 by omega]; rfl
        refine hcskip <| hthen <| hseq <| hblock <| hseq <| hreg <| hy (fun _ => y_move rfl) <| hy (fun _ => yV (y_idxV rfl rfl Tryz.underlying246 sz144 ag144 rfl (by omega) (wds_get (by omega))) ((rfl : _ = Wd (s1.h.getD k 0)))) <| hy (fun _ => y_assign rfl) <| hy (fun _ => y_assign rfl) <| hend <| hsub (ρ' := [(9, _), (8, _), (52, _), (51, _), (50, _), (7, _), (32, _), (4, _), (31, _), (5, _), (21, _), (3, _), (2, _), (0, _)]) ⟨rfl, rfl, rfl, rfl, rfl, rfl, rfl, rfl, rfl, rfl, rfl, rfl, rfl, rfl, trivial⟩ <| hthen <| hreg <| hy (fun _ => y_move rfl) <| hy (fun _ => y_mul rfl rfl (w64 (by omega) (by omega))) <| hy (fun _ => y_move rfl) <| hy (fun _ => y_mul rfl rfl (w64 (by omega) (by omega))) <| hy (fun _ => y_add rfl rfl (w64 (by omega) (by omega))) <| hy (fun _ => y_move rfl) <| hy (fun _ => y_mul rfl rfl (w64 (by omega) (by omega))) <| hy (fun _ => y_add rfl rfl (w64 (by omega) (by omega))) <| hy (fun _ => y_move rfl) <| hy (fun _ => y_mul rfl rfl (w64 (by omega) (by omega))) <| hy (fun _ => y_add rfl rfl (w64 (by omega) (by omega))) <| hy (fun _ => y_move rfl) <| hy (fun _ => y_wshrD (k := 24) (b := 16777216) (by decide) rfl rfl rfl) <| hy (fun _ => y_8w rfl Tryz.underlying144 Tryz.underlying5) <| hy (fun _ => y_move rfl) <| hy (fun _ => y_wshrD (k := 16) (b := 65536) (by decide) rfl rfl rfl) <| hy (fun _ => y_8w rfl Tryz.underlying144 Tryz.underlying5) <| hy (fun _ => y_move rfl) <| hy (fun _ => y_wshrD (k := 8) (b := 256) (by decide) rfl rfl rfl) <| hy (fun _ => y_8w rfl Tryz.underlying144 Tryz.underlying5) <| hy (fun _ => y_move rfl) <| hy (fun _ => y_8w rfl Tryz.underlying144 Tryz.underlying5) <| hy (fun _ => y_idxA1 rfl rfl Tryz.underlying33 sz5 (show ((4 * k : Nat) : Int) = _ by omega) (by omega)) <| ?_
        refine hx0 (xh_st1a 0 rfl rfl rfl sz5 rfl (by simp [b8s]; omega) ?_)
        refine hy (fun _ => y_idxA1 rfl rfl Tryz.underlying33 sz5 (show ((4 * k + 1 : Nat) : Int) = _ by omega) (by omega)) <| ?_
        refine hx0 (xh_st1a 0 rfl rfl rfl sz5 rfl (by simp [b8s]; omega) ?_)
        refine hy (fun _ => y_idxA1 rfl rfl Tryz.underlying33 sz5 (show ((4 * k + 2 : Nat) : Int) = _ by omega) (by omega)) <| ?_
        refine hx0 (xh_st1a 0 rfl rfl rfl sz5 rfl (by simp [b8s]; omega) ?_)
        refine hy (fun _ => y_idxA1 rfl rfl Tryz.underlying33 sz5 (show ((4 * k + 3 : Nat) : Int) = _ by omega) (by omega)) <| ?_
        refine hx0 (xh_st1a 0 rfl rfl rfl sz5 rfl (by simp [b8s]; omega) ?_)
        refine hend <| hsub (ρ' := [(9, _), (8, _), (52, _), (51, _), (50, _), (7, _), (32, _), (4, _), (31, _), (5, _), (21, _), (3, _), (2, _), (0, _)]) ⟨rfl, rfl, rfl, rfl, rfl, rfl, rfl, rfl, rfl, rfl, rfl, rfl, rfl, rfl, trivial⟩ <| hmemQ (X' := [_, _, _, _, _, _]) (S' := [_]) (fun _ m => m) <| hqblock <| hthen <| hreg <| hy (fun _ => y_add rfl rfl (w64 (by omega) (by omega))) <| hy (fun _ => y_move rfl) <| hend <| hsub (ρ' := [(51, _), (9, _), (8, _), (52, _), (50, _), (7, _), (32, _), (4, _), (31, _), (5, _), (21, _), (3, _), (2, _), (0, _)]) ⟨rfl, rfl, rfl, rfl, rfl, rfl, rfl, rfl, rfl, rfl, rfl, rfl, rfl, rfl, trivial⟩ <| ?_
        refine hmemQ (fun w m => m.eqX 0 rfl (show _ = RBlk g7 33 (b8s (digOf (s1.h.take (k + 1)) ++ List.replicate (32 - 4 * (k + 1)) 0)) from by rw [hr4, Nat.zero_add, Nat.zero_add, Nat.zero_add, Nat.zero_add, set4 hdk, be4_get _ _ (by omega)]; simp [be4])) ?_
        refine hnext1 (k + 1) ⟨rfl, rfl, rfl, rfl, rfl, rfl, rfl, rfl, rfl, rfl, rfl, trivial⟩ [0, 0, 0, 0, 0, 0] rfl [0] rfl (by omega) (by omega)
      · obtain rfl : k = 8 := by omega
        refine hmemC (fun w m => m.eqX 0 rfl (show _ = RBlk g7 33 (b8s (shaL all)) from by rw [List.take_of_length_le (by omega), hsha]; simp)) ?_
        refine hexit <| hthen_exit <| hthen_exit <| hqblock_exit <| hthen <| hseq <| hreg <| hy (fun m => yV (y_ldN rfl ag33 sz33 (by rw [b8s_length, shaL_length]) ((m.blk 0 rfl).cells0)) ((rfl : _ = Value.agg (b8s (shaL all)).toArray))) <| ?_
        refine hx0 (xh_stA 5 rfl rfl rfl sz33 (by rw [b8s_length, shaL_length]) b8s_one rfl ?_)
        refine hend <| hsub (ρ' := [(52, _), (51, _), (50, _), (7, _), (32, _), (4, _), (31, _), (5, _), (21, _), (3, _), (2, _), (0, _)]) ⟨rfl, rfl, rfl, rfl, rfl, rfl, rfl, rfl, rfl, rfl, rfl, rfl, trivial⟩ <| hmemQ (X' := [_, _, _, _, _, _]) (S' := [_]) (fun _ m => m) <| hthen <| hret <| ?_
        exact hretN trivial rfl rfl ag33 sz33 (by rw [b8s_length, shaL_length]) (fun m => (m.blk 0 rfl).cells0) [5] rfl [] rfl ⟨rfl, rfl, rfl⟩
theorem shaSumC {A : Option Addr} {n c : Nat} {l : List UInt8} (hn : n ≤ 140737488351232) : Con Tryz.prog 68 [.slice A n c] [] [RRd 1 A n (b8s l), RRoots] (fun v_ X_ S_ => v_ = (.agg (b8s (shaL l)).toArray) ∧ X_ = [] ∧ S_ = []) := by
  refine henter (N := 10) Tryz.func68 rfl rfl (by simp) fun b => ?_
  refine hfactC (fun m => rdB (m.rd 0 rfl)) ?_
  rintro ⟨hl_r, hA_r⟩
  have hln : l.length = n := hl_r
  refine hseq <| hreg <| ?_
  refine hx (xh_alloc ti33 (fun g2 => ?_))
  refine hend <| hmemQ (X' := [_]) (S' := [_, _]) (fun _ m => m) <| hthen <| hseq <| hreg <| ?_
  refine hx (xh_call rfl Tryz.call137 (newSC) [] rfl [] rfl ?_)
  rintro _ _ _ ⟨g, rfl, rfl, rfl⟩
  refine hy (fun _ => y_assign rfl) <| hend <| hsub (ρ' := [(3, _), (2, _), (0, _)]) ⟨rfl, rfl, rfl, trivial⟩ <| hmemQ (X' := [_, _]) (S' := [_, _]) (fun _ m => m) <| hthen <| hseq <| hreg <| hy (fun _ => y_move rfl) <| hy (fun _ => y_move rfl) <| ?_
  refine hx (xh_call rfl Tryz.call138 (writeSC rfl (by show 0 + n ≤ _; omega) (by show 0 + n ≤ _; omega) (s := ⟨h0L, 0, none, 0, []⟩)) [0] rfl [0, 1] rfl ?_)
  rintro _ _ _ ⟨s1, rfl, rfl, rfl, hw⟩
  refine hend <| hsub (ρ' := [(3, _), (2, _), (0, _)]) ⟨rfl, rfl, rfl, trivial⟩ <| hmemQ (X' := [_, _]) (S' := [_, _]) (fun _ m => m) <| hthen <| hseq <| hreg <| ?_
  obtain ⟨hw1, hw2⟩ := hw
  have ok1 := hw2 [] ok_new
  rw [List.nil_append] at ok1
  refine hy (fun _ => y_move rfl) <| ?_
  refine hx (xh_call rfl Tryz.call139 (sumSC ok1 hw1 (by omega) (all := l)) [0] rfl [1] rfl ?_)
  rintro _ _ _ ⟨rfl, rfl, rfl⟩
  refine hx0 (xh_stA 1 rfl rfl rfl sz33 (by rw [b8s_length, shaL_length]) b8s_one rfl ?_)
  refine hend <| hsub (ρ' := [(3, _), (2, _), (0, _)]) ⟨rfl, rfl, rfl, trivial⟩ <| hmemQ (X' := [_, _]) (S' := [_, _]) (fun _ m => m) <| hthen <| hret <| ?_
  exact hretN trivial rfl rfl ag33 sz33 (by rw [b8s_length, shaL_length]) (fun m => (m.blk 0 rfl).cells0) [] rfl [] rfl ⟨rfl, rfl, rfl⟩
end Go.Proofs.YtfikjheicjamhaaGreatDoor
end
section
/- Contracts: the document's digest of bytes (layer 2). -/
set_option linter.unusedVariables false
set_option linter.unusedSimpArgs false
set_option maxRecDepth 20000
namespace Go.Proofs.YtfikjheicjamhaaGreatDoor
open Go.Eng Go.Hx
theorem rturnC {x : UInt32} {n : Nat} (hn : n ≤ 32) : Con Tryz.prog 150 [Wd x, .int .i64 (n : Int)] [] [] (fun v_ X_ S_ => v_ = (Wd (rotr n x)) ∧ X_ = [] ∧ S_ = []) := by
  refine henter (N := 18) Tryz.func150 rfl rfl (by simp) fun b => ?_
  refine hseq <| hreg <| hy (fun _ => y_assign rfl) <| hend <| hthen <| hseq <| hseq <| hreg <| hy (fun _ => y_assign rfl) <| hend <| hthen <| hblock <| ?_
  refine hloop2 (fun i y => n - i) (fun i y => [(0, Wd y), (5, .int .i64 (i : Nat))]) (fun i y => []) (fun i y => []) (fun i y => i ≤ n ∧ y = rotr i x) 0 x [(4, _), (1, _)] ⟨rfl, rfl, trivial⟩ [] rfl [] rfl (⟨Nat.zero_le _, (rotr_zero x).symm⟩) ⟨rfl, rfl, trivial⟩ (fun i y ⟨hin, hyv⟩ => ?_)
  refine hseq <| hseq <| hreg <| hy (fun _ => y_move rfl) <| hy (fun _ => y_move rfl) <| hy (fun _ => y_lss rfl rfl) <| hend <| hsub (ρ' := [(8, _), (0, _), (5, _), (4, _), (1, _)]) ⟨rfl, rfl, rfl, rfl, rfl, trivial⟩ <| hthen <| ?_
  refine hif rfl (fun h => ?_) (fun h => ?_)
  · refine hcskip <| hthen <| hseq <| hblock <| hreg <| hy (fun _ => y_move rfl) <| hy (fun _ => y_wquo (b := 2) (by decide) rfl rfl) <| hy (fun _ => y_move rfl) <| hy (fun _ => y_wrem (b := 2) (by decide) rfl rfl) <| hy (fun _ => y_wmul (b := 2147483648) rfl rfl) <| hy (fun _ => yV (y_wadd rfl rfl) ((rfl : _ = Wd (turn1 y)))) <| hy (fun _ => y_assign rfl) <| hend <| hsub (ρ' := [(0, _), (8, _), (5, _), (4, _), (1, _)]) ⟨rfl, rfl, rfl, rfl, rfl, trivial⟩ <| hqblock <| hthen <| hreg <| hy (fun _ => y_move rfl) <| hy (fun _ => y_add rfl rfl (w64 (by omega) (by omega))) <| hy (fun _ => y_assign rfl) <| hend <| hsub (ρ' := [(5, _), (0, _), (8, _), (4, _), (1, _)]) ⟨rfl, rfl, rfl, rfl, rfl, trivial⟩ <| ?_
    refine hnext2 (i + 1) (turn1 y) ⟨rfl, rfl, rfl, rfl, trivial⟩ [] rfl [] rfl (⟨by omega, by rw [hyv, rotr_succ (by omega)]⟩) (by omega)
  · obtain rfl : i = n := by omega
    subst hyv
    refine hexit <| hthen_exit <| hthen_exit <| hqblock_exit <| hthen <| hseq <| hreg <| hy (fun _ => y_move rfl) <| hy (fun _ => y_assign rfl) <| hend <| hsub (ρ' := [(4, _), (8, _), (0, _), (5, _), (1, _)]) ⟨rfl, rfl, rfl, rfl, rfl, trivial⟩ <| hthen <| hret <| ?_
    exact hret1 trivial rfl rfl [] rfl [] rfl ⟨rfl, rfl, rfl⟩
theorem rwordC {A : Option Addr} {n c : Nat} {l : List UInt8} {i : Nat} (hi : i + 4 ≤ n) (hn : n ≤ 1000000000000) : Con Tryz.prog 149 [.slice A n c, .int .i64 (i : Int)] [] [RRd 1 A n (b8s l)] (fun v_ X_ S_ => v_ = (Wd (word4 l i)) ∧ X_ = [] ∧ S_ = []) := by
  refine henter (N := 34) Tryz.func149 rfl rfl (by simp) fun b => ?_
  refine hfactC (fun m => rdB (m.rd 0 rfl)) ?_
  rintro ⟨hl_r, hA_r⟩
  have hl : l.length = n := hl_r
  refine hseq <| hreg <| hy (fun _ => y_assign rfl) <| hend <| hthen <| hseq <| hdrw [] [(0, some 0), (1, some 0), (2, some 0), (3, some 0), (4, some 0), (5, some 0), (6, some 0), (7, some 0), (8, some 0), (9, some 0), (10, some 0), (11, some 0), (12, some 0), (13, some 0), (14, some 0), (15, some 0), (16, some 0), (17, some 0), (18, some 0), (19, some 0), (20, some 0), (21, some 0), (22, some 0), (23, some 0), (24, some 0), (25, some 0), (26, some 0), (27, some 0), (28, some 0), (29, some 0)] (by kernel_rfl) (by kernel_rfl) rfl 99 <| htyU (y_move rfl) <| htyU (y_move rfl) <| htyU (y_idxS1 rfl rfl Tryz.underlying27 sz5 hA_r rfl (by omega)) <| hty (fun m => y_ld1 rfl ag5 ((m.rd 0 rfl).cell (b8s_get (by omega)))) <| htyU (y_w8 rfl Tryz.underlying5 Tryz.underlying144) <| htyU (y_wmul (b := 16777216) rfl rfl) <| htyU (y_move rfl) <| htyU (y_move rfl) <| htyU (y_add rfl rfl (w64 (by omega) (by omega))) <| htyU (y_idxS1 rfl rfl Tryz.underlying27 sz5 hA_r (show ((i + 1 : Nat) : Int) = _ by omega) (by omega)) <| hty (fun m => y_ld1 rfl ag5 ((m.rd 0 rfl).cell (b8s_get (by omega)))) <| htyU (y_w8 rfl Tryz.underlying5 Tryz.underlying144) <| htyU (y_wmul (b := 65536) rfl rfl) <| htyU (y_wadd rfl rfl) <| htyU (y_move rfl) <| htyU (y_move rfl) <| htyU (y_add rfl rfl (w64 (by omega) (by omega))) <| htyU (y_idxS1 rfl rfl Tryz.underlying27 sz5 hA_r (show ((i + 2 : Nat) : Int) = _ by omega) (by omega)) <| hty (fun m => y_ld1 rfl ag5 ((m.rd 0 rfl).cell (b8s_get (by omega)))) <| htyU (y_w8 rfl Tryz.underlying5 Tryz.underlying144) <| htyU (y_wmul (b := 256) rfl rfl) <| htyU (y_wadd rfl rfl) <| htyU (y_move rfl) <| htyU (y_move rfl) <| htyU (y_add rfl rfl (w64 (by omega) (by omega))) <| htyU (y_idxS1 rfl rfl Tryz.underlying27 sz5 hA_r (show ((i + 3 : Nat) : Int) = _ by omega) (by omega)) <| hty (fun m => y_ld1 rfl ag5 ((m.rd 0 rfl).cell (b8s_get (by omega)))) <| htyU (y_w8 rfl Tryz.underlying5 Tryz.underlying144) <| htyU (yV (y_wadd rfl rfl) ((show Wd ((l.getD i 0).toUInt32 * 16777216 + (l.getD (i + 1) 0).toUInt32 * 65536 + (l.getD (i + 2) 0).toUInt32 * 256 + (l.getD (i + 3) 0).toUInt32) = Wd (word4 l i) by rw [word4_sum]))) <| htyU (y_assign rfl) <| htend <| hsub (ρ' := [(4, _), (0, _), (1, _)]) ⟨rfl, rfl, rfl, trivial⟩ <| hthen <| hret <| ?_
  exact hret1 trivial rfl rfl [] rfl [] rfl ⟨rfl, rfl, rfl⟩
theorem rrootsC  : Con Tryz.prog 148 [] [] [] (fun v_ X_ S_ => ∃ v, v_ = v ∧ X_ = [ROwn 144 1 v 64 (wds rootsL)] ∧ S_ = []) := by
  refine henter (N := 2) Tryz.func148 rfl rfl (by simp) fun b => ?_
  refine hseq <| hreg <| hy (fun _ => y_assign rfl) <| hend <| hthen <| hseq <| hreg <| ?_
  refine hx (xh_bsl Tryz.underlying145 ti144 rfl rfl rfl (by decide) (by decide) (by decide) (fun g1 => ?_))
  have hA_b1 : 0 < 64 → (some (⟨g1, 0, none⟩ : Addr)) ≠ none := fun _ h => by cases h
  refine hy (fun _ => y_assign rfl) <| hend <| hsub (ρ' := [(0, _)]) ⟨rfl, trivial⟩ <| hmemQ (X' := [_]) (S' := []) (fun _ m => m) <| hthen <| hret <| ?_
  refine hmemQ (fun w m => m.eqX 0 rfl (show _ = ROwn 144 1 (.slice (some ⟨g1, 0, none⟩) 64 64) 64 (wds rootsL) from rfl)) ?_
  exact hret1 trivial rfl rfl [0] rfl [] rfl ⟨_, rfl, rfl, rfl⟩
theorem rblockC {H : Option Addr} {hc : Nat} {A : Option Addr} {c : Nat} {l : List UInt8} {h : List UInt32} (hcc : 64 ≤ c) (hh : h.length = 8) : Con Tryz.prog 82 [.slice H 8 hc, .slice A 64 c] [] [RRd 1 H 8 (wds h), RRd 1 A 64 (b8s l)] (fun v_ X_ S_ => ∃ u, v_ = u ∧ X_ = [ROwn 144 1 u 8 (wds (blockL h l))] ∧ S_ = []) := by
  refine henter (N := 230) Tryz.func82 rfl rfl (by simp) fun b => ?_
  refine hfactC (fun m => rdX (m.rd 0 rfl)) ?_
  rintro ⟨hl_q, hA_q⟩
  refine hfactC (fun m => rdB (m.rd 1 rfl)) ?_
  rintro ⟨hl_r, hA_r⟩
  have hl : l.length = 64 := hl_r
  refine hseq <| hreg <| hy (fun _ => y_assign rfl) <| hend <| hthen <| hseq <| hreg <| ?_
  refine hx (xh_call rfl Tryz.call148 (rrootsC) [] rfl [] rfl ?_)
  rintro _ _ _ ⟨v, rfl, rfl, rfl⟩
  refine hfactL (fun m => (m.own 0 rfl).slice) ?_
  rintro ⟨A_x, c_x, rfl, hc_x⟩
  refine hfactL (fun m => (m.ord 0 rfl).2.1) fun hA_x => ?_
  refine hy (fun _ => y_assign rfl) <| hend <| hsub (ρ' := [(5, _), (4, _), (0, _), (1, _)]) ⟨rfl, rfl, rfl, rfl, trivial⟩ <| hmemQ (X' := [_]) (S' := [_, _]) (fun _ m => m) <| hthen <| hseq <| hreg <| hy (fun _ => y_assign rfl) <| hend <| hthen <| hseq <| hseq <| hreg <| hy (fun _ => y_assign rfl) <| hend <| hthen <| hblock <| ?_
  refine hmemC (fun w m => m.addX (r' := ROwn 144 1 (.slice none 0 0) 0 []) (.refl _ _) (Own.nil _ _ _ _) (fun k hk => hk.elim)) ?_
  refine hmemC (fun w m => m.eqX 0 rfl (show _ = ROwn 144 1 (.slice none 0 0) 0 (wds (wl l 0)) from rfl)) ?_
  refine hloop3 (fun i A1 c1 => 16 - i) (fun i A1 c1 => [(6, .slice A1 i c1), (7, .int .i64 (i : Nat))]) (fun i A1 c1 => [ROwn 144 1 (.slice A1 i c1) i (wds (wl l i))]) (fun i A1 c1 => []) (fun i A1 c1 => i ≤ 16) 0 none 0 [(5, _), (4, _), (0, _), (1, _)] ⟨rfl, rfl, rfl, rfl, trivial⟩ [0] rfl [] rfl (Nat.zero_le _) ⟨rfl, rfl, trivial⟩ (fun i A1 c1 hI => ?_)
  refine hseq <| hseq <| hreg <| hy (fun _ => y_move rfl) <| hy (fun _ => y_lss rfl rfl) <| hend <| hsub (ρ' := [(21, _), (6, _), (7, _), (5, _), (4, _), (0, _), (1, _)]) ⟨rfl, rfl, rfl, rfl, rfl, rfl, rfl, trivial⟩ <| hthen <| ?_
  refine hif rfl (fun hlt => ?_) (fun hlt => ?_)
  · have hws : wl l (i + 1) = wl l i ++ [word4 l (4 * i)] := by rw [wl, if_pos (by omega)]
    refine hcskip <| hthen <| hseq <| hblock <| hreg <| hy (fun _ => y_move rfl) <| hy (fun _ => y_move rfl) <| hy (fun _ => y_move rfl) <| hy (fun _ => y_mul rfl rfl (w64 (by omega) (by omega))) <| ?_
    rw [show (4 : Int) * (i : Int) = ((4 * i : Nat) : Int) by omega]
    refine hx (xh_call rfl Tryz.call149 (rwordC (by omega) (by omega) (i := 4 * i)) [] rfl [1] rfl ?_)
    rintro _ _ _ ⟨rfl, rfl, rfl⟩
    refine hx (xh_bsl Tryz.underlying145 ti144 rfl rfl rfl (by simp [Value.cells, B8]) (by decide) (by decide) (fun g29 => ?_))
    have hA_b29 : 0 < 1 → (some (⟨g29, 0, none⟩ : Addr)) ≠ none := fun _ h => by cases h
    refine hmemL (fun w m => m.eqX 0 rfl (show _ = ROwn 144 1 (.slice (some ⟨g29, 0, none⟩) 1 1) 1 (wds [word4 l (4 * i)]) from rfl)) ?_
    refine hx (xh_app 1 rfl rfl rfl Tryz.underlying145 Tryz.underlying145 (by exact .inl rfl) ti144 rfl (fun m => Src.of_rd (m.ord 0 rfl)) wds_one (by unfold maxLen; omega) (by omega) (fun u => ?_))
    refine hfactL (fun m => (m.own 0 rfl).slice) ?_
    rintro ⟨A_o, c_o, rfl, hc_o⟩
    refine hfactL (fun m => (m.ord 0 rfl).2.1) fun hA_o => ?_
    refine hmemL (fun w m => m.eqX 0 rfl (show _ = ROwn 144 1 (.slice A_o (i + 1) c_o) (i + 1) (wds (wl l (i + 1))) from by rw [hws, wds_append])) ?_
    refine hy (fun _ => y_assign rfl) <| hend <| hsub (ρ' := [(6, _), (21, _), (7, _), (5, _), (4, _), (0, _), (1, _)]) ⟨rfl, rfl, rfl, rfl, rfl, rfl, rfl, trivial⟩ <| hmemQ (X' := [_, _, _]) (S' := [_, _]) (fun _ m => m) <| hqblock <| hthen <| hreg <| hy (fun _ => y_move rfl) <| hy (fun _ => y_add rfl rfl (w64 (by omega) (by omega))) <| hy (fun _ => y_assign rfl) <| hend <| hsub (ρ' := [(7, _), (6, _), (21, _), (5, _), (4, _), (0, _), (1, _)]) ⟨rfl, rfl, rfl, rfl, rfl, rfl, rfl, trivial⟩ <| ?_
    refine hnext3 (i + 1) A_o c_o ⟨rfl, rfl, rfl, rfl, rfl, rfl, trivial⟩ [0, 1] rfl [0, 1] rfl (by omega) (by omega)
  · obtain rfl : i = 16 := by omega
    refine hexit <| hthen_exit <| hthen_exit <| hqblock_exit <| hthen <| hseq <| hseq <| hreg <| hy (fun _ => y_assign rfl) <| hend <| hthen <| hblock <| ?_
    refine hloop3 (fun i A1 c1 => 64 - i) (fun i A1 c1 => [(6, .slice A1 i c1), (8, .int .i64 (i : Nat))]) (fun i A1 c1 => [ROwn 144 1 (.slice A1 i c1) i (wds (wl l i))]) (fun i A1 c1 => []) (fun i A1 c1 => 16 ≤ i ∧ i ≤ 64) 16 A1 c1 [(21, _), (7, _), (5, _), (4, _), (0, _), (1, _)] ⟨rfl, rfl, rfl, rfl, rfl, rfl, trivial⟩ [0] rfl [] rfl (⟨Nat.le_refl _, by decide⟩) ⟨rfl, rfl, trivial⟩ (fun i A1 c1 ⟨hi16, hi64⟩ => ?_)
    have hwl := wl_length l i
    refine hfactC (fun m => (m.ord 0 rfl).2.1) fun hA_o => ?_
    refine hseq <| hseq <| hreg <| hy (fun _ => y_move rfl) <| hy (fun _ => y_lss rfl rfl) <| hend <| hsub (ρ' := [(32, _), (6, _), (8, _), (21, _), (7, _), (5, _), (4, _), (0, _), (1, _)]) ⟨rfl, rfl, rfl, rfl, rfl, rfl, rfl, rfl, rfl, trivial⟩ <| hthen <| ?_
    refine hif rfl (fun hlt => ?_) (fun hlt => ?_)
    · have hws : wl l (i + 1) = wl l i ++ [wnext (wl l i) i] := by rw [wl, if_neg (by omega)]
      refine hcskip <| hthen <| hseq <| hblock <| hseq <| hdrw [5, 11] [(0, some 0), (1, some 2), (2, some 0), (3, some 0), (4, some 0), (6, some 1), (7, some 1), (8, some 1), (9, some 1), (10, some 1), (13, some 2), (14, some 2), (15, some 2), (16, some 2), (17, some 2), (18, some 2), (5, none), (11, none), (12, some 2), (19, some 2), (20, some 2)] (by kernel_rfl) (by kernel_rfl) rfl 99 <| htyU (y_move rfl) <| htyU (y_move rfl) <| htyU (y_sub rfl rfl (w64 (by omega) (by omega))) <| htyU (y_idxS1 rfl rfl Tryz.underlying145 sz144 hA_o (show ((i - 15 : Nat) : Int) = _ by omega) (by omega)) <| hty (fun m => y_ld1 rfl ag144 ((m.ord 0 rfl).cell (j := i - 15) (wds_get (by omega)))) <| htyU (y_move rfl) <| htyU (y_move rfl) <| htyU (y_sub rfl rfl (w64 (by omega) (by omega))) <| htyU (y_idxS1 rfl rfl Tryz.underlying145 sz144 hA_o (show ((i - 15 : Nat) : Int) = _ by omega) (by omega)) <| hty (fun m => y_ld1 rfl ag144 ((m.ord 0 rfl).cell (j := i - 15) (wds_get (by omega)))) <| htyU (y_move rfl) <| htyU (y_move rfl) <| htyU (y_sub rfl rfl (w64 (by omega) (by omega))) <| htyU (y_idxS1 rfl rfl Tryz.underlying145 sz144 hA_o (show ((i - 15 : Nat) : Int) = _ by omega) (by omega)) <| hty (fun m => y_ld1 rfl ag144 ((m.ord 0 rfl).cell (j := i - 15) (wds_get (by omega)))) <| htyU (y_wquo (b := 8) (by decide) rfl rfl) <| ?_
      refine htx (xh_call rfl Tryz.call150 (rturnC (by omega) (n := 7)) [] rfl [] rfl ?_)
      rintro _ _ _ ⟨rfl, rfl, rfl⟩
      refine ⟨(fun _ => wk [0, 0] [0, 1] rfl rfl), ?_⟩
      refine htx (xh_call rfl Tryz.call150 (rturnC (by omega) (n := 18)) [] rfl [] rfl ?_)
      rintro _ _ _ ⟨rfl, rfl, rfl⟩
      refine ⟨(fun _ => wk [0, 0] [0, 1] rfl rfl), ?_⟩
      refine htyU (y_wxor rfl rfl) <| htyU (y_wxor rfl rfl) <| htyU (y_assign rfl) <| htend <| hsub (ρ' := [(9, _), (32, _), (6, _), (8, _), (21, _), (7, _), (5, _), (4, _), (0, _), (1, _)]) ⟨rfl, rfl, rfl, rfl, rfl, rfl, rfl, rfl, rfl, rfl, trivial⟩ <| hmemQ (X' := [_, _]) (S' := [_, _]) (fun _ m => m) <| hthen <| hseq <| hdrw [5, 11] [(0, some 0), (1, some 2), (2, some 0), (3, some 0), (4, some 0), (6, some 1), (7, some 1), (8, some 1), (9, some 1), (10, some 1), (13, some 2), (14, some 2), (15, some 2), (16, some 2), (17, some 2), (18, some 2), (5, none), (11, none), (12, some 2), (19, some 2), (20, some 2)] (by kernel_rfl) (by kernel_rfl) rfl 99 <| htyU (y_move rfl) <| htyU (y_move rfl) <| htyU (y_sub rfl rfl (w64 (by omega) (by omega))) <| htyU (y_idxS1 rfl rfl Tryz.underlying145 sz144 hA_o (show ((i - 2 : Nat) : Int) = _ by omega) (by omega)) <| hty (fun m => y_ld1 rfl ag144 ((m.ord 0 rfl).cell (j := i - 2) (wds_get (by omega)))) <| htyU (y_move rfl) <| htyU (y_move rfl) <| htyU (y_sub rfl rfl (w64 (by omega) (by omega))) <| htyU (y_idxS1 rfl rfl Tryz.underlying145 sz144 hA_o (show ((i - 2 : Nat) : Int) = _ by omega) (by omega)) <| hty (fun m => y_ld1 rfl ag144 ((m.ord 0 rfl).cell (j := i - 2) (wds_get (by omega)))) <| htyU (y_move rfl) <| htyU (y_move rfl) <| htyU (y_sub rfl rfl (w64 (by omega) (by omega))) <| htyU (y_idxS1 rfl rfl Tryz.underlying145 sz144 hA_o (show ((i - 2 : Nat) : Int) = _ by omega) (by omega)) <| hty (fun m => y_ld1 rfl ag144 ((m.ord 0 rfl).cell (j := i - 2) (wds_get (by omega)))) <| htyU (y_wquo (b := 1024) (by decide) rfl rfl) <| ?_
      refine htx (xh_call rfl Tryz.call150 (rturnC (by omega) (n := 17)) [] rfl [] rfl ?_)
      rintro _ _ _ ⟨rfl, rfl, rfl⟩
      refine ⟨(fun _ => wk [0, 0] [0, 1] rfl rfl), ?_⟩
      refine htx (xh_call rfl Tryz.call150 (rturnC (by omega) (n := 19)) [] rfl [] rfl ?_)
      rintro _ _ _ ⟨rfl, rfl, rfl⟩
      refine ⟨(fun _ => wk [0, 0] [0, 1] rfl rfl), ?_⟩
      refine htyU (y_wxor rfl rfl) <| htyU (y_wxor rfl rfl) <| htyU (y_assign rfl) <| htend <| hsub (ρ' := [(10, _), (9, _), (32, _), (6, _), (8, _), (21, _), (7, _), (5, _), (4, _), (0, _), (1, _)]) ⟨rfl, rfl, rfl, rfl, rfl, rfl, rfl, rfl, rfl, rfl, rfl, trivial⟩ <| hmemQ (X' := [_, _]) (S' := [_, _]) (fun _ m => m) <| hthen <| hdrw [5, 16, 17] [(0, some 2), (1, some 3), (2, some 3), (3, some 3), (4, some 3), (6, some 3), (8, some 3), (9, some 3), (10, some 3), (11, some 3), (12, some 1), (14, some 1), (5, none), (7, some 1), (13, some 1), (15, some 1), (16, none), (17, none), (18, some 3)] (by kernel_rfl) (by kernel_rfl) rfl 2 <| htyU (y_move rfl) <| htyU (y_move rfl) <| htyU (y_move rfl) <| htyU (y_sub rfl rfl (w64 (by omega) (by omega))) <| htyU (y_idxS1 rfl rfl Tryz.underlying145 sz144 hA_o (show ((i - 16 : Nat) : Int) = _ by omega) (by omega)) <| htyU (y_move rfl) <| htyU (y_move rfl) <| htyU (y_move rfl) <| htyU (y_sub rfl rfl (w64 (by omega) (by omega))) <| htyU (y_idxS1 rfl rfl Tryz.underlying145 sz144 hA_o (show ((i - 7 : Nat) : Int) = _ by omega) (by omega)) <| hty (fun m => y_ld1 rfl ag144 ((m.ord 0 rfl).cell (j := i - 7) (wds_get (by omega)))) <| htyU (y_move rfl) <| hts (fun _ => wk [0, 0] [0, 1] rfl rfl) (fun m => y_ld1 rfl ag144 ((m.ord 0 rfl).cell (j := i - 16) (wds_get (by omega)))) <| htyU (y_wadd rfl rfl) <| htyU (y_wadd rfl rfl) <| htyU (yV (y_wadd rfl rfl) ((rfl : _ = Wd (wnext (wl l i) i)))) <| ?_
      refine htx (xh_bsl Tryz.underlying145 ti144 rfl rfl rfl (by exact wds_size (l := [_])) (by decide) (by decide) (fun g91 => ⟨(fun _ => wk [1, 1] [0, 1] rfl rfl), ?_⟩))
      have hA_b91 : 0 < 1 → (some (⟨g91, 0, none⟩ : Addr)) ≠ none := fun _ h => by cases h
      refine htmem (fun w m => m.eqX 0 rfl (show _ = ROwn 144 1 (.slice (some ⟨g91, 0, none⟩) 1 1) 1 (wds [wnext (wl l i) i]) from rfl)) ?_
      refine htx (xh_app 1 rfl rfl rfl Tryz.underlying145 Tryz.underlying145 (by exact .inl rfl) ti144 rfl (fun m => Src.of_rd (m.ord 0 rfl)) wds_one (by unfold maxLen; omega) (by omega) (fun u => ⟨(fun h => absurd h (by decide)), ?_⟩))
      refine htfact (fun m => (m.own 0 rfl).slice) ?_
      rintro ⟨A_o, c_o, rfl, hc_o⟩
      refine htfact (fun m => (m.ord 0 rfl).2.1) fun hA_o => ?_
      refine htmem (fun w m => m.eqX 0 rfl (show _ = ROwn 144 1 (.slice A_o (i + 1) c_o) (i + 1) (wds (wl l (i + 1))) from by rw [hws, wds_append])) ?_
      refine htyU (y_assign rfl) <| htend <| hsub (ρ' := [(6, _), (10, _), (9, _), (32, _), (8, _), (21, _), (7, _), (5, _), (4, _), (0, _), (1, _)]) ⟨rfl, rfl, rfl, rfl, rfl, rfl, rfl, rfl, rfl, rfl, rfl, trivial⟩ <| hmemQ (X' := [_, _, _]) (S' := [_, _]) (fun _ m => m) <| hqblock <| hthen <| hreg <| hy (fun _ => y_move rfl) <| hy (fun _ => y_add rfl rfl (w64 (by omega) (by omega))) <| hy (fun _ => y_assign rfl) <| hend <| hsub (ρ' := [(8, _), (6, _), (10, _), (9, _), (32, _), (21, _), (7, _), (5, _), (4, _), (0, _), (1, _)]) ⟨rfl, rfl, rfl, rfl, rfl, rfl, rfl, rfl, rfl, rfl, rfl, trivial⟩ <| ?_
      refine hnext3 (i + 1) A_o c_o ⟨rfl, rfl, rfl, rfl, rfl, rfl, rfl, rfl, trivial⟩ [0, 1] rfl [0, 1] rfl (⟨by omega, by omega⟩) (by omega)
    · obtain rfl : i = 64 := by omega
      obtain ⟨W, hW⟩ : ∃ W, wl l 64 = W := ⟨_, rfl⟩
      have hw64 : W.length = 64 := by rw [← hW]; exact wl_length l 64
      rw [hW]
      refine hexit <| hthen_exit <| hthen_exit <| hqblock_exit <| hthen <| hseq <| hreg <| hy (fun _ => y_assign rfl) <| hend <| hthen <| hseq <| hreg <| hy (fun _ => y_move rfl) <| hy (fun _ => y_move rfl) <| ?_
      refine hmemL (fun w m => m.addX (r' := ROwn 144 1 (.slice none 0 0) 0 []) (.refl _ _) (Own.nil _ _ _ _) (fun k hk => hk.elim)) ?_
      refine hx (xh_app 0 rfl rfl rfl Tryz.underlying145 Tryz.underlying145 (by exact .inl rfl) ti144 rfl (fun m => Src.of_rd (m.rd 0 rfl)) wds_one (by unfold maxLen; omega) (by omega) (fun u => ?_))
      refine hfactL (fun m => (m.own 0 rfl).slice) ?_
      rintro ⟨A_v, c_v, rfl, hc_v⟩
      refine hfactL (fun m => (m.ord 0 rfl).2.1) fun hA_v => ?_
      refine hmemL (fun w m => m.eqX 0 rfl (show _ = ROwn 144 1 (.slice A_v 8 c_v) 8 (wds (rnds W h 0)) from rfl)) ?_
      refine hy (fun _ => y_assign rfl) <| hend <| hsub (ρ' := [(11, _), (32, _), (6, _), (8, _), (21, _), (7, _), (5, _), (4, _), (0, _), (1, _)]) ⟨rfl, rfl, rfl, rfl, rfl, rfl, rfl, rfl, rfl, rfl, trivial⟩ <| hmemQ (X' := [_, _, _]) (S' := [_, _]) (fun _ m => m) <| hthen <| hseq <| hseq <| hreg <| hy (fun _ => y_assign rfl) <| hend <| hthen <| hblock <| ?_
      refine hloop3 (fun i A2 c2 => 64 - i) (fun i A2 c2 => [(11, .slice A2 8 c2), (12, .int .i64 (i : Nat))]) (fun i A2 c2 => [ROwn 144 1 (.slice A2 8 c2) 8 (wds (rnds W h i))]) (fun i A2 c2 => []) (fun i A2 c2 => i ≤ 64) 0 A_v c_v [(32, _), (6, _), (8, _), (21, _), (7, _), (5, _), (4, _), (0, _), (1, _)] ⟨rfl, rfl, rfl, rfl, rfl, rfl, rfl, rfl, rfl, trivial⟩ [0] rfl [] rfl (Nat.zero_le _) ⟨rfl, rfl, trivial⟩ (fun i A2 c2 hi64 => ?_)
      have hv := rnds_length (w := W) hh i
      have hro : rootsL.length = 64 := rfl
      refine hfactC (fun m => (m.ord 0 rfl).2.1) fun hA_v => ?_
      refine hfactC (fun m => (m.ord 2 rfl).2.1) fun hA_x => ?_
      refine hfactC (fun m => (m.ord 1 rfl).2.1) fun hA_o => ?_
      refine hseq <| hseq <| hreg <| hy (fun _ => y_move rfl) <| hy (fun _ => y_lss rfl rfl) <| hend <| hsub (ρ' := [(97, _), (11, _), (12, _), (32, _), (6, _), (8, _), (21, _), (7, _), (5, _), (4, _), (0, _), (1, _)]) ⟨rfl, rfl, rfl, rfl, rfl, rfl, rfl, rfl, rfl, rfl, rfl, rfl, trivial⟩ <| hthen <| ?_
      refine hif rfl (fun hlt => ?_) (fun hlt => ?_)
      · generalize hvd : rnds W h i = v at hv ⊢
        refine hcskip <| hthen <| hseq <| hblock <| hseq <| hdrw [3, 7, 12] [(0, some 3), (1, some 0), (2, some 0), (4, some 1), (5, some 1), (6, some 1), (9, some 2), (10, some 2), (11, some 2), (3, none), (7, none), (8, some 3), (12, none), (13, some 3), (14, some 3)] (by kernel_rfl) (by kernel_rfl) rfl 99 <| htyU (y_move rfl) <| htyU (y_idxS1 rfl rfl Tryz.underlying145 sz144 hA_v (show ((4 : Nat) : Int) = 4 from rfl) (by omega)) <| hty (fun m => y_ld1 rfl ag144 ((m.ord 0 rfl).cell (j := 4) (wds_get (by omega)))) <| htyU (y_move rfl) <| htyU (y_idxS1 rfl rfl Tryz.underlying145 sz144 hA_v (show ((4 : Nat) : Int) = 4 from rfl) (by omega)) <| hty (fun m => y_ld1 rfl ag144 ((m.ord 0 rfl).cell (j := 4) (wds_get (by omega)))) <| htyU (y_move rfl) <| htyU (y_idxS1 rfl rfl Tryz.underlying145 sz144 hA_v (show ((4 : Nat) : Int) = 4 from rfl) (by omega)) <| hty (fun m => y_ld1 rfl ag144 ((m.ord 0 rfl).cell (j := 4) (wds_get (by omega)))) <| ?_
        refine htx (xh_call rfl Tryz.call150 (rturnC (by omega) (n := 6)) [] rfl [] rfl ?_)
        rintro _ _ _ ⟨rfl, rfl, rfl⟩
        refine ⟨(fun _ => wk [0, 0, 0] [0, 1] rfl rfl), ?_⟩
        refine htx (xh_call rfl Tryz.call150 (rturnC (by omega) (n := 11)) [] rfl [] rfl ?_)
        rintro _ _ _ ⟨rfl, rfl, rfl⟩
        refine ⟨(fun _ => wk [0, 0, 0] [0, 1] rfl rfl), ?_⟩
        refine htyU (y_wxor rfl rfl) <| ?_
        refine htx (xh_call rfl Tryz.call150 (rturnC (by omega) (n := 25)) [] rfl [] rfl ?_)
        rintro _ _ _ ⟨rfl, rfl, rfl⟩
        refine ⟨(fun _ => wk [0, 0, 0] [0, 1] rfl rfl), ?_⟩
        refine htyU (yV (y_wxor rfl rfl) ((rfl : _ = Wd (turns 6 11 25 (v_ v 4))))) <| htyU (y_assign rfl) <| htend <| hsub (ρ' := [(13, _), (97, _), (11, _), (12, _), (32, _), (6, _), (8, _), (21, _), (7, _), (5, _), (4, _), (0, _), (1, _)]) ⟨rfl, rfl, rfl, rfl, rfl, rfl, rfl, rfl, rfl, rfl, rfl, rfl, rfl, trivial⟩ <| hmemQ (X' := [_, _, _]) (S' := [_, _]) (fun _ m => m) <| hthen <| hseq <| hdrw [] [(0, some 0), (1, some 0), (2, some 0), (3, some 0), (4, some 0), (5, some 0), (6, some 0), (7, some 0), (8, some 0), (9, some 0), (10, some 0), (11, some 0), (12, some 0), (13, some 0), (14, some 0), (15, some 0), (16, some 0)] (by kernel_rfl) (by kernel_rfl) rfl 99 <| htyU (y_move rfl) <| htyU (y_idxS1 rfl rfl Tryz.underlying145 sz144 hA_v (show ((4 : Nat) : Int) = 4 from rfl) (by omega)) <| hty (fun m => y_ld1 rfl ag144 ((m.ord 0 rfl).cell (j := 4) (wds_get (by omega)))) <| htyU (y_move rfl) <| htyU (y_idxS1 rfl rfl Tryz.underlying145 sz144 hA_v (show ((5 : Nat) : Int) = 5 from rfl) (by omega)) <| hty (fun m => y_ld1 rfl ag144 ((m.ord 0 rfl).cell (j := 5) (wds_get (by omega)))) <| htyU (y_wand rfl rfl) <| htyU (y_move rfl) <| htyU (y_idxS1 rfl rfl Tryz.underlying145 sz144 hA_v (show ((4 : Nat) : Int) = 4 from rfl) (by omega)) <| hty (fun m => y_ld1 rfl ag144 ((m.ord 0 rfl).cell (j := 4) (wds_get (by omega)))) <| htyU (y_wsub1 rfl rfl) <| htyU (y_move rfl) <| htyU (y_idxS1 rfl rfl Tryz.underlying145 sz144 hA_v (show ((6 : Nat) : Int) = 6 from rfl) (by omega)) <| hty (fun m => y_ld1 rfl ag144 ((m.ord 0 rfl).cell (j := 6) (wds_get (by omega)))) <| htyU (y_wand rfl rfl) <| htyU (y_wxor rfl rfl) <| htyU (y_assign rfl) <| htend <| hsub (ρ' := [(14, _), (13, _), (97, _), (11, _), (12, _), (32, _), (6, _), (8, _), (21, _), (7, _), (5, _), (4, _), (0, _), (1, _)]) ⟨rfl, rfl, rfl, rfl, rfl, rfl, rfl, rfl, rfl, rfl, rfl, rfl, rfl, rfl, trivial⟩ <| hthen <| hseq <| hdrw [] [(0, some 0), (1, some 0), (2, some 0), (3, some 0), (4, some 0), (5, some 0), (6, some 0), (7, some 0), (8, some 0), (9, some 0), (10, some 0), (11, some 0), (12, some 0), (13, some 0), (14, some 0), (15, some 0), (16, some 0), (17, some 0)] (by kernel_rfl) (by kernel_rfl) rfl 99 <| htyU (y_move rfl) <| htyU (y_idxS1 rfl rfl Tryz.underlying145 sz144 hA_v (show ((7 : Nat) : Int) = 7 from rfl) (by omega)) <| hty (fun m => y_ld1 rfl ag144 ((m.ord 0 rfl).cell (j := 7) (wds_get (by omega)))) <| htyU (y_move rfl) <| htyU (y_wadd rfl rfl) <| htyU (y_move rfl) <| htyU (y_wadd rfl rfl) <| htyU (y_move rfl) <| htyU (y_move rfl) <| htyU (y_idxS1 rfl rfl Tryz.underlying145 sz144 hA_x rfl (by omega)) <| hty (fun m => y_ld1 rfl ag144 ((m.ord 2 rfl).cell (j := i) (wds_get (by omega)))) <| ?_
        generalize hk : rootsL.getD i 0 = k
        refine htyU (y_wadd rfl rfl) <| htyU (y_move rfl) <| htyU (y_move rfl) <| htyU (y_idxS1 rfl rfl Tryz.underlying145 sz144 hA_o rfl (by omega)) <| hty (fun m => y_ld1 rfl ag144 ((m.ord 1 rfl).cell (j := i) (wds_get (by omega)))) <| htyU (yV (y_wadd rfl rfl) ((rfl : _ = Wd (rt v k (W.getD i 0))))) <| htyU (y_assign rfl) <| htend <| hsub (ρ' := [(15, _), (14, _), (13, _), (97, _), (11, _), (12, _), (32, _), (6, _), (8, _), (21, _), (7, _), (5, _), (4, _), (0, _), (1, _)]) ⟨rfl, rfl, rfl, rfl, rfl, rfl, rfl, rfl, rfl, rfl, rfl, rfl, rfl, rfl, rfl, trivial⟩ <| hthen <| hseq <| hdrw [3, 7, 12] [(0, some 3), (1, some 0), (2, some 0), (4, some 1), (5, some 1), (6, some 1), (9, some 2), (10, some 2), (11, some 2), (3, none), (7, none), (8, some 3), (12, none), (13, some 3), (14, some 3)] (by kernel_rfl) (by kernel_rfl) rfl 99 <| htyU (y_move rfl) <| htyU (y_idxS1 rfl rfl Tryz.underlying145 sz144 hA_v (show ((0 : Nat) : Int) = 0 from rfl) (by omega)) <| hty (fun m => y_ld1 rfl ag144 ((m.ord 0 rfl).cell (j := 0) (wds_get (by omega)))) <| htyU (y_move rfl) <| htyU (y_idxS1 rfl rfl Tryz.underlying145 sz144 hA_v (show ((0 : Nat) : Int) = 0 from rfl) (by omega)) <| hty (fun m => y_ld1 rfl ag144 ((m.ord 0 rfl).cell (j := 0) (wds_get (by omega)))) <| htyU (y_move rfl) <| htyU (y_idxS1 rfl rfl Tryz.underlying145 sz144 hA_v (show ((0 : Nat) : Int) = 0 from rfl) (by omega)) <| hty (fun m => y_ld1 rfl ag144 ((m.ord 0 rfl).cell (j := 0) (wds_get (by omega)))) <| ?_
        refine htx (xh_call rfl Tryz.call150 (rturnC (by omega) (n := 2)) [] rfl [] rfl ?_)
        rintro _ _ _ ⟨rfl, rfl, rfl⟩
        refine ⟨(fun _ => wk [0, 0, 0] [0, 1] rfl rfl), ?_⟩
        refine htx (xh_call rfl Tryz.call150 (rturnC (by omega) (n := 13)) [] rfl [] rfl ?_)
        rintro _ _ _ ⟨rfl, rfl, rfl⟩
        refine ⟨(fun _ => wk [0, 0, 0] [0, 1] rfl rfl), ?_⟩
        refine htyU (y_wxor rfl rfl) <| ?_
        refine htx (xh_call rfl Tryz.call150 (rturnC (by omega) (n := 22)) [] rfl [] rfl ?_)
        rintro _ _ _ ⟨rfl, rfl, rfl⟩
        refine ⟨(fun _ => wk [0, 0, 0] [0, 1] rfl rfl), ?_⟩
        refine htyU (yV (y_wxor rfl rfl) ((rfl : _ = Wd (turns 2 13 22 (v_ v 0))))) <| htyU (y_assign rfl) <| htend <| hsub (ρ' := [(16, _), (15, _), (14, _), (13, _), (97, _), (11, _), (12, _), (32, _), (6, _), (8, _), (21, _), (7, _), (5, _), (4, _), (0, _), (1, _)]) ⟨rfl, rfl, rfl, rfl, rfl, rfl, rfl, rfl, rfl, rfl, rfl, rfl, rfl, rfl, rfl, rfl, trivial⟩ <| hmemQ (X' := [_, _, _]) (S' := [_, _]) (fun _ m => m) <| hthen <| hseq <| hdrw [] [(0, some 0), (1, some 0), (2, some 0), (3, some 0), (4, some 0), (5, some 0), (6, some 0), (7, some 0), (8, some 0), (9, some 0), (10, some 0), (11, some 0), (12, some 0), (13, some 0), (14, some 0), (15, some 0), (16, some 0), (17, some 0), (18, some 0), (19, some 0), (20, some 0), (21, some 0), (22, some 0), (23, some 0)] (by kernel_rfl) (by kernel_rfl) rfl 99 <| htyU (y_move rfl) <| htyU (y_idxS1 rfl rfl Tryz.underlying145 sz144 hA_v (show ((0 : Nat) : Int) = 0 from rfl) (by omega)) <| hty (fun m => y_ld1 rfl ag144 ((m.ord 0 rfl).cell (j := 0) (wds_get (by omega)))) <| htyU (y_move rfl) <| htyU (y_idxS1 rfl rfl Tryz.underlying145 sz144 hA_v (show ((1 : Nat) : Int) = 1 from rfl) (by omega)) <| hty (fun m => y_ld1 rfl ag144 ((m.ord 0 rfl).cell (j := 1) (wds_get (by omega)))) <| htyU (y_wand rfl rfl) <| htyU (y_move rfl) <| htyU (y_idxS1 rfl rfl Tryz.underlying145 sz144 hA_v (show ((0 : Nat) : Int) = 0 from rfl) (by omega)) <| hty (fun m => y_ld1 rfl ag144 ((m.ord 0 rfl).cell (j := 0) (wds_get (by omega)))) <| htyU (y_move rfl) <| htyU (y_idxS1 rfl rfl Tryz.underlying145 sz144 hA_v (show ((2 : Nat) : Int) = 2 from rfl) (by omega)) <| hty (fun m => y_ld1 rfl ag144 ((m.ord 0 rfl).cell (j := 2) (wds_get (by omega)))) <| htyU (y_wand rfl rfl) <| htyU (y_wxor rfl rfl) <| htyU (y_move rfl) <| htyU (y_idxS1 rfl rfl Tryz.underlying145 sz144 hA_v (show ((1 : Nat) : Int) = 1 from rfl) (by omega)) <| hty (fun m => y_ld1 rfl ag144 ((m.ord 0 rfl).cell (j := 1) (wds_get (by omega)))) <| htyU (y_move rfl) <| htyU (y_idxS1 rfl rfl Tryz.underlying145 sz144 hA_v (show ((2 : Nat) : Int) = 2 from rfl) (by omega)) <| hty (fun m => y_ld1 rfl ag144 ((m.ord 0 rfl).cell (j := 2) (wds_get (by omega)))) <| htyU (y_wand rfl rfl) <| htyU (y_wxor rfl rfl) <| htyU (y_assign rfl) <| htend <| hsub (ρ' := [(17, _), (16, _), (15, _), (14, _), (13, _), (97, _), (11, _), (12, _), (32, _), (6, _), (8, _), (21, _), (7, _), (5, _), (4, _), (0, _), (1, _)]) ⟨rfl, rfl, rfl, rfl, rfl, rfl, rfl, rfl, rfl, rfl, rfl, rfl, rfl, rfl, rfl, rfl, rfl, trivial⟩ <| hthen <| hdrw [28] [(0, some 0), (1, some 0), (2, some 0), (3, some 0), (4, some 0), (5, some 0), (6, some 0), (7, some 0), (8, some 0), (9, some 0), (10, some 0), (11, some 0), (12, some 0), (13, some 0), (14, some 0), (15, some 0), (16, some 0), (17, some 0), (18, some 0), (19, some 0), (20, some 0), (21, some 0), (22, some 0), (23, some 0), (24, some 0), (25, some 0), (26, some 0), (27, some 0), (28, none), (29, some 1)] (by kernel_rfl) (by kernel_rfl) rfl 99 <| htyU (y_move rfl) <| htyU (y_move rfl) <| htyU (y_wadd rfl rfl) <| htyU (y_move rfl) <| htyU (yV (y_wadd rfl rfl) ((show Wd (rt v k (W.getD i 0) + turns 2 13 22 (v_ v 0) + ((v_ v 0 &&& v_ v 1) ^^^ (v_ v 0 &&& v_ v 2) ^^^ (v_ v 1 &&& v_ v 2))) = Wd (rt v k (W.getD i 0) + ru v) by rw [UInt32.add_assoc]; rfl))) <| htyU (y_move rfl) <| htyU (y_idxS1 rfl rfl Tryz.underlying145 sz144 hA_v (show ((0 : Nat) : Int) = 0 from rfl) (by omega)) <| hty (fun m => y_ld1 rfl ag144 ((m.ord 0 rfl).cell (j := 0) (wds_get (by omega)))) <| htyU (y_move rfl) <| htyU (y_idxS1 rfl rfl Tryz.underlying145 sz144 hA_v (show ((1 : Nat) : Int) = 1 from rfl) (by omega)) <| hty (fun m => y_ld1 rfl ag144 ((m.ord 0 rfl).cell (j := 1) (wds_get (by omega)))) <| htyU (y_move rfl) <| htyU (y_idxS1 rfl rfl Tryz.underlying145 sz144 hA_v (show ((2 : Nat) : Int) = 2 from rfl) (by omega)) <| hty (fun m => y_ld1 rfl ag144 ((m.ord 0 rfl).cell (j := 2) (wds_get (by omega)))) <| htyU (y_move rfl) <| htyU (y_idxS1 rfl rfl Tryz.underlying145 sz144 hA_v (show ((3 : Nat) : Int) = 3 from rfl) (by omega)) <| hty (fun m => y_ld1 rfl ag144 ((m.ord 0 rfl).cell (j := 3) (wds_get (by omega)))) <| htyU (y_move rfl) <| htyU (y_wadd rfl rfl) <| htyU (y_move rfl) <| htyU (y_idxS1 rfl rfl Tryz.underlying145 sz144 hA_v (show ((4 : Nat) : Int) = 4 from rfl) (by omega)) <| hty (fun m => y_ld1 rfl ag144 ((m.ord 0 rfl).cell (j := 4) (wds_get (by omega)))) <| htyU (y_move rfl) <| htyU (y_idxS1 rfl rfl Tryz.underlying145 sz144 hA_v (show ((5 : Nat) : Int) = 5 from rfl) (by omega)) <| hty (fun m => y_ld1 rfl ag144 ((m.ord 0 rfl).cell (j := 5) (wds_get (by omega)))) <| htyU (y_move rfl) <| htyU (y_idxS1 rfl rfl Tryz.underlying145 sz144 hA_v (show ((6 : Nat) : Int) = 6 from rfl) (by omega)) <| hty (fun m => y_ld1 rfl ag144 ((m.ord 0 rfl).cell (j := 6) (wds_get (by omega)))) <| ?_
        refine htx (xh_bsl Tryz.underlying145 ti144 rfl rfl rfl (by exact wds_size (l := [_, _, _, _, _, _, _, _])) (by decide) (by decide) (fun g212 => ⟨(fun _ => wk [1, 1, 1] [0, 1] rfl rfl), ?_⟩))
        have hA_b212 : 0 < 8 → (some (⟨g212, 0, none⟩ : Addr)) ≠ none := fun _ h => by cases h
        refine htyU (y_assign rfl) <| htend <| hsub (ρ' := [(11, _), (17, _), (16, _), (15, _), (14, _), (13, _), (97, _), (12, _), (32, _), (6, _), (8, _), (21, _), (7, _), (5, _), (4, _), (0, _), (1, _)]) ⟨rfl, rfl, rfl, rfl, rfl, rfl, rfl, rfl, rfl, rfl, rfl, rfl, rfl, rfl, rfl, rfl, rfl, trivial⟩ <| hmemQ (X' := [_, _, _, _]) (S' := [_, _]) (fun _ m => m) <| hqblock <| hthen <| hreg <| hy (fun _ => y_move rfl) <| hy (fun _ => y_add rfl rfl (w64 (by omega) (by omega))) <| hy (fun _ => y_assign rfl) <| hend <| hsub (ρ' := [(12, _), (11, _), (17, _), (16, _), (15, _), (14, _), (13, _), (97, _), (32, _), (6, _), (8, _), (21, _), (7, _), (5, _), (4, _), (0, _), (1, _)]) ⟨rfl, rfl, rfl, rfl, rfl, rfl, rfl, rfl, rfl, rfl, rfl, rfl, rfl, rfl, rfl, rfl, rfl, trivial⟩ <| ?_
        refine hmemQ (fun w m => m.eqX 0 rfl (show _ = ROwn 144 1 (.slice (some ⟨g212, 0, none⟩) 8 8) 8 (wds (rnds W h (i + 1))) from by rw [rnds, hvd, hk]; rfl)) ?_
        refine hnext3 (i + 1) (some ⟨g212, 0, none⟩) 8 ⟨rfl, rfl, rfl, rfl, rfl, rfl, rfl, rfl, rfl, rfl, rfl, trivial⟩ [0, 1, 1] rfl [0, 1] rfl (by omega) (by omega)
      · obtain rfl : i = 64 := by omega
        generalize hvv : rnds W h 64 = v at hv ⊢
        refine hmemC (fun w m => m.eqX 0 rfl (show _ = ROwn 144 1 (.slice A2 8 c2) 8 (wds (hsum v h 0)) from by rw [hsum_zero])) ?_
        refine hexit <| hthen_exit <| hthen_exit <| hqblock_exit <| hthen <| hseq <| hseq <| hreg <| hy (fun _ => y_assign rfl) <| hend <| hthen <| hblock <| ?_
        refine hloop1 (fun j => 8 - j) (fun j => [(18, .int .i64 (j : Nat))]) (fun j => [ROwn 144 1 (.slice A2 8 c2) 8 (wds (hsum v h j))]) (fun j => []) (fun j => j ≤ 8) 0 [(97, _), (11, _), (12, _), (32, _), (6, _), (8, _), (21, _), (7, _), (5, _), (4, _), (0, _), (1, _)] ⟨rfl, rfl, rfl, rfl, rfl, rfl, rfl, rfl, rfl, rfl, rfl, rfl, trivial⟩ [0] rfl [] rfl (Nat.zero_le _) ⟨rfl, trivial⟩ (fun j hj8 => ?_)
        have hsl : (hsum v h j).length = v.length := by simp [hsum]
        refine hseq <| hseq <| hreg <| hy (fun _ => y_move rfl) <| hy (fun _ => y_lss rfl rfl) <| hend <| hsub (ρ' := [(214, _), (18, _), (97, _), (11, _), (12, _), (32, _), (6, _), (8, _), (21, _), (7, _), (5, _), (4, _), (0, _), (1, _)]) ⟨rfl, rfl, rfl, rfl, rfl, rfl, rfl, rfl, rfl, rfl, rfl, rfl, rfl, rfl, trivial⟩ <| hthen <| ?_
        refine hif rfl (fun hj => ?_) (fun hj => ?_)
        · refine hcskip <| hthen <| hseq <| hblock <| hdrw [12] [(0, some 0), (1, some 0), (2, some 0), (3, some 0), (4, some 0), (5, some 0), (6, some 0), (7, some 0), (8, some 0), (9, some 0), (10, some 0), (11, some 0), (12, none)] (by kernel_rfl) (by kernel_rfl) rfl 0 <| htyU (y_move rfl) <| htyU (y_move rfl) <| htyU (y_move rfl) <| htyU (y_move rfl) <| htyU (y_idxS1 rfl rfl Tryz.underlying145 sz144 hA_v rfl (by omega)) <| hty (fun m => y_ld1 rfl ag144 ((m.ord 0 rfl).cell (j := j) (wds_get (by omega)))) <| htyU (y_move rfl) <| htyU (y_move rfl) <| htyU (y_idxS1 rfl rfl Tryz.underlying145 sz144 hA_q rfl (by omega)) <| hty (fun m => y_ld1 rfl ag144 ((m.rd 0 rfl).cell (j := j) (wds_get (by omega)))) <| htyU (yV (y_wadd rfl rfl) ((rfl : _ = Wd (v_ (hsum v h j) j + v_ h j)))) <| htyU (y_idxS1 rfl rfl Tryz.underlying145 sz144 hA_v rfl (by omega)) <| ?_
          refine htx0 (xh_stO 0 rfl rfl rfl sz144 rfl (by omega) ⟨(fun h => absurd h (by decide)), ?_⟩)
          refine htend <| hsub (ρ' := [(214, _), (18, _), (97, _), (11, _), (12, _), (32, _), (6, _), (8, _), (21, _), (7, _), (5, _), (4, _), (0, _), (1, _)]) ⟨rfl, rfl, rfl, rfl, rfl, rfl, rfl, rfl, rfl, rfl, rfl, rfl, rfl, rfl, trivial⟩ <| hmemQ (X' := [_, _, _]) (S' := [_, _]) (fun _ m => m) <| hqblock <| hthen <| hreg <| hy (fun _ => y_move rfl) <| hy (fun _ => y_add rfl rfl (w64 (by omega) (by omega))) <| hy (fun _ => y_assign rfl) <| hend <| hsub (ρ' := [(18, _), (214, _), (97, _), (11, _), (12, _), (32, _), (6, _), (8, _), (21, _), (7, _), (5, _), (4, _), (0, _), (1, _)]) ⟨rfl, rfl, rfl, rfl, rfl, rfl, rfl, rfl, rfl, rfl, rfl, rfl, rfl, rfl, trivial⟩ <| ?_
          refine hmemQ (fun w m => m.eqX 0 rfl (show _ = ROwn 144 1 (.slice A2 8 c2) 8 (wds (hsum v h (j + 1))) from by rw [wds_set, hsum_succ (by omega)])) ?_
          refine hnext1 (j + 1) ⟨rfl, rfl, rfl, rfl, rfl, rfl, rfl, rfl, rfl, rfl, rfl, rfl, rfl, trivial⟩ [0, 0, 0] rfl [0, 1] rfl (by omega) (by omega)
        · obtain rfl : j = 8 := by omega
          have hB : hsum v h 8 = blockL h l := by rw [blockL, hW, hvv]
          rw [hB]
          refine hexit <| hthen_exit <| hthen_exit <| hqblock_exit <| hthen <| hseq <| hreg <| hy (fun _ => y_move rfl) <| hy (fun _ => y_assign rfl) <| hend <| hsub (ρ' := [(4, _), (214, _), (18, _), (97, _), (11, _), (12, _), (32, _), (6, _), (8, _), (21, _), (7, _), (5, _), (0, _), (1, _)]) ⟨rfl, rfl, rfl, rfl, rfl, rfl, rfl, rfl, rfl, rfl, rfl, rfl, rfl, rfl, trivial⟩ <| hthen <| hret <| ?_
          exact hret1 trivial rfl rfl [0] rfl [] rfl ⟨_, rfl, rfl, rfl⟩
end Go.Proofs.YtfikjheicjamhaaGreatDoor
end
section
/- Contracts: the document's digest of bytes (layer 2): Sum. -/
set_option linter.unusedVariables false
set_option linter.unusedSimpArgs false
set_option maxRecDepth 20000
namespace Go.Proofs.YtfikjheicjamhaaGreatDoor
open Go.Eng Go.Hx
def q256 (n : Nat) : Nat → Nat
  | 0 => n
  | i + 1 => q256 n i / 256
theorem q256_pow (n : Nat) : ∀ i, q256 n i = n / 256 ^ i
  | 0 => by simp [q256]
  | i + 1 => by rw [q256, q256_pow n i, Nat.div_div_eq_div_mul, Nat.pow_succ]
/-- the last so many of eight bytes -/
def be8t (n i : Nat) : List UInt8 := List.replicate (8 - i) 0 ++ (be8 n).drop (8 - i)
theorem be8_len (n : Nat) : (be8 n).length = 8 := by simp [be8]
theorem be8t_len (n i : Nat) (h : i ≤ 8) : (be8t n i).length = 8 := by
  rw [be8t, List.length_append, List.length_replicate, List.length_drop, be8_len]; omega
theorem be8t_step {n i : Nat} (hi : i < 8) : (be8t n i).set (7 - i) (UInt8.ofNat (q256 n i % 256)) = be8t n (i + 1) := by
  have e : UInt8.ofNat (q256 n i % 256) = UInt8.ofNat (n / 256 ^ i) := by
    rw [q256_pow]; apply UInt8.toNat_inj.1; simp
  rw [e]
  obtain ⟨k, hk⟩ : ∃ k, 8 - i = k + 1 := ⟨7 - i, by omega⟩
  have h7 : 7 - i = k := by omega
  have hd : (be8 n).drop k = UInt8.ofNat (n / 256 ^ i) :: (be8 n).drop (k + 1) := by
    rw [List.drop_eq_getElem_cons (by rw [be8_len]; omega)]
    congr 1
    simp only [be8, List.getElem_map, List.getElem_range]
    congr 3; omega
  rw [be8t, be8t, hk, h7, show 8 - (i + 1) = k by omega, hd, List.replicate_succ', List.append_assoc, List.set_append_right _ _ (by simp)]
  simp
theorem rwholeC {A : Option Addr} {n c : Nat} {l : List UInt8} (hn : n ≤ 140737488351232) : Con Tryz.prog 81 [.slice A n c] [] [RRd 1 A n (b8s l)] (fun v_ X_ S_ => ∃ v, v_ = v ∧ X_ = [ROwn 5 1 v (padL l).length (b8s (padL l))] ∧ S_ = []) := by
  have hz64 : padZ n < 64 := Nat.mod_lt _ (by decide)
  have hzp : (n + (1 + padZ n)) % 64 = 56 := by unfold padZ; omega
  have hzm : ∀ j, j < padZ n → (n + (1 + j)) % 64 ≠ 56 := fun j hj => by unfold padZ at hj; omega
  refine henter (N := 39) Tryz.func81 rfl rfl (by simp) fun b => ?_
  refine hfactC (fun m => rdB (m.rd 0 rfl)) ?_
  rintro ⟨hl_r, hA_r⟩
  have hl : l.length = n := hl_r
  refine hseq <| hreg <| hy (fun _ => y_assign rfl) <| hend <| hthen <| hseq <| hreg <| hy (fun _ => y_assign rfl) <| hend <| hthen <| hseq <| hreg <| hy (fun _ => y_move rfl) <| hy (fun _ => y_move rfl) <| ?_
  refine hmemL (fun w m => m.addX (r' := ROwn 5 1 (.slice none 0 0) 0 []) (.refl _ _) (Own.nil _ _ _ _) (fun k hk => hk.elim)) ?_
  refine hx (xh_app 0 rfl rfl rfl Tryz.underlying27 Tryz.underlying27 (by exact .inl rfl) ti5 rfl (fun m => Src.of_rd (m.rd 0 rfl)) b8s_one (by unfold maxLen; omega) (by omega) (fun u => ?_))
  refine hfactL (fun m => (m.own 0 rfl).slice) ?_
  rintro ⟨A_o, c_o, rfl, hc_o⟩
  refine hfactL (fun m => (m.ord 0 rfl).2.1) fun hA_o => ?_
  rw [Nat.zero_add]
  refine hy (fun _ => y_assign rfl) <| hend <| hsub (ρ' := [(3, _), (2, _), (0, _)]) ⟨rfl, rfl, rfl, trivial⟩ <| hmemQ (X' := [_]) (S' := [_]) (fun _ m => m) <| hthen <| hseq <| hreg <| hy (fun _ => y_move rfl) <| ?_
  refine hx (xh_bsl Tryz.underlying27 ti5 rfl rfl rfl (by simp [Value.cells, B8]) (by decide) (by decide) (fun g11 => ?_))
  have hA_b11 : 0 < 1 → (some (⟨g11, 0, none⟩ : Addr)) ≠ none := fun _ h => by cases h
  refine hmemL (fun w m => m.eqX 0 rfl (show _ = ROwn 5 1 (.slice (some ⟨g11, 0, none⟩) 1 1) 1 (b8s [128]) from rfl)) ?_
  refine hx (xh_app 1 rfl rfl rfl Tryz.underlying27 Tryz.underlying27 (by exact .inl rfl) ti5 rfl (fun m => Src.of_rd (m.ord 0 rfl)) b8s_one (by unfold maxLen; omega) (by omega) (fun u2 => ?_))
  refine hfactL (fun m => (m.own 0 rfl).slice) ?_
  rintro ⟨A_o2, c_o2, rfl, hc_o⟩
  refine hfactL (fun m => (m.ord 0 rfl).2.1) fun hA_o => ?_
  refine hmemL (fun w m => m.eqX 0 rfl (show _ = ROwn 5 1 (.slice A_o2 (n + 1 + 0) c_o2) (n + 1 + 0) (b8s (l ++ 128 :: List.replicate 0 0)) from by simp [b8s])) ?_
  refine hy (fun _ => y_assign rfl) <| hend <| hsub (ρ' := [(3, _), (2, _), (0, _)]) ⟨rfl, rfl, rfl, trivial⟩ <| hmemQ (X' := [_, _]) (S' := [_]) (fun _ m => m) <| hthen <| hseq <| hblock <| ?_
  refine hloop3 (fun j A1 cc => padZ n - j) (fun j A1 cc => [(3, .slice A1 (n + 1 + j) cc)]) (fun j A1 cc => [ROwn 5 1 (.slice A1 (n + 1 + j) cc) (n + 1 + j) (b8s (l ++ 128 :: List.replicate j 0))]) (fun j A1 cc => []) (fun j A1 cc => j ≤ padZ n) 0 A_o2 c_o2 [(2, _), (0, _)] ⟨rfl, rfl, trivial⟩ [0] rfl [] rfl (Nat.zero_le _) ⟨rfl, trivial⟩ (fun j A1 cc hjz => ?_)
  refine hseq <| hseq <| hreg <| hy (fun _ => y_move rfl) <| hy (fun _ => y_lenS rfl Tryz.underlying27) <| hy (fun _ => y_rem rfl rfl (by omega) (by omega)) <| hy (fun _ => y_neq rfl rfl) <| hend <| hsub (ρ' := [(16, _), (3, _), (2, _), (0, _)]) ⟨rfl, rfl, rfl, rfl, trivial⟩ <| hthen <| ?_
  refine hif rfl (fun hne => ?_) (fun hne => ?_)
  · have hj : j < padZ n := by
      rcases Nat.lt_or_eq_of_le hjz with h | h
      · exact h
      · rw [← h] at hzp; omega
    refine hcskip <| hthen <| hblock <| hreg <| hy (fun _ => y_move rfl) <| ?_
    refine hx (xh_bsl Tryz.underlying27 ti5 rfl rfl rfl (by simp [Value.cells, B8]) (by decide) (by decide) (fun g18 => ?_))
    have hA_b18 : 0 < 1 → (some (⟨g18, 0, none⟩ : Addr)) ≠ none := fun _ h => by cases h
    refine hmemL (fun w m => m.eqX 0 rfl (show _ = ROwn 5 1 (.slice (some ⟨g18, 0, none⟩) 1 1) 1 (b8s [0]) from rfl)) ?_
    refine hx (xh_app 1 rfl rfl rfl Tryz.underlying27 Tryz.underlying27 (by exact .inl rfl) ti5 rfl (fun m => Src.of_rd (m.ord 0 rfl)) b8s_one (by unfold maxLen; omega) (by omega) (fun u3 => ?_))
    refine hfactL (fun m => (m.own 0 rfl).slice) ?_
    rintro ⟨A_o3, c_o3, rfl, hc_o⟩
    refine hfactL (fun m => (m.ord 0 rfl).2.1) fun hA_o => ?_
    refine hy (fun _ => y_assign rfl) <| hend <| hsub (ρ' := [(3, _), (16, _), (2, _), (0, _)]) ⟨rfl, rfl, rfl, rfl, trivial⟩ <| hmemQ (X' := [_, _, _]) (S' := [_]) (fun _ m => m) <| hqblock <| ?_
    refine hmemQ (fun w m => m.eqX 0 rfl (show _ = ROwn 5 1 (.slice A_o3 (n + 1 + (j + 1)) c_o3) (n + 1 + (j + 1)) (b8s (l ++ 128 :: List.replicate (j + 1) 0)) from by rw [List.replicate_succ']; simp [b8s, Nat.add_assoc])) ?_
    refine hnext3 (j + 1) A_o3 c_o3 ⟨rfl, rfl, rfl, trivial⟩ [0, 1] rfl [0] rfl (by omega) (by omega)
  · have hj : j = padZ n := by
      refine Decidable.byContradiction fun hn => ?_
      have := hzm j (by omega)
      omega
    subst hj
    refine hexit <| hthen_exit <| hthen_exit <| hqblock_exit <| hthen <| hseq <| hreg <| hy (fun _ => y_move rfl) <| hy (fun _ => y_lenS rfl Tryz.underlying27) <| hy (fun _ => yV (y_mul rfl rfl (w64 (by omega) (by omega))) ((show Value.int .i64 (8 * (n : Int)) = .int .i64 ((q256 (8 * n) 0 : Nat) : Int) by rw [q256]; congr 1))) <| hy (fun _ => y_assign rfl) <| hend <| hsub (ρ' := [(4, _), (16, _), (3, _), (2, _), (0, _)]) ⟨rfl, rfl, rfl, rfl, rfl, trivial⟩ <| hthen <| hseq <| hreg <| ?_
    refine hx (xh_mksl (n := 8) Tryz.underlying27 ti5 rfl rfl rfl (by decide) (by decide) (fun g23 => ?_))
    have hA_b23 : ∀ {n : Nat}, 0 < n → (some (⟨g23, 0, none⟩ : Addr)) ≠ none := fun _ h => by cases h
    refine hy (fun _ => y_assign rfl) <| hend <| hsub (ρ' := [(5, _), (4, _), (16, _), (3, _), (2, _), (0, _)]) ⟨rfl, rfl, rfl, rfl, rfl, rfl, trivial⟩ <| hmemQ (X' := [_, _, _]) (S' := [_]) (fun _ m => m) <| hthen <| hseq <| hseq <| hreg <| ?_
    refine hmemL (fun w m => m.eqX 0 rfl (show _ = RBlk g23 5 (b8s (be8t (8 * n) 0)) from by rw [be8t, List.drop_of_length_le (by rw [be8_len]; decide), List.append_nil]; rfl)) ?_
    refine hy (fun _ => y_assign rfl) <| hend <| hthen <| hblock <| ?_
    refine hloop1 (fun i => 8 - i) (fun i => [(4, .int .i64 ((q256 (8 * n) i : Nat) : Int)), (6, .int .i64 (7 - (i : Int)))]) (fun i => [RBlk g23 5 (b8s (be8t (8 * n) i))]) (fun i => []) (fun i => i ≤ 8) 0 [(5, _), (16, _), (3, _), (2, _), (0, _)] ⟨rfl, rfl, rfl, rfl, rfl, trivial⟩ [0] rfl [] rfl (Nat.zero_le _) ⟨rfl, rfl, trivial⟩ (fun i hi8 => ?_)
    have hq : q256 (8 * n) i ≤ 8 * n := by rw [q256_pow]; exact Nat.div_le_self ..
    have hbl := be8t_len (8 * n) i hi8
    refine hseq <| hseq <| hreg <| hy (fun _ => y_move rfl) <| hy (fun _ => y_geq rfl rfl) <| hend <| hsub (ρ' := [(25, _), (4, _), (6, _), (5, _), (16, _), (3, _), (2, _), (0, _)]) ⟨rfl, rfl, rfl, rfl, rfl, rfl, rfl, rfl, trivial⟩ <| hthen <| ?_
    refine hif rfl (fun hi => ?_) (fun hi => ?_)
    · refine hcskip <| hthen <| hseq <| hblock <| hseq <| hreg <| hy (fun _ => y_move rfl) <| hy (fun _ => y_move rfl) <| hy (fun _ => y_move rfl) <| hy (fun _ => y_rem rfl rfl (by omega) (by omega)) <| hy (fun _ => y_conv rfl Tryz.underlying3 Tryz.underlying5 (show IntKind.u8.wrap (((q256 (8 * n) i : Nat) : Int) % 256) = ((UInt8.ofNat (q256 (8 * n) i % 256)).toNat : Int) from u8mod (q256 (8 * n) i % 256))) <| hy (fun _ => y_idxS1 rfl rfl Tryz.underlying27 sz5 hA_b23 (show ((7 - i : Nat) : Int) = _ by omega) (by omega)) <| ?_
      refine hx0 (xh_st1a 0 rfl rfl rfl sz5 rfl (by rw [b8s_length, hbl]; omega) ?_)
      refine hend <| hsub (ρ' := [(25, _), (4, _), (6, _), (5, _), (16, _), (3, _), (2, _), (0, _)]) ⟨rfl, rfl, rfl, rfl, rfl, rfl, rfl, rfl, trivial⟩ <| hmemQ (X' := [_, _, _]) (S' := [_]) (fun _ m => m) <| hthen <| hreg <| hy (fun _ => y_move rfl) <| hy (fun _ => yV (y_quo rfl rfl (by omega) (by omega) (w64 (by omega) (by omega))) ((show Value.int .i64 (((q256 (8 * n) i : Nat) : Int) / 256) = .int .i64 ((q256 (8 * n) (i + 1) : Nat) : Int) from rfl))) <| hy (fun _ => y_assign rfl) <| hend <| hsub (ρ' := [(4, _), (25, _), (6, _), (5, _), (16, _), (3, _), (2, _), (0, _)]) ⟨rfl, rfl, rfl, rfl, rfl, rfl, rfl, rfl, trivial⟩ <| hqblock <| hthen <| hreg <| hy (fun _ => y_move rfl) <| hy (fun _ => yV (y_sub rfl rfl (w64 (by omega) (by omega))) ((show Value.int .i64 (7 - (i : Int) - 1) = .int .i64 (7 - ((i + 1 : Nat) : Int)) from congrArg (Value.int .i64) (by omega)))) <| hy (fun _ => y_assign rfl) <| hend <| hsub (ρ' := [(6, _), (4, _), (25, _), (5, _), (16, _), (3, _), (2, _), (0, _)]) ⟨rfl, rfl, rfl, rfl, rfl, rfl, rfl, rfl, trivial⟩ <| ?_
      refine hmemQ (fun w m => m.eqX 0 rfl (show _ = RBlk g23 5 (b8s (be8t (8 * n) (i + 1))) from by rw [Nat.zero_add, ← be8t_step (by omega), b8s_set]; rfl)) ?_
      refine hnext1 (i + 1) ⟨rfl, rfl, rfl, rfl, rfl, rfl, rfl, trivial⟩ [0, 0, 0] rfl [0] rfl (by omega) (by omega)
    · obtain rfl : i = 8 := by omega
      have hpl : (padL l).length = n + 1 + padZ n + 8 := by
        simp only [padL, List.length_append, List.length_cons, List.length_replicate, be8_len, hl]; omega
      refine hmemC (fun w m => m.eqX 0 rfl (show _ = RBlk g23 5 (b8s (be8 (8 * n))) from by simp [be8t])) ?_
      refine hexit <| hthen_exit <| hthen_exit <| hqblock_exit <| hthen <| hseq <| hreg <| hy (fun _ => y_move rfl) <| hy (fun _ => y_move rfl) <| ?_
      refine hx (xh_app 1 rfl rfl rfl Tryz.underlying27 Tryz.underlying27 (by exact .inl rfl) ti5 rfl (fun m => Src.of_rd (Rd.of_blk (m.blk 0 rfl) (by rw [b8s_length, be8_len]))) b8s_one (by unfold maxLen; omega) (by omega) (fun u3 => ?_))
      refine hfactL (fun m => (m.own 0 rfl).slice) ?_
      rintro ⟨A_o3, c_o3, rfl, hc_o⟩
      refine hfactL (fun m => (m.ord 0 rfl).2.1) fun hA_o => ?_
      refine hmemL (fun w m => m.eqX 0 rfl (show _ = ROwn 5 1 (.slice A_o3 (padL l).length c_o3) (padL l).length (b8s (padL l)) from by rw [hpl, padL, hl]; simp [b8s])) ?_
      refine hy (fun _ => y_assign rfl) <| hend <| hsub (ρ' := [(2, _), (25, _), (4, _), (6, _), (5, _), (16, _), (3, _), (0, _)]) ⟨rfl, rfl, rfl, rfl, rfl, rfl, rfl, rfl, trivial⟩ <| hmemQ (X' := [_, _, _]) (S' := [_]) (fun _ m => m) <| hthen <| hret <| ?_
      exact hret1 trivial rfl rfl [0] rfl [] rfl ⟨_, (by rw [hpl]), rfl, rfl⟩
theorem set_mid8 {p r : List UInt8} {k : Nat} {a x : UInt8} (hp : p.length = k) : (b8s (p ++ x :: r)).set k (B8 a) = b8s (p ++ [a] ++ r) := by
  subst hp
  simp [b8s, List.set_append]
def qw (x : UInt32) : Nat → UInt32
  | 0 => x
  | j + 1 => qw x j / 256
theorem qw_toNat (x : UInt32) : ∀ j, (qw x j).toNat = x.toNat / 256 ^ j
  | 0 => by simp [qw]
  | j + 1 => by
    rw [qw, UInt32.toNat_div, qw_toNat x j, Nat.pow_succ, ← Nat.div_div_eq_div_mul]; rfl
theorem qw_be4 (x : UInt32) {r : Nat} (hr : r < 4) : (be4 x)[r]? = some (UInt8.ofNat (qw x (3 - r) % 256).toNat) := by
  have h256 : (256 : UInt32).toNat = 256 := rfl
  have e : ∀ k, UInt8.ofNat ((qw x k % 256).toNat) = UInt8.ofNat (x.toNat / 256 ^ k) := fun k => by
    rw [UInt32.toNat_mod, qw_toNat, h256]
    apply UInt8.toNat_inj.1; simp
  rw [e]
  match r, hr with
  | 0, _ => simp [be4, UInt32.toNat_div]
  | 1, _ => simp [be4, UInt32.toNat_div]
  | 2, _ => simp [be4, UInt32.toNat_div]
  | 3, _ => simp [be4]
theorem digOf_get : ∀ (h : List UInt32) (q r : Nat), q < h.length → r < 4 → (digOf h)[4 * q + r]? = (be4 (h.getD q 0))[r]?
  | a :: t, 0, r, hq, hr => by
    rw [digOf, List.flatMap_cons, List.getElem?_append_left (by show 4 * 0 + r < 4; omega)]
    simp
  | a :: t, q + 1, r, hq, hr => by
    rw [digOf, List.flatMap_cons, List.getElem?_append_right (by show 4 ≤ _; omega), show 4 * (q + 1) + r - (be4 a).length = 4 * q + r by show 4 * (q + 1) + r - 4 = _; omega]
    have := digOf_get t q r (by simpa using hq) hr
    simpa [digOf] using this
theorem rshaSumC {A : Option Addr} {n c : Nat} {l : List UInt8} (hn : n ≤ 140737488351232) : Con Tryz.prog 23 [.slice A n c] [] [RRd 1 A n (b8s l)] (fun v_ X_ S_ => v_ = (.agg (b8s (shaL l)).toArray) ∧ X_ = [] ∧ S_ = []) := by
  refine henter (N := 49) Tryz.func23 rfl rfl (by simp) fun b => ?_
  refine hfactC (fun m => rdB (m.rd 0 rfl)) ?_
  rintro ⟨hl_r, hA_r⟩
  refine hseq <| hreg <| ?_
  refine hx (xh_alloc ti33 (fun g2 => ?_))
  refine hend <| hmemQ (X' := [_]) (S' := [_]) (fun _ m => m) <| hthen <| hseq <| hreg <| ?_
  refine hx (xh_bsl Tryz.underlying145 ti144 rfl rfl rfl (by decide) (by decide) (by decide) (fun g10 => ?_))
  have hA_b10 : 0 < 8 → (some (⟨g10, 0, none⟩ : Addr)) ≠ none := fun _ h => by cases h
  refine hmemL (fun w m => m.eqX 0 rfl (show _ = ROwn 144 1 (.slice (some ⟨g10, 0, none⟩) 8 8) 8 (wds (foldB h0L ((padL l).take (64 * 0)))) from by rw [Nat.mul_zero, List.take_zero]; rfl)) ?_
  refine hy (fun _ => y_assign rfl) <| hend <| hsub (ρ' := [(3, _), (2, _), (0, _)]) ⟨rfl, rfl, rfl, trivial⟩ <| hmemQ (X' := [_, _]) (S' := [_]) (fun _ m => m) <| hthen <| hseq <| hreg <| hy (fun _ => y_move rfl) <| ?_
  refine hx (xh_call rfl Tryz.call81 (rwholeC (by omega)) [] rfl [0] rfl ?_)
  rintro _ _ _ ⟨v, rfl, rfl, rfl⟩
  refine hfactL (fun m => (m.own 0 rfl).slice) ?_
  rintro ⟨A_x, c_x, rfl, hc_x⟩
  refine hfactL (fun m => (m.ord 0 rfl).2.1) fun hA_x => ?_
  refine hy (fun _ => y_assign rfl) <| hend <| hsub (ρ' := [(4, _), (3, _), (2, _), (0, _)]) ⟨rfl, rfl, rfl, rfl, trivial⟩ <| hmemQ (X' := [_, _, _]) (S' := [_]) (fun _ m => m) <| hthen <| hseq <| hseq <| hreg <| hy (fun _ => y_assign rfl) <| hend <| hthen <| hblock <| ?_
  have hpl := padL_length l
  have hpb : (padL l).length ≤ 140737488352000 := by
    have : l.length = n := hl_r
    have hz : padZ l.length < 64 := Nat.mod_lt _ (by decide)
    simp only [padL, List.length_append, List.length_cons, List.length_replicate, be8_len]; omega
  obtain ⟨K, hK⟩ : ∃ K, (padL l).length = 64 * K := ⟨(padL l).length / 64, by omega⟩
  generalize hP : padL l = P at hpl hpb hK hc_x hA_x ⊢
  refine hmemC (fun w m => (m.perm (takeR_perm [0] _ [_] _ rfl)).freeze) ?_
  refine hmemC (fun w m => m.asV 0 rfl .own) ?_
  refine hfactC (fun m => rdB (m.rd 0 rfl)) ?_
  rintro ⟨hl_xr, hA_xr⟩
  refine hloop3 (fun k H hc => K - k) (fun k H hc => [(3, .slice H 8 hc), (5, .int .i64 ((64 * k : Nat) : Int))]) (fun k H hc => [ROwn 144 1 (.slice H 8 hc) 8 (wds (foldB h0L (P.take (64 * k))))]) (fun k H hc => []) (fun k H hc => k ≤ K) 0 (some ⟨g10, 0, none⟩) 8 [(4, _), (2, _), (0, _)] ⟨rfl, rfl, rfl, trivial⟩ [0] rfl [] rfl (Nat.zero_le _) ⟨rfl, rfl, trivial⟩ (fun k H hc hkK => ?_)
  have hh := foldB_length (h := h0L) (P.take (64 * k)) rfl
  refine hseq <| hseq <| hreg <| hy (fun _ => y_move rfl) <| hy (fun _ => y_move rfl) <| hy (fun _ => y_lenS rfl Tryz.underlying27) <| hy (fun _ => y_lss rfl rfl) <| hend <| hsub (ρ' := [(16, _), (3, _), (5, _), (4, _), (2, _), (0, _)]) ⟨rfl, rfl, rfl, rfl, rfl, rfl, trivial⟩ <| hthen <| ?_
  refine hif rfl (fun hlt => ?_) (fun hlt => ?_)
  · have hk : k < K := by omega
    refine hmemC (fun w m => m.asV 0 rfl (View.sub (k := 64 * k) (m := 64) hc_x (by omega))) ?_
    refine hfactC (fun m => rdB (m.rd 0 rfl)) ?_
    rintro ⟨hl_r64, hA_r64⟩
    refine hcskip <| hthen <| hseq <| hblock <| hreg <| hy (fun _ => y_move rfl) <| hy (fun _ => y_move rfl) <| hy (fun _ => y_move rfl) <| hy (fun _ => y_move rfl) <| hy (fun _ => y_add rfl rfl (w64 (by omega) (by omega))) <| hy (fun _ => yV (y_slBoth rfl rfl rfl Tryz.underlying27 sz5 (show ((64 * k : Nat) : Int) = _ by omega) (show ((64 * k + 64 : Nat) : Int) = _ by omega) (by omega) (by omega)) ((show Value.slice (if c_x = 64 * k then A_x else A_x.map (·.add (64 * k * 1))) (64 * k + 64 - 64 * k) (c_x - 64 * k) = .slice (if c_x = 64 * k then A_x else A_x.map (·.add (64 * k * 1))) 64 (c_x - 64 * k) by rw [Nat.add_sub_cancel_left]))) <| ?_
    refine hx (xh_calll rfl Tryz.call82 (rblockC (by omega) hh (h := (foldB h0L (P.take (64 * k))))) [] rfl (.x 0 rfl .own (.s 0 rfl .nil)) ?_)
    rintro _ _ _ ⟨u, rfl, rfl, rfl⟩
    refine ⟨rfl, ?_⟩
    refine hfactL (fun m => (m.own 0 rfl).slice) ?_
    rintro ⟨A_y, c_y, rfl, hc_y⟩
    refine hfactL (fun m => (m.ord 0 rfl).2.1) fun hA_y => ?_
    refine hy (fun _ => y_assign rfl) <| hend <| hsub (ρ' := [(3, _), (16, _), (5, _), (4, _), (2, _), (0, _)]) ⟨rfl, rfl, rfl, rfl, rfl, rfl, trivial⟩ <| hmemQ (X' := [_, _, _]) (S' := [_, _, _, _]) (fun _ m => m) <| hqblock <| hthen <| hreg <| hy (fun _ => y_move rfl) <| hy (fun _ => yV (y_add rfl rfl (w64 (by omega) (by omega))) ((show Value.int .i64 (((64 * k : Nat) : Int) + 64) = .int .i64 ((64 * (k + 1) : Nat) : Int) from congrArg (Value.int .i64) (by omega)))) <| hy (fun _ => y_assign rfl) <| hend <| hsub (ρ' := [(5, _), (3, _), (16, _), (4, _), (2, _), (0, _)]) ⟨rfl, rfl, rfl, rfl, rfl, rfl, trivial⟩ <| ?_
    have hfs : blockL (foldB h0L (P.take (64 * k))) ((P.drop (64 * k)).take 64) = foldB h0L (P.take (64 * (k + 1))) := by
      rw [← foldB_snoc (by rw [List.length_take]; omega) (by rw [List.length_take, List.length_drop]; omega), ← List.take_add]
      rfl
    rw [hfs]
    refine hnext3 (k + 1) A_y c_y ⟨rfl, rfl, rfl, rfl, rfl, trivial⟩ [0, 1] rfl [1, 2, 3] rfl (by omega) (by omega)
  · obtain rfl : k = K := by omega
    have hfl : foldB h0L (P.take (64 * k)) = foldB h0L P := by rw [List.take_of_length_le (by omega)]
    rw [hfl] at hh ⊢
    have hsha : shaL l = digOf (foldB h0L P) := by rw [shaL, hP]
    have hdl := digOf_length hh
    generalize foldB h0L P = F at hh hsha hdl ⊢
    refine hfactC (fun m => (m.ord 0 rfl).2.1) fun hA_b10 => ?_
    refine hexit <| hthen_exit <| hthen_exit <| hqblock_exit <| hthen <| hseq <| hreg <| ?_
    refine hx (xh_alloc ti33 (fun g6 => ?_))
    refine hend <| hmemQ (X' := [_, _, _]) (S' := [_, _, _]) (fun _ m => m) <| hthen <| hseq <| hseq <| hreg <| hy (fun _ => y_assign rfl) <| hend <| hthen <| hblock <| ?_
    refine hmemC (fun w m => m.eqX 0 rfl (show _ = RBlk g6 33 (b8s ((digOf F).take 0 ++ List.replicate (32 - 0) 0)) from rfl)) ?_
    refine hloop1 (fun i => 32 - i) (fun i => [(7, .int .i64 (i : Nat))]) (fun i => [RBlk g6 33 (b8s ((digOf F).take i ++ List.replicate (32 - i) 0))]) (fun i => []) (fun i => i ≤ 32) 0 [(6, _), (16, _), (3, _), (5, _), (4, _), (2, _), (0, _)] ⟨rfl, rfl, rfl, rfl, rfl, rfl, rfl, trivial⟩ [0] rfl [] rfl (Nat.zero_le _) ⟨rfl, trivial⟩ (fun i hi32 => ?_)
    refine hseq <| hseq <| hreg <| hy (fun _ => y_move rfl) <| hy (fun _ => y_lss rfl rfl) <| hend <| hsub (ρ' := [(27, _), (7, _), (6, _), (16, _), (3, _), (5, _), (4, _), (2, _), (0, _)]) ⟨rfl, rfl, rfl, rfl, rfl, rfl, rfl, rfl, rfl, trivial⟩ <| hthen <| ?_
    refine hif rfl (fun hi => ?_) (fun hi => ?_)
    · refine hcskip <| hthen <| hseq <| hblock <| hseq <| hreg <| hy (fun _ => y_move rfl) <| hy (fun _ => y_move rfl) <| hy (fun _ => y_quo rfl rfl (by omega) (by omega) (w64 (by omega) (by omega))) <| hy (fun _ => y_idxS1 rfl rfl Tryz.underlying145 sz144 hA_b10 (show ((i / 4 : Nat) : Int) = _ by omega) (by omega)) <| hy (fun m => yV (y_ld1 rfl ag144 ((m.ord 1 rfl).cell (j := i / 4) (wds_get (by omega)))) ((rfl : _ = Wd (qw (F.getD (i / 4) 0) 0)))) <| hy (fun _ => y_assign rfl) <| hend <| hsub (ρ' := [(8, _), (27, _), (7, _), (6, _), (16, _), (3, _), (5, _), (4, _), (2, _), (0, _)]) ⟨rfl, rfl, rfl, rfl, rfl, rfl, rfl, rfl, rfl, rfl, trivial⟩ <| hthen <| hseq <| hseq <| hreg <| hy (fun _ => y_move rfl) <| hy (fun _ => yV (y_rem rfl rfl (by omega) (by omega)) ((show Value.int .i64 ((i : Int) % 4) = .int .i64 (((i % 4 + 0 : Nat)) : Int) from congrArg (Value.int .i64) (by omega)))) <| hy (fun _ => y_assign rfl) <| hend <| hsub (ρ' := [(9, _), (8, _), (27, _), (7, _), (6, _), (16, _), (3, _), (5, _), (4, _), (2, _), (0, _)]) ⟨rfl, rfl, rfl, rfl, rfl, rfl, rfl, rfl, rfl, rfl, rfl, trivial⟩ <| hthen <| hblock <| ?_
      refine hloop1 (fun j => 3 - j) (fun j => [(8, Wd (qw (F.getD (i / 4) 0) j)), (9, .int .i64 ((i % 4 + j : Nat) : Int))]) (fun j => []) (fun j => []) (fun j => i % 4 + j ≤ 3) 0 [(27, _), (7, _), (6, _), (16, _), (3, _), (5, _), (4, _), (2, _), (0, _)] ⟨rfl, rfl, rfl, rfl, rfl, rfl, rfl, rfl, rfl, trivial⟩ [] rfl [] rfl ((by omega)) ⟨rfl, rfl, trivial⟩ (fun j hj3 => ?_)
      refine hseq <| hseq <| hreg <| hy (fun _ => y_move rfl) <| hy (fun _ => y_lss rfl rfl) <| hend <| hsub (ρ' := [(38, _), (8, _), (9, _), (27, _), (7, _), (6, _), (16, _), (3, _), (5, _), (4, _), (2, _), (0, _)]) ⟨rfl, rfl, rfl, rfl, rfl, rfl, rfl, rfl, rfl, rfl, rfl, rfl, trivial⟩ <| hthen <| ?_
      refine hif rfl (fun hj => ?_) (fun hj => ?_)
      · refine hcskip <| hthen <| hseq <| hblock <| hreg <| hy (fun _ => y_move rfl) <| hy (fun _ => yV (y_wquo (b := 256) (by decide) rfl rfl) ((rfl : _ = Wd (qw (F.getD (i / 4) 0) (j + 1))))) <| hy (fun _ => y_assign rfl) <| hend <| hsub (ρ' := [(8, _), (38, _), (9, _), (27, _), (7, _), (6, _), (16, _), (3, _), (5, _), (4, _), (2, _), (0, _)]) ⟨rfl, rfl, rfl, rfl, rfl, rfl, rfl, rfl, rfl, rfl, rfl, rfl, trivial⟩ <| hqblock <| hthen <| hreg <| hy (fun _ => y_move rfl) <| hy (fun _ => yV (y_add rfl rfl (w64 (by omega) (by omega))) ((show Value.int .i64 (((i % 4 + j : Nat) : Int) + 1) = .int .i64 ((i % 4 + (j + 1) : Nat) : Int) from congrArg (Value.int .i64) (by omega)))) <| hy (fun _ => y_assign rfl) <| hend <| hsub (ρ' := [(9, _), (8, _), (38, _), (27, _), (7, _), (6, _), (16, _), (3, _), (5, _), (4, _), (2, _), (0, _)]) ⟨rfl, rfl, rfl, rfl, rfl, rfl, rfl, rfl, rfl, rfl, rfl, rfl, trivial⟩ <| ?_
        refine hnext1 (j + 1) ⟨rfl, rfl, rfl, rfl, rfl, rfl, rfl, rfl, rfl, rfl, rfl, trivial⟩ [0, 0, 0] rfl [0, 1, 2] rfl (by omega) (by omega)
      · have hj : j = 3 - i % 4 := by omega
        subst hj
        have hbyte : (digOf F)[i]? = some (UInt8.ofNat (qw (F.getD (i / 4) 0) (3 - i % 4) % 256).toNat) := by
          rw [← qw_be4 _ (by omega), ← digOf_get F (i / 4) (i % 4) (by omega) (by omega)]
          congr 1; omega
        have hri : List.replicate (32 - i) (0 : UInt8) = 0 :: List.replicate (32 - (i + 1)) 0 := by rw [show 32 - i = (32 - (i + 1)) + 1 by omega]; rfl
        have hti : (digOf F).take (i + 1) = (digOf F).take i ++ [UInt8.ofNat (qw (F.getD (i / 4) 0) (3 - i % 4) % 256).toNat] := by
          rw [List.take_add_one, hbyte]; rfl
        refine hexit <| hthen_exit <| hthen_exit <| hqblock_exit <| hthen <| hreg <| hy (fun _ => y_move rfl) <| hy (fun _ => y_move rfl) <| hy (fun _ => y_wrem (b := 256) (by decide) rfl rfl) <| hy (fun _ => y_8w rfl Tryz.underlying144 Tryz.underlying5) <| hy (fun _ => y_idxA1 rfl rfl Tryz.underlying33 sz5 rfl (by omega)) <| ?_
        refine hx0 (xh_st1a 0 rfl rfl rfl sz5 rfl (by rw [b8s_length, List.length_append, List.length_take, List.length_replicate]; omega) ?_)
        refine hend <| hsub (ρ' := [(38, _), (8, _), (9, _), (27, _), (7, _), (6, _), (16, _), (3, _), (5, _), (4, _), (2, _), (0, _)]) ⟨rfl, rfl, rfl, rfl, rfl, rfl, rfl, rfl, rfl, rfl, rfl, rfl, trivial⟩ <| hmemQ (X' := [_, _, _]) (S' := [_, _, _]) (fun _ m => m) <| hqblock <| hthen <| hreg <| hy (fun _ => y_move rfl) <| hy (fun _ => y_add rfl rfl (w64 (by omega) (by omega))) <| hy (fun _ => y_assign rfl) <| hend <| hsub (ρ' := [(7, _), (38, _), (8, _), (9, _), (27, _), (6, _), (16, _), (3, _), (5, _), (4, _), (2, _), (0, _)]) ⟨rfl, rfl, rfl, rfl, rfl, rfl, rfl, rfl, rfl, rfl, rfl, rfl, trivial⟩ <| ?_
        refine hmemQ (fun w m => m.eqX 0 rfl (show _ = RBlk g6 33 (b8s ((digOf F).take (i + 1) ++ List.replicate (32 - (i + 1)) 0)) from by rw [hri, Nat.zero_add, hti]; exact congrArg (RBlk _ _) (set_mid8 (by rw [List.length_take]; omega)))) ?_
        refine hnext1 (i + 1) ⟨rfl, rfl, rfl, rfl, rfl, rfl, rfl, rfl, trivial⟩ [0, 0, 0] rfl [0, 1, 2] rfl (by omega) (by omega)
    · obtain rfl : i = 32 := by omega
      refine hmemC (fun w m => m.eqX 0 rfl (show _ = RBlk g6 33 (b8s (shaL l)) from by rw [List.take_of_length_le (by omega), ← hsha]; simp)) ?_
      refine hexit <| hthen_exit <| hthen_exit <| hqblock_exit <| hthen <| hseq <| hreg <| hy (fun m => yV (y_ldN rfl ag33 sz33 (by rw [b8s_length, shaL_length]) ((m.blk 0 rfl).cells0)) ((rfl : _ = Value.agg (b8s (shaL l)).toArray))) <| ?_
      refine hx0 (xh_stA 2 rfl rfl rfl sz33 (by rw [b8s_length, shaL_length]) b8s_one rfl ?_)
      refine hend <| hsub (ρ' := [(27, _), (7, _), (6, _), (16, _), (3, _), (5, _), (4, _), (2, _), (0, _)]) ⟨rfl, rfl, rfl, rfl, rfl, rfl, rfl, rfl, rfl, trivial⟩ <| hmemQ (X' := [_, _, _]) (S' := [_, _, _]) (fun _ m => m) <| hthen <| hret <| ?_
      exact hretN trivial rfl rfl ag33 sz33 (by rw [b8s_length, shaL_length]) (fun m => (m.blk 0 rfl).cells0) [] rfl [] rfl ⟨rfl, rfl, rfl⟩
end Go.Proofs.YtfikjheicjamhaaGreatDoor
end
section
/- The number of four bytes, read from the highest one down. No program. -/
set_option linter.unusedVariables false
namespace Go.Hx
open Go.Eng
/-- what is read of j bytes, the highest one first -/
def acc (l : List UInt8) : Nat → Nat
  | 0 => 0
  | j + 1 => acc l j * 256 + (l.getD (3 - j) 0).toNat
theorem acc_lt (l : List UInt8) : ∀ j, acc l j < 256 ^ j
  | 0 => by simp [acc]
  | j + 1 => by
    have h1 := acc_lt l j
    have h2 := (l.getD (3 - j) 0).toNat_lt
    rw [acc, Nat.pow_succ]
    omega
theorem acc_le (l : List UInt8) {j : Nat} (h : j ≤ 4) : acc l j < 4294967296 := by
  have h1 := acc_lt l j
  have h2 : 256 ^ j ≤ 256 ^ 4 := Nat.pow_le_pow_right (by decide) h
  have h3 : 256 ^ 4 = 4294967296 := by decide
  omega
theorem acc4 (l : List UInt8) : acc l 4 = num4 l := by
  have e : (3 - 0 = 3) ∧ (3 - 1 = 2) ∧ (3 - 2 = 1) ∧ (3 - 3 = 0) := by decide
  simp only [acc, num4, e.1, e.2.1, e.2.2.1, e.2.2.2]
  omega
theorem or_byte (a b : Nat) (ha : a < 4294967296) (hb : b < 256) : bits .or .i64 (a * 256 : Int) (b : Int) = ((a * 256 + b : Nat) : Int) := by
  have h1 : (a * 256 : Int) = ((a * 256 : Nat) : Int) := by simp
  have h2 : a * 256 ||| b = a * 256 + b := by rw [Nat.mul_comm a 256, show 256 = 2 ^ 8 from rfl, Nat.two_pow_add_eq_or_of_lt (by simpa using hb)]
  have e0 : ∀ n : Nat, n < 18446744073709551616 → (BitVec.ofInt 64 (n : Int)).toNat = n := fun n hn => by
    rw [BitVec.toNat_ofInt]
    simp
    omega
  rw [h1]
  show IntKind.i64.wrap ((BitVec.ofInt 64 ((a * 256 : Nat) : Int) ||| BitVec.ofInt 64 (b : Int)).toNat : Int) = _
  rw [BitVec.toNat_or, e0 _ (by omega), e0 _ (by omega), h2]
  exact w64 (by omega) (by omega)
end Go.Hx
end
section
/- Contracts: superblocks read and saved by the program (layer 22). -/
set_option linter.unusedVariables false
set_option linter.unusedSimpArgs false
set_option maxRecDepth 20000
namespace Go.Proofs.YtfikjheicjamhaaGreatDoor
open Go.Eng Go.Hx
theorem valueC {l : List UInt8} (h4 : 4 ≤ l.length) : Con Tryz.prog 131 [.string (strOf l)] [] [] (fun v_ X_ S_ => v_ = (.int .i64 (num4 l : Nat)) ∧ X_ = [] ∧ S_ = []) := by
  have hs := strOf_size l
  refine henter (N := 17) Tryz.func131 rfl rfl (by simp) fun b => ?_
  refine hseq <| hreg <| hy (fun _ => y_assign rfl) <| hend <| hthen <| hseq <| hreg <| hy (fun _ => y_assign rfl) <| hend <| hthen <| hseq <| hseq <| hreg <| hy (fun _ => y_assign rfl) <| hend <| hthen <| hblock <| ?_
  refine hloop1 (fun i => 4 - i) (fun i => [(3, .int .i64 ((acc l i : Nat) : Int)), (4, .int .i64 (3 - (i : Int)))]) (fun i => []) (fun i => []) (fun i => i ≤ 4) 0 [(2, _), (0, _)] ⟨rfl, rfl, trivial⟩ [] rfl [] rfl (Nat.zero_le _) ⟨rfl, rfl, trivial⟩ (fun i hi4 => ?_)
  refine hseq <| hseq <| hreg <| hy (fun _ => y_move rfl) <| hy (fun _ => y_geq rfl rfl) <| hend <| hsub (ρ' := [(6, _), (3, _), (4, _), (2, _), (0, _)]) ⟨rfl, rfl, rfl, rfl, rfl, trivial⟩ <| hthen <| ?_
  refine hif rfl (fun hi => ?_) (fun hi => ?_)
  · have hn := acc_le l hi4
    have hb := (l.getD (3 - i) 0).toNat_lt
    refine hcskip <| hthen <| hseq <| hblock <| hreg <| hy (fun _ => y_move rfl) <| hy (fun _ => y_shl (p := 256) rfl rfl (by decide) (by decide) (by decide) (w64 (by omega) (by omega))) <| hy (fun _ => y_move rfl) <| hy (fun _ => y_move rfl) <| hy (fun _ => y_idxStr rfl rfl Tryz.underlying9 (show ((3 - i : Nat) : Int) = _ by omega) (strOf_at (by omega))) <| hy (fun _ => y_conv rfl Tryz.underlying5 Tryz.underlying3 (w64 (by omega) (by omega))) <| hy (fun _ => y_bits (by simp) rfl rfl (or_byte _ _ hn hb)) <| hy (fun _ => y_assign rfl) <| hend <| hsub (ρ' := [(3, _), (6, _), (4, _), (2, _), (0, _)]) ⟨rfl, rfl, rfl, rfl, rfl, trivial⟩ <| hqblock <| hthen <| hreg <| hy (fun _ => y_move rfl) <| hy (fun _ => yV (y_sub rfl rfl (w64 (by omega) (by omega))) ((show Value.int .i64 (3 - (i : Int) - 1) = .int .i64 (3 - ((i + 1 : Nat) : Int)) from congrArg (Value.int .i64) (by omega)))) <| hy (fun _ => y_assign rfl) <| hend <| hsub (ρ' := [(4, _), (3, _), (6, _), (2, _), (0, _)]) ⟨rfl, rfl, rfl, rfl, rfl, trivial⟩ <| ?_
    refine hnext1 (i + 1) ⟨rfl, rfl, rfl, rfl, trivial⟩ [] rfl [] rfl (by omega) (by omega)
  · obtain rfl : i = 4 := by omega
    rw [acc4]
    refine hexit <| hthen_exit <| hthen_exit <| hqblock_exit <| hthen <| hseq <| hreg <| hy (fun _ => y_move rfl) <| hy (fun _ => y_assign rfl) <| hend <| hsub (ρ' := [(2, _), (6, _), (3, _), (4, _), (0, _)]) ⟨rfl, rfl, rfl, rfl, rfl, trivial⟩ <| hthen <| hret <| ?_
    exact hret1 trivial rfl rfl [] rfl [] rfl ⟨rfl, rfl, rfl⟩
theorem cutPrefixC {s p : List UInt8} (hs : s.length ≤ 70368744177664) (hp : p.length ≤ 70368744177664) : Con Tryz.prog 130 [.string (strOf s), .string (strOf p)] [] [] (fun v_ X_ S_ => v_ = (.tuple #[.string (strOf (if s.take p.length = p then s.drop p.length else s)), .bool (decide (s.take p.length = p))]) ∧ X_ = [] ∧ S_ = []) := by
  exact con_pure fun m => Calls.mono (cutPrefix s p _ hs hp) (fun e w' ⟨h, hw⟩ => ⟨_, h, ⟨rfl, rfl, rfl⟩, hw ▸ Fr.refl _ _⟩)
theorem bld_sl {P : Program} {pl : Nat → Option (Nat × Nat)} {x : Sl} (h : x.image.length = 32) {zs : List Value} (hz : zs.length = 34) (p0 : pl 0 = some (0, 1)) (p1 : pl 1 = some (1, 32)) (p2 : pl 2 = some (33, 1)) :
    Bld P pl zs [(0, .bool x.full), (1, .agg (b8s x.image).toArray), (2, .int .i64 x.size)] x.cs := by
  have hw : (b8s x.image).length = 32 := by rw [b8s_length, h]
  have l1 : (splice zs 0 [Value.bool x.full]).length = 34 := by rw [splice_length (by rw [hz]; show 0 + 1 ≤ 34; decide), hz]
  have l2 : (splice (splice zs 0 [Value.bool x.full]) 1 (b8s x.image)).length = 34 := by rw [splice_length (by omega), l1]
  refine .cons (vs := [.bool x.full]) p0 rfl rfl (by omega) (.cons (vs := b8s x.image) p1 rfl hw (by omega) (.cons (vs := [.int .i64 x.size]) p2 rfl rfl (by omega) ?_))
  have e : splice (splice (splice zs 0 [Value.bool x.full]) 1 (b8s x.image)) 33 [.int .i64 x.size] = x.cs := by
    match zs, hz with
    | z :: r, hz =>
      have e1 : splice (z :: r) 0 [Value.bool x.full] = .bool x.full :: r := rfl
      have e2 : splice (Value.bool x.full :: r) 1 (b8s x.image) = .bool x.full :: (b8s x.image ++ r.drop 32) := by
        rw [splice, hw]
        show [Value.bool x.full] ++ b8s x.image ++ (Value.bool x.full :: r).drop 33 = _
        rw [List.drop_succ_cons]; rfl
      match hq : r.drop 32, (show (r.drop 32).length = 1 by rw [List.length_drop]; simp at hz; omega) with
      | [q], _ =>
        rw [e1, e2, hq, splice, show (33 : Nat) = 32 + 1 from rfl, List.take_succ_cons, List.take_append_of_le_length (by omega), List.take_of_length_le (by omega)]
        show (Value.bool x.full :: b8s x.image) ++ [.int .i64 x.size] ++ (Value.bool x.full :: (b8s x.image ++ [q])).drop 34 = _
        rw [List.drop_of_length_le (by simp [hw]), List.append_nil]; rfl
  rw [e]
  exact .nil
/-- a superblock that is being read -/
def rpart (l : List UInt8) (i : Nat) : Sup := ⟨(l.getD 4 0).toNat, (num4 (l.drop 5) : Nat), if 0 < i then rdSl (l.drop 9) else Sl.zero, if 1 < i then rdSl (l.drop 46) else Sl.zero⟩
theorem rpart_wf {l : List UInt8} (h : l.length = 83) (i : Nat) : (rpart l i).wf := by
  have hb := rdBody_wf h
  refine ⟨hb.a0, hb.a1, hb.g0, hb.g1, ?_, ?_⟩
  · unfold rpart; dsimp only; split
    · exact hb.w0
    · exact Sl.zero_wf
  · unfold rpart; dsimp only; split
    · exact hb.w1
    · exact Sl.zero_wf
theorem rpart_put {l : List UInt8} (h : l.length = 83) {i : Nat} (hi : i < 2) : splice (rpart l i).cs (2 + i * 34) (rdSl (l.drop (9 + 37 * i))).cs = (rpart l (i + 1)).cs := by
  have hx : (rdSl (l.drop (9 + 37 * i))).cs.length = 34 := Sl.cs_len (rdSl_wf (by rw [List.length_drop]; omega))
  match i, hi with
  | 0, _ =>
    have e1 : (rpart l 0).cs = [Value.int .i64 (rpart l 0).active, .int .i64 (rpart l 0).gen] ++ Sl.zero.cs ++ Sl.zero.cs := rfl
    have e2 : (rpart l 1).cs = [Value.int .i64 (rpart l 0).active, .int .i64 (rpart l 0).gen] ++ (rdSl (l.drop (9 + 37 * 0))).cs ++ Sl.zero.cs := rfl
    rw [e1, e2]
    exact splice_app rfl (by rw [hx]; exact Sl.cs_len Sl.zero_wf)
  | 1, _ =>
    have e1 : (rpart l 1).cs = ([Value.int .i64 (rpart l 0).active, .int .i64 (rpart l 0).gen] ++ (rdSl (l.drop 9)).cs) ++ Sl.zero.cs ++ [] := by rw [List.append_nil]; rfl
    have e2 : (rpart l 2).cs = ([Value.int .i64 (rpart l 0).active, .int .i64 (rpart l 0).gen] ++ (rdSl (l.drop 9)).cs) ++ (rdSl (l.drop (9 + 37 * 1))).cs ++ [] := by rw [List.append_nil]; rfl
    rw [e1, e2]
    exact splice_app (by rw [List.length_append, Sl.cs_len (rdSl_wf (by rw [List.length_drop]; omega))]; rfl) (by rw [hx]; exact Sl.cs_len Sl.zero_wf)
end Go.Proofs.YtfikjheicjamhaaGreatDoor
end
section
/- Contract: slots.Read. -/
set_option linter.unusedVariables false
set_option linter.unusedSimpArgs false
set_option maxRecDepth 20000
namespace Go.Proofs.YtfikjheicjamhaaGreatDoor
open Go.Eng Go.Hx
theorem readSupC {A : Option Addr} {n c : Nat} {l : List UInt8} (hc : n ≤ c) (hn : n ≤ 1000000000) : Con Tryz.prog 65 [.slice A n c] [] [RRd 1 A n (b8s l)] (fun v_ X_ S_ => v_ = (.tuple #[.agg (rdSup l).1.cs.toArray, .int .i64 (rdSup l).2]) ∧ X_ = [] ∧ S_ = []) := by
  refine henter (N := 72) Tryz.func65 rfl rfl (by simp) fun b => ?_
  refine hfactC (fun m => rdB (m.rd 0 rfl)) ?_
  rintro ⟨hl_r, hA_r⟩
  refine hseq <| hreg <| ?_
  refine hx (xh_alloc ti38 (fun g2 => ?_))
  refine hy (fun _ => y_assign rfl) <| hend <| hmemQ (X' := [_]) (S' := [_]) (fun _ m => m) <| hthen <| hseq <| hreg <| hy (fun _ => y_move rfl) <| ?_
  refine hx (xh_call rfl Tryz.call129 (crcTakeC (by omega) (by omega)) [] rfl [0] rfl ?_)
  rintro _ _ _ ⟨v, rfl, rfl, rfl⟩
  refine hfactL (fun m => (m.own 0 rfl).slice) ?_
  rintro ⟨A_x, c_x, rfl, hc_x⟩
  refine hfactL (fun m => (m.ord 0 rfl).2.1) fun hA_x => ?_
  refine hy (fun _ => y_move rfl) <| hy (fun _ => y_extract rfl rfl) <| hy (fun _ => y_extract rfl rfl) <| hy (fun _ => y_assign rfl) <| hy (fun _ => y_assign rfl) <| hend <| hsub (ρ' := [(5, _), (4, _), (3, _), (2, _), (0, _)]) ⟨rfl, rfl, rfl, rfl, rfl, trivial⟩ <| hmemQ (X' := [_, _]) (S' := [_]) (fun _ m => m) <| hthen <| hseq <| hseq <| hreg <| hy (fun _ => y_move rfl) <| hy (fun _ => y_neq rfl rfl) <| hend <| hsub (ρ' := [(16, _), (5, _), (4, _), (3, _), (2, _), (0, _)]) ⟨rfl, rfl, rfl, rfl, rfl, rfl, trivial⟩ <| hthen <| ?_
  refine hif rfl (fun h => ?_) (fun h => ?_)
  · rw [show rdSup l = (Sup.zero, takeE l) by rw [rdSup, if_pos h]]
    refine hseq <| hreg <| hy (fun _ => y_build0 ti38 rfl (by kernel_rfl)) <| hy (fun _ => y_move rfl) <| ?_
    refine hx0 (xh_stA 1 rfl rfl rfl sz38 (Sup.cs_len Sup.zero_wf) (Sup.cs_one (s := Sup.zero)) rfl ?_)
    refine hy (fun _ => y_assign rfl) <| hend <| hsub (ρ' := [(3, _), (16, _), (5, _), (4, _), (2, _), (0, _)]) ⟨rfl, rfl, rfl, rfl, rfl, rfl, trivial⟩ <| hmemQ (X' := [_, _]) (S' := [_]) (fun _ m => m) <| hthen <| hret <| hthen_ret <| ?_
    exact hretN1 trivial rfl rfl rfl ag38 sz38 (Sup.cs_len Sup.zero_wf) (fun m => (m.blk 0 rfl).cells0) [] rfl [] rfl ⟨rfl, rfl, rfl⟩
  · have h0 := Decidable.not_not.1 h
    have hn4 : 4 ≤ n := by
      rcases Nat.lt_or_ge l.length 4 with hlt | hge
      · rw [(takeE_2 hlt).1] at h0; omega
      · omega
    have hB : takeB l = l.take (l.length - 4) := by rw [takeB, if_pos h0]
    have hbl := takeB_len h0
    generalize takeB l = B at hB hbl
    have hbad : ¬ rdOk B → rdSup l = (Sup.zero, 2) := fun hb => by rw [rdSup, if_neg h, ← hB, if_neg hb]
    have hok : rdOk B → rdSup l = (rdBody B, 0) := fun hb => by rw [rdSup, if_neg h, ← hB, if_pos hb]
    refine hcskip <| hthen <| hseq <| hreg <| hy (fun _ => y_move rfl) <| hy (fun m => y_b2s rfl Tryz.underlying27 Tryz.underlying5 Tryz.underlying9 (m.ord 0 rfl)) <| ?_
    refine hx (xh_call rfl Tryz.call130 (cutPrefixC (by omega) (by decide)) [] rfl [] rfl ?_)
    rintro _ _ _ ⟨rfl, rfl, rfl⟩
    refine hy (fun _ => y_move rfl) <| hy (fun _ => y_extract rfl rfl) <| hy (fun _ => y_extract rfl rfl) <| hy (fun _ => y_assign rfl) <| hy (fun _ => y_assign rfl) <| hend <| hsub (ρ' := [(7, _), (6, _), (16, _), (5, _), (4, _), (3, _), (2, _), (0, _)]) ⟨rfl, rfl, rfl, rfl, rfl, rfl, rfl, rfl, trivial⟩ <| hmemQ (X' := [_, _]) (S' := [_]) (fun _ m => m) <| hthen <| hseq <| hseq <| hreg <| hy (fun _ => y_move rfl) <| hy (fun _ => y_notp rfl) <| hy (fun _ => y_move rfl) <| ?_
    refine hsplit 27 rfl (fun hp => ?_) (fun hp => ?_)
    · refine hskip rfl rfl rfl (by decide) <| hskip rfl rfl rfl (by decide) <| hskip rfl rfl rfl (by decide) <| hy (fun _ => y_pickT rfl rfl) <| hend <| hsub (ρ' := [(31, _), (7, _), (6, _), (16, _), (5, _), (4, _), (3, _), (2, _), (0, _)]) ⟨rfl, rfl, rfl, rfl, rfl, rfl, rfl, rfl, rfl, trivial⟩ <| hthen <| ?_
      refine hift rfl (rfl) ?_
      refine hseq <| hreg <| hy (fun _ => y_build0 ti38 rfl (by kernel_rfl)) <| ?_
      rw [hbad (fun hb => hp hb.2.1)]
      refine hx0 (xh_stA 1 rfl rfl rfl sz38 (Sup.cs_len Sup.zero_wf) (Sup.cs_one (s := Sup.zero)) rfl ?_)
      refine hy (fun _ => y_assign rfl) <| hend <| hsub (ρ' := [(3, _), (31, _), (7, _), (6, _), (16, _), (5, _), (4, _), (2, _), (0, _)]) ⟨rfl, rfl, rfl, rfl, rfl, rfl, rfl, rfl, rfl, trivial⟩ <| hmemQ (X' := [_, _]) (S' := [_]) (fun _ m => m) <| hthen <| hret <| hthen_ret <| ?_
      exact hretN1 trivial rfl rfl rfl ag38 sz38 (Sup.cs_len Sup.zero_wf) (fun m => (m.blk 0 rfl).cells0) [] rfl [] rfl ⟨rfl, rfl, rfl⟩
    · have hp := Decidable.not_not.1 hp
      have hp' : B.take 4 = [76, 84, 83, 49] := hp
      rw [if_pos hp]
      show HL _ _ _ _ _ _ ((27, Value.bool false) :: _) _ _ _
      rw [show ([76, 84, 83, 49] : List UInt8).length = 4 from rfl]
      have hsz := strOf_size (B.drop 4)
      have hdl : (B.drop 4).length = n - 4 - 4 := by rw [List.length_drop, hbl, hl_r]
      refine hyg (o := _) rfl rfl rfl (fun _ => y_move rfl) <| hyg (o := _) rfl rfl rfl (fun _ => y_lenStr rfl Tryz.underlying9) <| hyg (o := _) rfl rfl rfl (fun _ => y_neq rfl rfl) <| hy (fun _ => y_pickF rfl rfl) <| hend <| hsub (ρ' := [(31, _), (7, _), (6, _), (16, _), (5, _), (4, _), (3, _), (2, _), (0, _)]) ⟨rfl, rfl, rfl, rfl, rfl, rfl, rfl, rfl, rfl, trivial⟩ <| hthen <| ?_
      refine hif rfl (fun h5 => ?_) (fun h5 => ?_)
      · refine hseq <| hreg <| hy (fun _ => y_build0 ti38 rfl (by kernel_rfl)) <| ?_
        rw [hbad (fun hb => by have := hb.1; omega)]
        refine hx0 (xh_stA 1 rfl rfl rfl sz38 (Sup.cs_len Sup.zero_wf) (Sup.cs_one (s := Sup.zero)) rfl ?_)
        refine hy (fun _ => y_assign rfl) <| hend <| hsub (ρ' := [(3, _), (31, _), (7, _), (6, _), (16, _), (5, _), (4, _), (2, _), (0, _)]) ⟨rfl, rfl, rfl, rfl, rfl, rfl, rfl, rfl, rfl, trivial⟩ <| hmemQ (X' := [_, _]) (S' := [_]) (fun _ m => m) <| hthen <| hret <| hthen_ret <| ?_
        exact hretN1 trivial rfl rfl rfl ag38 sz38 (Sup.cs_len Sup.zero_wf) (fun m => (m.blk 0 rfl).cells0) [] rfl [] rfl ⟨rfl, rfl, rfl⟩
      · have h83 : B.length = 83 := by omega
        have hb4 := ((B.drop 4).getD 0 0).toNat_lt
        have e4 : (B.drop 4).getD 0 0 = B.getD 4 0 := by simp [List.getD]
        have e5 : (B.drop 4).drop 1 = B.drop 5 := by rw [List.drop_drop]
        refine hcskip <| hthen <| hseq <| hdrwP [5, 7, 8] (.take 0 2 <| .take 1 2 <| .take 2 2 <| .take 3 2 <| .take 4 2 <| .alt 5 (.take 6 2 <| .alt 7 (.alt 8 (.done) (.stop)) (.stop)) (.alt 7 (.alt 5 (.take 6 2 <| .alt 8 (.done) (.stop)) (.stop)) (.stop))) (by kernel_rfl) (by kernel_rfl) rfl 2 <| hpyU (y_move rfl) <| hpyU (y_idxStr rfl rfl Tryz.underlying9 (show ((0 : Nat) : Int) = 0 from rfl) (strOf_at (by omega))) <| hpyU (yV (y_conv rfl Tryz.underlying5 Tryz.underlying3 (w64 (by omega) (by omega))) ((show Value.int .i64 (((B.drop 4).getD 0 0).toNat : Int) = .int .i64 (rpart B 0).active by rw [e4]; rfl))) <| hpyU (y_move rfl) <| hpyU (yV (y_strFrom rfl rfl Tryz.underlying9 (show ((1 : Nat) : Int) = 1 from rfl) (by rw [bytesOf_strOf]; omega)) ((show Value.string (strOf ((bytesOf (strOf (B.drop 4))).drop 1)) = .string (strOf (B.drop 5)) by rw [bytesOf_strOf, e5]))) <| ?_
        refine hpfork ?_ ?_
        · refine hpx (xh_call rfl Tryz.call131 (valueC (by rw [List.length_drop]; omega) (l := (B.drop 5))) [] rfl [] rfl ?_)
          rintro _ _ _ ⟨rfl, rfl, rfl⟩
          refine ⟨(fun _ => wk [0, 0] [0] rfl rfl), ?_⟩
          refine hpyU (yV (y_build ti38 rfl rfl (by kernel_rfl) (.cons (o := 0) (sz := 1) (by kernel_rfl) rfl rfl (Nat.le_of_ble_eq_true rfl) (.cons (o := 1) (sz := 1) (by kernel_rfl) rfl rfl (Nat.le_of_ble_eq_true rfl) .nil))) ((rfl : _ = Value.agg (rpart B 0).cs.toArray))) <| ?_
          refine hpx (xh_alloc ti38 (fun g8 => ⟨(fun _ => wk [1, 1] [0] rfl rfl), ?_⟩))
          refine hpx0 (xh_stA 0 rfl rfl rfl sz38 (Sup.cs_len (rpart_wf h83 0)) (Sup.cs_one (s := rpart B 0)) rfl ⟨(fun h => absurd h (by decide)), ?_⟩)
          refine hpend <| hsub (ρ' := [(8, _), (31, _), (7, _), (6, _), (16, _), (5, _), (4, _), (3, _), (2, _), (0, _)]) ⟨rfl, rfl, rfl, rfl, rfl, rfl, rfl, rfl, rfl, rfl, trivial⟩ <| hmemQ (X' := [_, _, _]) (S' := [_]) (fun _ m => m) <| hthen <| hseq <| hreg <| hy (fun _ => y_move rfl) <| hy (fun _ => yV (y_strFrom rfl rfl Tryz.underlying9 (show ((5 : Nat) : Int) = 5 from rfl) (by rw [bytesOf_strOf]; omega)) ((show Value.string (strOf ((bytesOf (strOf (B.drop 4))).drop 5)) = .string (strOf (B.drop (9 + 37 * 0))) by rw [bytesOf_strOf, List.drop_drop]))) <| hy (fun _ => y_assign rfl) <| hend <| hsub (ρ' := [(6, _), (8, _), (31, _), (7, _), (16, _), (5, _), (4, _), (3, _), (2, _), (0, _)]) ⟨rfl, rfl, rfl, rfl, rfl, rfl, rfl, rfl, rfl, rfl, trivial⟩ <| hthen <| hseq <| hseq <| hreg <| hy (fun _ => y_move rfl) <| hend <| hthen <| hblock <| ?_
          refine hloop1 (fun i => 2 - i) (fun i => [(6, .string (strOf (B.drop (9 + 37 * i)))), (42, .int .i64 (i : Nat))]) (fun i => [RBlk g8 38 (rpart B i).cs]) (fun i => []) (fun i => i ≤ 2 ∧ ∀ j, j < i → (B.getD (9 + 37 * j) 0).toNat ≤ 1) 0 [(8, _), (31, _), (7, _), (16, _), (5, _), (4, _), (2, _), (0, _)] ⟨rfl, rfl, rfl, rfl, rfl, rfl, rfl, rfl, trivial⟩ [0] rfl [] rfl (⟨Nat.zero_le _, fun j hj => absurd hj (Nat.not_lt_zero _)⟩) ⟨rfl, rfl, trivial⟩ (fun i ⟨hi2, hbs⟩ => ?_)
          refine hseq <| hreg <| hy (fun _ => y_lss rfl rfl) <| hend <| hthen <| hseq <| ?_
          refine hif rfl (fun hlt => ?_) (fun hlt => ?_)
          · have hi : i < 2 := by omega
            have hput := rpart_put h83 hi
            have hRl : (B.drop (9 + 37 * i)).length = 74 - 37 * i := by rw [List.length_drop]; omega
            have hR0 : (B.drop (9 + 37 * i)).getD 0 0 = B.getD (9 + 37 * i) 0 := by simp [List.getD]
            have hRn : (B.drop (9 + 37 * i)).drop 37 = B.drop (9 + 37 * (i + 1)) := by rw [List.drop_drop]; congr 1
            generalize B.drop (9 + 37 * i) = R at hput hRl hR0 hRn ⊢
            have hsR := strOf_size R
            have hbR := (R.getD 0 0).toNat_lt
            refine hcskip <| hthen <| hseq <| hblock <| hseq <| hreg <| hy (fun _ => y_move rfl) <| hy (fun _ => y_assign rfl) <| hend <| hsub (ρ' := [(9, _), (43, _), (6, _), (42, _), (8, _), (31, _), (7, _), (16, _), (5, _), (4, _), (2, _), (0, _)]) ⟨rfl, rfl, rfl, rfl, rfl, rfl, rfl, rfl, rfl, rfl, rfl, rfl, trivial⟩ <| hthen <| hseq <| hseq <| hreg <| hy (fun _ => y_move rfl) <| hy (fun _ => y_idxStr rfl rfl Tryz.underlying9 (show ((0 : Nat) : Int) = 0 from rfl) (strOf_at (by omega))) <| hy (fun _ => y_gtr rfl rfl) <| hend <| hsub (ρ' := [(47, _), (9, _), (43, _), (6, _), (42, _), (8, _), (31, _), (7, _), (16, _), (5, _), (4, _), (2, _), (0, _)]) ⟨rfl, rfl, rfl, rfl, rfl, rfl, rfl, rfl, rfl, rfl, rfl, rfl, rfl, trivial⟩ <| hthen <| ?_
            refine hif rfl (fun hbig => ?_) (fun hbig => ?_)
            · refine hseq <| hreg <| hy (fun _ => y_build0 ti38 rfl (by kernel_rfl)) <| ?_
              have hno : ¬ rdOk B := fun hb => by
                have h1 := hb.2.2.1
                have h2 := hb.2.2.2.1
                have h3 : (B.getD (9 + 37 * i) 0).toNat ≤ 1 := match i, hi with | 0, _ => h1 | 1, _ => h2
                rw [← hR0] at h3
                omega
              rw [hbad hno]
              refine hx0 (xh_stA 2 rfl rfl rfl sz38 (Sup.cs_len Sup.zero_wf) (Sup.cs_one (s := Sup.zero)) rfl ?_)
              refine hy (fun _ => y_assign rfl) <| hend <| hsub (ρ' := [(3, _), (47, _), (9, _), (43, _), (6, _), (42, _), (8, _), (31, _), (7, _), (16, _), (5, _), (4, _), (2, _), (0, _)]) ⟨rfl, rfl, rfl, rfl, rfl, rfl, rfl, rfl, rfl, rfl, rfl, rfl, rfl, rfl, trivial⟩ <| hmemQ (X' := [_, _, _]) (S' := [_]) (fun _ m => m) <| hthen <| hret <| hthen_ret <| hqblock_ret <| hthen_ret <| hthen_ret <| hqblock_ret <| hthen_ret <| ?_
              exact hretN1 trivial rfl rfl rfl ag38 sz38 (Sup.cs_len Sup.zero_wf) (fun m => (m.blk 0 rfl).cells0) [] rfl [] rfl ⟨rfl, rfl, rfl⟩
            · have eb : (((R.getD 0 0).toNat : Int) = 1) ↔ R.getD 0 0 = 1 := by
                constructor
                · intro h; exact UInt8.toNat_inj.1 (by rw [show (1 : UInt8).toNat = 1 from rfl]; omega)
                · intro h; rw [h]; rfl
              have hwR : (rdSl R).wf := rdSl_wf (by omega)
              have hiL := hwR.len
              have e55 : bytesOf (strOf (rdSl R).image) = (rdSl R).image := bytesOf_strOf _
              have l55 : (bytesOf (strOf (rdSl R).image)).length = 32 := by rw [e55, hiL]
              refine hcskip <| hthen <| hseq <| hdrwP [6, 8, 11, 15] (.take 0 3 <| .take 1 3 <| .take 2 3 <| .take 3 3 <| .take 4 3 <| .take 5 3 <| .take 9 2 <| .take 10 2 <| .take 13 3 <| .alt 6 (.take 7 3 <| .alt 8 (.alt 11 (.take 12 3 <| .take 14 3 <| .alt 15 (.done) (.stop)) (.stop)) (.alt 11 (.alt 8 (.take 12 3 <| .take 14 3 <| .alt 15 (.done) (.stop)) (.stop)) (.stop))) (.alt 11 (.alt 6 (.take 7 3 <| .alt 8 (.take 12 3 <| .take 14 3 <| .alt 15 (.done) (.stop)) (.stop)) (.stop)) (.stop))) (by kernel_rfl) (by kernel_rfl) rfl 3 <| hpyU (y_move rfl) <| hpyU (y_move rfl) <| hpyU (y_idxStr rfl rfl Tryz.underlying9 (show ((0 : Nat) : Int) = 0 from rfl) (strOf_at (by omega))) <| hpyU (yV (y_eql rfl rfl) ((show Value.bool (decide (((R.getD 0 0).toNat : Int) = 1)) = .bool (rdSl R).full from congrArg Value.bool (decide_eq_decide.2 eb)))) <| hpyU (y_move rfl) <| hpyU (yV (y_strBoth rfl rfl rfl Tryz.underlying9 (show ((1 : Nat) : Int) = 1 from rfl) (show ((33 : Nat) : Int) = 33 from rfl) (by decide) (by rw [bytesOf_strOf]; omega)) ((show Value.string (strOf (((bytesOf (strOf R)).take 33).drop 1)) = .string (strOf (rdSl R).image) by rw [bytesOf_strOf, List.drop_take]; rfl))) <| hpyU (y_move rfl) <| hpyU (yV (y_strFrom rfl rfl Tryz.underlying9 (show ((33 : Nat) : Int) = 33 from rfl) (by rw [bytesOf_strOf]; omega)) ((show Value.string (strOf ((bytesOf (strOf R)).drop 33)) = .string (strOf (R.drop 33)) by rw [bytesOf_strOf]))) <| hpyU (y_fld rfl fa38_2 (by decide)) <| ?_
              have hbs' : ∀ j, j < i + 1 → (B.getD (9 + 37 * j) 0).toNat ≤ 1 := fun j hj => by
                rcases Nat.lt_succ_iff_lt_or_eq.1 hj with h1 | h1
                · exact hbs j h1
                · rw [h1, ← hR0]; omega
              refine hpfork ?_ ?_
              · refine hpx (xh_s2b rfl Tryz.underlying9 Tryz.underlying27 Tryz.underlying5 (by rw [bytesOf_strOf, hiL]; decide) (fun v55 => ⟨(fun _ => wk [1, 1, 1] [0] rfl rfl), ?_⟩))
                refine hpfact (fun m => (m.own 0 rfl).slice) ?_
                rintro ⟨A_b55, c_b55, rfl, hc_b55⟩
                refine hpfact (fun m => (m.ord 0 rfl).2.1) fun hA_b55 => ?_
                refine hpfact (fun m => (m.ord 0 rfl).some (by rw [e55, hiL]; decide)) fun h_ => ?_
                obtain ⟨a55, rfl⟩ : ∃ a_, A_b55 = some a_ := ⟨_, h_⟩
                clear h_
                refine hpyU (y_arrAt rfl Tryz.underlying33 (by omega)) <| ?_
                refine hpfork ?_ ?_
                · refine hpx <| xh_y (fun m => yV (y_ldN rfl ag33 sz33 (by rw [b8s_length]; exact hiL) ((m.ord 0 rfl).2.2)) ((rfl : Value.agg _ = .agg (b8s (rdSl R).image).toArray))) <| And.intro (fun _ => wk [1, 1, 1] [0] rfl rfl) <| ?_
                  refine hpx (xh_call rfl Tryz.call131 (valueC (by rw [List.length_drop]; omega) (l := (R.drop 33))) [] rfl [] rfl ?_)
                  rintro _ _ _ ⟨rfl, rfl, rfl⟩
                  refine ⟨(fun _ => wk [1, 1, 1] [0] rfl rfl), ?_⟩
                  refine hpyU (y_build ti35 rfl rfl (by kernel_rfl) (bld_sl (x := rdSl R) hiL rfl pl35_0 pl35_1 pl35_2)) <| hpyU (y_idxA rfl rfl Tryz.underlying36 sz35 (show ((i : Nat) : Int) = _ by omega) (by omega)) <| ?_
                  refine hpx0 (xh_stNa 1 rfl rfl rfl sz35 (Sl.cs_len hwR) Sl.cs_one (by rw [Sup.cs_len (rpart_wf h83 i)]; dsimp only; omega) ⟨(fun h => absurd h (by decide)), ?_⟩)
                  refine hpmem (fun w m => m.eqX 0 rfl (show _ = RBlk g8 38 (rpart B (i + 1)).cs from by rw [hput])) ?_
                  refine hpend <| hsub (ρ' := [(47, _), (9, _), (43, _), (6, _), (42, _), (8, _), (31, _), (7, _), (16, _), (5, _), (4, _), (2, _), (0, _)]) ⟨rfl, rfl, rfl, rfl, rfl, rfl, rfl, rfl, rfl, rfl, rfl, rfl, rfl, trivial⟩ <| hmemQ (X' := [_, _, _, _]) (S' := [_]) (fun _ m => m) <| hthen <| hreg <| hy (fun _ => y_move rfl) <| hy (fun _ => yV (y_strFrom rfl rfl Tryz.underlying9 (show ((37 : Nat) : Int) = 37 from rfl) (by rw [bytesOf_strOf]; omega)) ((show Value.string (strOf ((bytesOf (strOf R)).drop 37)) = .string (strOf (B.drop (9 + 37 * (i + 1)))) by rw [bytesOf_strOf, hRn]))) <| hy (fun _ => y_assign rfl) <| hend <| hsub (ρ' := [(6, _), (47, _), (9, _), (43, _), (42, _), (8, _), (31, _), (7, _), (16, _), (5, _), (4, _), (2, _), (0, _)]) ⟨rfl, rfl, rfl, rfl, rfl, rfl, rfl, rfl, rfl, rfl, rfl, rfl, rfl, trivial⟩ <| hqblock <| hthen <| hreg <| hy (fun _ => y_add rfl rfl (w64 (by omega) (by omega))) <| hy (fun _ => y_move rfl) <| hend <| hsub (ρ' := [(42, _), (6, _), (47, _), (9, _), (43, _), (8, _), (31, _), (7, _), (16, _), (5, _), (4, _), (2, _), (0, _)]) ⟨rfl, rfl, rfl, rfl, rfl, rfl, rfl, rfl, rfl, rfl, rfl, rfl, rfl, trivial⟩ <| ?_
                  refine hnext1 (i + 1) ⟨rfl, rfl, rfl, rfl, rfl, rfl, rfl, rfl, rfl, rfl, trivial⟩ [0, 1, 1] rfl [0] rfl (⟨by omega, hbs'⟩) (by omega)
                · refine hpx (xh_call rfl Tryz.call131 (valueC (by rw [List.length_drop]; omega) (l := (R.drop 33))) [] rfl [] rfl ?_)
                  rintro _ _ _ ⟨rfl, rfl, rfl⟩
                  refine ⟨(fun _ => wk [1, 1, 1] [0] rfl rfl), ?_⟩
                  refine hpx <| xh_y (fun m => yV (y_ldN rfl ag33 sz33 (by rw [b8s_length]; exact hiL) ((m.ord 0 rfl).2.2)) ((rfl : Value.agg _ = .agg (b8s (rdSl R).image).toArray))) <| And.intro (fun _ => wk [1, 1, 1] [0] rfl rfl) <| hpyU (y_build ti35 rfl rfl (by kernel_rfl) (bld_sl (x := rdSl R) hiL rfl pl35_0 pl35_1 pl35_2)) <| hpyU (y_idxA rfl rfl Tryz.underlying36 sz35 (show ((i : Nat) : Int) = _ by omega) (by omega)) <| ?_
                  refine hpx0 (xh_stNa 1 rfl rfl rfl sz35 (Sl.cs_len hwR) Sl.cs_one (by rw [Sup.cs_len (rpart_wf h83 i)]; dsimp only; omega) ⟨(fun h => absurd h (by decide)), ?_⟩)
                  refine hpmem (fun w m => m.eqX 0 rfl (show _ = RBlk g8 38 (rpart B (i + 1)).cs from by rw [hput])) ?_
                  refine hpend <| hsub (ρ' := [(47, _), (9, _), (43, _), (6, _), (42, _), (8, _), (31, _), (7, _), (16, _), (5, _), (4, _), (2, _), (0, _)]) ⟨rfl, rfl, rfl, rfl, rfl, rfl, rfl, rfl, rfl, rfl, rfl, rfl, rfl, trivial⟩ <| hmemQ (X' := [_, _, _, _]) (S' := [_]) (fun _ m => m) <| hthen <| hreg <| hy (fun _ => y_move rfl) <| hy (fun _ => yV (y_strFrom rfl rfl Tryz.underlying9 (show ((37 : Nat) : Int) = 37 from rfl) (by rw [bytesOf_strOf]; omega)) ((show Value.string (strOf ((bytesOf (strOf R)).drop 37)) = .string (strOf (B.drop (9 + 37 * (i + 1)))) by rw [bytesOf_strOf, hRn]))) <| hy (fun _ => y_assign rfl) <| hend <| hsub (ρ' := [(6, _), (47, _), (9, _), (43, _), (42, _), (8, _), (31, _), (7, _), (16, _), (5, _), (4, _), (2, _), (0, _)]) ⟨rfl, rfl, rfl, rfl, rfl, rfl, rfl, rfl, rfl, rfl, rfl, rfl, rfl, trivial⟩ <| hqblock <| hthen <| hreg <| hy (fun _ => y_add rfl rfl (w64 (by omega) (by omega))) <| hy (fun _ => y_move rfl) <| hend <| hsub (ρ' := [(42, _), (6, _), (47, _), (9, _), (43, _), (8, _), (31, _), (7, _), (16, _), (5, _), (4, _), (2, _), (0, _)]) ⟨rfl, rfl, rfl, rfl, rfl, rfl, rfl, rfl, rfl, rfl, rfl, rfl, rfl, trivial⟩ <| ?_
                  refine hnext1 (i + 1) ⟨rfl, rfl, rfl, rfl, rfl, rfl, rfl, rfl, rfl, rfl, trivial⟩ [0, 1, 1] rfl [0] rfl (⟨by omega, hbs'⟩) (by omega)
              · refine hpx (xh_call rfl Tryz.call131 (valueC (by rw [List.length_drop]; omega) (l := (R.drop 33))) [] rfl [] rfl ?_)
                rintro _ _ _ ⟨rfl, rfl, rfl⟩
                refine ⟨(fun _ => wk [0, 0, 0] [0] rfl rfl), ?_⟩
                refine hpx (xh_s2b rfl Tryz.underlying9 Tryz.underlying27 Tryz.underlying5 (by rw [bytesOf_strOf, hiL]; decide) (fun v55 => ⟨(fun _ => wk [1, 1, 1] [0] rfl rfl), ?_⟩))
                refine hpfact (fun m => (m.own 0 rfl).slice) ?_
                rintro ⟨A_b55, c_b55, rfl, hc_b55⟩
                refine hpfact (fun m => (m.ord 0 rfl).2.1) fun hA_b55 => ?_
                refine hpfact (fun m => (m.ord 0 rfl).some (by rw [e55, hiL]; decide)) fun h_ => ?_
                obtain ⟨a55, rfl⟩ : ∃ a_, A_b55 = some a_ := ⟨_, h_⟩
                clear h_
                refine hpyU (y_arrAt rfl Tryz.underlying33 (by omega)) <| hpx <| xh_y (fun m => yV (y_ldN rfl ag33 sz33 (by rw [b8s_length]; exact hiL) ((m.ord 0 rfl).2.2)) ((rfl : Value.agg _ = .agg (b8s (rdSl R).image).toArray))) <| And.intro (fun _ => wk [1, 1, 1] [0] rfl rfl) <| hpyU (y_build ti35 rfl rfl (by kernel_rfl) (bld_sl (x := rdSl R) hiL rfl pl35_0 pl35_1 pl35_2)) <| hpyU (y_idxA rfl rfl Tryz.underlying36 sz35 (show ((i : Nat) : Int) = _ by omega) (by omega)) <| ?_
                refine hpx0 (xh_stNa 1 rfl rfl rfl sz35 (Sl.cs_len hwR) Sl.cs_one (by rw [Sup.cs_len (rpart_wf h83 i)]; dsimp only; omega) ⟨(fun h => absurd h (by decide)), ?_⟩)
                refine hpmem (fun w m => m.eqX 0 rfl (show _ = RBlk g8 38 (rpart B (i + 1)).cs from by rw [hput])) ?_
                refine hpend <| hsub (ρ' := [(47, _), (9, _), (43, _), (6, _), (42, _), (8, _), (31, _), (7, _), (16, _), (5, _), (4, _), (2, _), (0, _)]) ⟨rfl, rfl, rfl, rfl, rfl, rfl, rfl, rfl, rfl, rfl, rfl, rfl, rfl, trivial⟩ <| hmemQ (X' := [_, _, _, _]) (S' := [_]) (fun _ m => m) <| hthen <| hreg <| hy (fun _ => y_move rfl) <| hy (fun _ => yV (y_strFrom rfl rfl Tryz.underlying9 (show ((37 : Nat) : Int) = 37 from rfl) (by rw [bytesOf_strOf]; omega)) ((show Value.string (strOf ((bytesOf (strOf R)).drop 37)) = .string (strOf (B.drop (9 + 37 * (i + 1)))) by rw [bytesOf_strOf, hRn]))) <| hy (fun _ => y_assign rfl) <| hend <| hsub (ρ' := [(6, _), (47, _), (9, _), (43, _), (42, _), (8, _), (31, _), (7, _), (16, _), (5, _), (4, _), (2, _), (0, _)]) ⟨rfl, rfl, rfl, rfl, rfl, rfl, rfl, rfl, rfl, rfl, rfl, rfl, rfl, trivial⟩ <| hqblock <| hthen <| hreg <| hy (fun _ => y_add rfl rfl (w64 (by omega) (by omega))) <| hy (fun _ => y_move rfl) <| hend <| hsub (ρ' := [(42, _), (6, _), (47, _), (9, _), (43, _), (8, _), (31, _), (7, _), (16, _), (5, _), (4, _), (2, _), (0, _)]) ⟨rfl, rfl, rfl, rfl, rfl, rfl, rfl, rfl, rfl, rfl, rfl, rfl, rfl, trivial⟩ <| ?_
                refine hnext1 (i + 1) ⟨rfl, rfl, rfl, rfl, rfl, rfl, rfl, rfl, rfl, rfl, trivial⟩ [0, 1, 1] rfl [0] rfl (⟨by omega, hbs'⟩) (by omega)
          · obtain rfl : i = 2 := by omega
            refine hmemC (fun w m => m.eqX 0 rfl (show _ = RBlk g8 38 (rdBody B).cs from rfl)) ?_
            refine hexit <| hthen_exit <| hthen_exit <| hqblock_exit <| hthen <| hseq <| hseq <| hreg <| hy (fun m => yV (y_ldN rfl ag38 sz38 (Sup.cs_len (rdBody_wf h83)) ((m.blk 0 rfl).cells0)) ((rfl : _ = Value.agg (rdBody B).cs.toArray))) <| ?_
            refine hx (xh_call rfl Tryz.call132 (maySC (rdBody_wf h83)) [] rfl [] rfl ?_)
            rintro _ _ _ ⟨rfl, rfl, rfl⟩
            refine hy (fun _ => y_notp rfl) <| hend <| hsub (ρ' := [(69, _), (43, _), (6, _), (42, _), (8, _), (31, _), (7, _), (16, _), (5, _), (4, _), (2, _), (0, _)]) ⟨rfl, rfl, rfl, rfl, rfl, rfl, rfl, rfl, rfl, rfl, rfl, rfl, trivial⟩ <| hmemQ (X' := [_, _, _]) (S' := [_]) (fun _ m => m) <| hthen <| ?_
            refine hif rfl (fun hm => ?_) (fun hm => ?_)
            · refine hseq <| hreg <| hy (fun _ => y_build0 ti38 rfl (by kernel_rfl)) <| ?_
              rw [hbad (fun hb => hm hb.2.2.2.2)]
              refine hx0 (xh_stA 2 rfl rfl rfl sz38 (Sup.cs_len Sup.zero_wf) (Sup.cs_one (s := Sup.zero)) rfl ?_)
              refine hy (fun _ => y_assign rfl) <| hend <| hsub (ρ' := [(3, _), (69, _), (43, _), (6, _), (42, _), (8, _), (31, _), (7, _), (16, _), (5, _), (4, _), (2, _), (0, _)]) ⟨rfl, rfl, rfl, rfl, rfl, rfl, rfl, rfl, rfl, rfl, rfl, rfl, rfl, trivial⟩ <| hmemQ (X' := [_, _, _]) (S' := [_]) (fun _ m => m) <| hthen <| hret <| hthen_ret <| ?_
              exact hretN1 trivial rfl rfl rfl ag38 sz38 (Sup.cs_len Sup.zero_wf) (fun m => (m.blk 0 rfl).cells0) [] rfl [] rfl ⟨rfl, rfl, rfl⟩
            · have hm := Decidable.not_not.1 hm
              rw [hok ⟨h83, hp', hbs 0 (by decide), hbs 1 (by decide), hm⟩]
              refine hcskip <| hthen <| hseq <| hreg <| hy (fun m => yV (y_ldN rfl ag38 sz38 (Sup.cs_len (rdBody_wf h83)) ((m.blk 0 rfl).cells0)) ((rfl : _ = Value.agg (rdBody B).cs.toArray))) <| ?_
              refine hx0 (xh_stA 2 rfl rfl rfl sz38 (Sup.cs_len (rdBody_wf h83)) (Sup.cs_one (s := rdBody B)) rfl ?_)
              refine hy (fun _ => y_assign rfl) <| hend <| hsub (ρ' := [(3, _), (69, _), (43, _), (6, _), (42, _), (8, _), (31, _), (7, _), (16, _), (5, _), (4, _), (2, _), (0, _)]) ⟨rfl, rfl, rfl, rfl, rfl, rfl, rfl, rfl, rfl, rfl, rfl, rfl, rfl, trivial⟩ <| hmemQ (X' := [_, _, _]) (S' := [_]) (fun _ m => m) <| hthen <| hret <| ?_
              exact hretN1 trivial rfl rfl rfl ag38 sz38 (Sup.cs_len (rdBody_wf h83)) (fun m => (m.blk 0 rfl).cells0) [] rfl [] rfl ⟨rfl, rfl, rfl⟩
        · refine hpx (xh_alloc ti38 (fun g8 => ⟨(fun _ => wk [1, 1] [0] rfl rfl), ?_⟩))
          refine hpx (xh_call rfl Tryz.call131 (valueC (by rw [List.length_drop]; omega) (l := (B.drop 5))) [] rfl [] rfl ?_)
          rintro _ _ _ ⟨rfl, rfl, rfl⟩
          refine ⟨(fun _ => wk [1, 1] [0] rfl rfl), ?_⟩
          refine hpyU (yV (y_build ti38 rfl rfl (by kernel_rfl) (.cons (o := 0) (sz := 1) (by kernel_rfl) rfl rfl (Nat.le_of_ble_eq_true rfl) (.cons (o := 1) (sz := 1) (by kernel_rfl) rfl rfl (Nat.le_of_ble_eq_true rfl) .nil))) ((rfl : _ = Value.agg (rpart B 0).cs.toArray))) <| ?_
          refine hpx0 (xh_stA 0 rfl rfl rfl sz38 (Sup.cs_len (rpart_wf h83 0)) (Sup.cs_one (s := rpart B 0)) rfl ⟨(fun h => absurd h (by decide)), ?_⟩)
          refine hpend <| hsub (ρ' := [(8, _), (31, _), (7, _), (6, _), (16, _), (5, _), (4, _), (3, _), (2, _), (0, _)]) ⟨rfl, rfl, rfl, rfl, rfl, rfl, rfl, rfl, rfl, rfl, trivial⟩ <| hmemQ (X' := [_, _, _]) (S' := [_]) (fun _ m => m) <| hthen <| hseq <| hreg <| hy (fun _ => y_move rfl) <| hy (fun _ => yV (y_strFrom rfl rfl Tryz.underlying9 (show ((5 : Nat) : Int) = 5 from rfl) (by rw [bytesOf_strOf]; omega)) ((show Value.string (strOf ((bytesOf (strOf (B.drop 4))).drop 5)) = .string (strOf (B.drop (9 + 37 * 0))) by rw [bytesOf_strOf, List.drop_drop]))) <| hy (fun _ => y_assign rfl) <| hend <| hsub (ρ' := [(6, _), (8, _), (31, _), (7, _), (16, _), (5, _), (4, _), (3, _), (2, _), (0, _)]) ⟨rfl, rfl, rfl, rfl, rfl, rfl, rfl, rfl, rfl, rfl, trivial⟩ <| hthen <| hseq <| hseq <| hreg <| hy (fun _ => y_move rfl) <| hend <| hthen <| hblock <| ?_
          refine hloop1 (fun i => 2 - i) (fun i => [(6, .string (strOf (B.drop (9 + 37 * i)))), (42, .int .i64 (i : Nat))]) (fun i => [RBlk g8 38 (rpart B i).cs]) (fun i => []) (fun i => i ≤ 2 ∧ ∀ j, j < i → (B.getD (9 + 37 * j) 0).toNat ≤ 1) 0 [(8, _), (31, _), (7, _), (16, _), (5, _), (4, _), (2, _), (0, _)] ⟨rfl, rfl, rfl, rfl, rfl, rfl, rfl, rfl, trivial⟩ [0] rfl [] rfl (⟨Nat.zero_le _, fun j hj => absurd hj (Nat.not_lt_zero _)⟩) ⟨rfl, rfl, trivial⟩ (fun i ⟨hi2, hbs⟩ => ?_)
          refine hseq <| hreg <| hy (fun _ => y_lss rfl rfl) <| hend <| hthen <| hseq <| ?_
          refine hif rfl (fun hlt => ?_) (fun hlt => ?_)
          · have hi : i < 2 := by omega
            have hput := rpart_put h83 hi
            have hRl : (B.drop (9 + 37 * i)).length = 74 - 37 * i := by rw [List.length_drop]; omega
            have hR0 : (B.drop (9 + 37 * i)).getD 0 0 = B.getD (9 + 37 * i) 0 := by simp [List.getD]
            have hRn : (B.drop (9 + 37 * i)).drop 37 = B.drop (9 + 37 * (i + 1)) := by rw [List.drop_drop]; congr 1
            generalize B.drop (9 + 37 * i) = R at hput hRl hR0 hRn ⊢
            have hsR := strOf_size R
            have hbR := (R.getD 0 0).toNat_lt
            refine hcskip <| hthen <| hseq <| hblock <| hseq <| hreg <| hy (fun _ => y_move rfl) <| hy (fun _ => y_assign rfl) <| hend <| hsub (ρ' := [(9, _), (43, _), (6, _), (42, _), (8, _), (31, _), (7, _), (16, _), (5, _), (4, _), (2, _), (0, _)]) ⟨rfl, rfl, rfl, rfl, rfl, rfl, rfl, rfl, rfl, rfl, rfl, rfl, trivial⟩ <| hthen <| hseq <| hseq <| hreg <| hy (fun _ => y_move rfl) <| hy (fun _ => y_idxStr rfl rfl Tryz.underlying9 (show ((0 : Nat) : Int) = 0 from rfl) (strOf_at (by omega))) <| hy (fun _ => y_gtr rfl rfl) <| hend <| hsub (ρ' := [(47, _), (9, _), (43, _), (6, _), (42, _), (8, _), (31, _), (7, _), (16, _), (5, _), (4, _), (2, _), (0, _)]) ⟨rfl, rfl, rfl, rfl, rfl, rfl, rfl, rfl, rfl, rfl, rfl, rfl, rfl, trivial⟩ <| hthen <| ?_
            refine hif rfl (fun hbig => ?_) (fun hbig => ?_)
            · refine hseq <| hreg <| hy (fun _ => y_build0 ti38 rfl (by kernel_rfl)) <| ?_
              have hno : ¬ rdOk B := fun hb => by
                have h1 := hb.2.2.1
                have h2 := hb.2.2.2.1
                have h3 : (B.getD (9 + 37 * i) 0).toNat ≤ 1 := match i, hi with | 0, _ => h1 | 1, _ => h2
                rw [← hR0] at h3
                omega
              rw [hbad hno]
              refine hx0 (xh_stA 2 rfl rfl rfl sz38 (Sup.cs_len Sup.zero_wf) (Sup.cs_one (s := Sup.zero)) rfl ?_)
              refine hy (fun _ => y_assign rfl) <| hend <| hsub (ρ' := [(3, _), (47, _), (9, _), (43, _), (6, _), (42, _), (8, _), (31, _), (7, _), (16, _), (5, _), (4, _), (2, _), (0, _)]) ⟨rfl, rfl, rfl, rfl, rfl, rfl, rfl, rfl, rfl, rfl, rfl, rfl, rfl, rfl, trivial⟩ <| hmemQ (X' := [_, _, _]) (S' := [_]) (fun _ m => m) <| hthen <| hret <| hthen_ret <| hqblock_ret <| hthen_ret <| hthen_ret <| hqblock_ret <| hthen_ret <| ?_
              exact hretN1 trivial rfl rfl rfl ag38 sz38 (Sup.cs_len Sup.zero_wf) (fun m => (m.blk 0 rfl).cells0) [] rfl [] rfl ⟨rfl, rfl, rfl⟩
            · have eb : (((R.getD 0 0).toNat : Int) = 1) ↔ R.getD 0 0 = 1 := by
                constructor
                · intro h; exact UInt8.toNat_inj.1 (by rw [show (1 : UInt8).toNat = 1 from rfl]; omega)
                · intro h; rw [h]; rfl
              have hwR : (rdSl R).wf := rdSl_wf (by omega)
              have hiL := hwR.len
              have e55 : bytesOf (strOf (rdSl R).image) = (rdSl R).image := bytesOf_strOf _
              have l55 : (bytesOf (strOf (rdSl R).image)).length = 32 := by rw [e55, hiL]
              refine hcskip <| hthen <| hseq <| hdrwP [6, 8, 11, 15] (.take 0 3 <| .take 1 3 <| .take 2 3 <| .take 3 3 <| .take 4 3 <| .take 5 3 <| .take 9 2 <| .take 10 2 <| .take 13 3 <| .alt 6 (.take 7 3 <| .alt 8 (.alt 11 (.take 12 3 <| .take 14 3 <| .alt 15 (.done) (.stop)) (.stop)) (.alt 11 (.alt 8 (.take 12 3 <| .take 14 3 <| .alt 15 (.done) (.stop)) (.stop)) (.stop))) (.alt 11 (.alt 6 (.take 7 3 <| .alt 8 (.take 12 3 <| .take 14 3 <| .alt 15 (.done) (.stop)) (.stop)) (.stop)) (.stop))) (by kernel_rfl) (by kernel_rfl) rfl 3 <| hpyU (y_move rfl) <| hpyU (y_move rfl) <| hpyU (y_idxStr rfl rfl Tryz.underlying9 (show ((0 : Nat) : Int) = 0 from rfl) (strOf_at (by omega))) <| hpyU (yV (y_eql rfl rfl) ((show Value.bool (decide (((R.getD 0 0).toNat : Int) = 1)) = .bool (rdSl R).full from congrArg Value.bool (decide_eq_decide.2 eb)))) <| hpyU (y_move rfl) <| hpyU (yV (y_strBoth rfl rfl rfl Tryz.underlying9 (show ((1 : Nat) : Int) = 1 from rfl) (show ((33 : Nat) : Int) = 33 from rfl) (by decide) (by rw [bytesOf_strOf]; omega)) ((show Value.string (strOf (((bytesOf (strOf R)).take 33).drop 1)) = .string (strOf (rdSl R).image) by rw [bytesOf_strOf, List.drop_take]; rfl))) <| hpyU (y_move rfl) <| hpyU (yV (y_strFrom rfl rfl Tryz.underlying9 (show ((33 : Nat) : Int) = 33 from rfl) (by rw [bytesOf_strOf]; omega)) ((show Value.string (strOf ((bytesOf (strOf R)).drop 33)) = .string (strOf (R.drop 33)) by rw [bytesOf_strOf]))) <| hpyU (y_fld rfl fa38_2 (by decide)) <| ?_
              have hbs' : ∀ j, j < i + 1 → (B.getD (9 + 37 * j) 0).toNat ≤ 1 := fun j hj => by
                rcases Nat.lt_succ_iff_lt_or_eq.1 hj with h1 | h1
                · exact hbs j h1
                · rw [h1, ← hR0]; omega
              refine hpfork ?_ ?_
              · refine hpx (xh_s2b rfl Tryz.underlying9 Tryz.underlying27 Tryz.underlying5 (by rw [bytesOf_strOf, hiL]; decide) (fun v55 => ⟨(fun _ => wk [1, 1, 1] [0] rfl rfl), ?_⟩))
                refine hpfact (fun m => (m.own 0 rfl).slice) ?_
                rintro ⟨A_b55, c_b55, rfl, hc_b55⟩
                refine hpfact (fun m => (m.ord 0 rfl).2.1) fun hA_b55 => ?_
                refine hpfact (fun m => (m.ord 0 rfl).some (by rw [e55, hiL]; decide)) fun h_ => ?_
                obtain ⟨a55, rfl⟩ : ∃ a_, A_b55 = some a_ := ⟨_, h_⟩
                clear h_
                refine hpyU (y_arrAt rfl Tryz.underlying33 (by omega)) <| ?_
                refine hpfork ?_ ?_
                · refine hpx <| xh_y (fun m => yV (y_ldN rfl ag33 sz33 (by rw [b8s_length]; exact hiL) ((m.ord 0 rfl).2.2)) ((rfl : Value.agg _ = .agg (b8s (rdSl R).image).toArray))) <| And.intro (fun _ => wk [1, 1, 1] [0] rfl rfl) <| ?_
                  refine hpx (xh_call rfl Tryz.call131 (valueC (by rw [List.length_drop]; omega) (l := (R.drop 33))) [] rfl [] rfl ?_)
                  rintro _ _ _ ⟨rfl, rfl, rfl⟩
                  refine ⟨(fun _ => wk [1, 1, 1] [0] rfl rfl), ?_⟩
                  refine hpyU (y_build ti35 rfl rfl (by kernel_rfl) (bld_sl (x := rdSl R) hiL rfl pl35_0 pl35_1 pl35_2)) <| hpyU (y_idxA rfl rfl Tryz.underlying36 sz35 (show ((i : Nat) : Int) = _ by omega) (by omega)) <| ?_
                  refine hpx0 (xh_stNa 1 rfl rfl rfl sz35 (Sl.cs_len hwR) Sl.cs_one (by rw [Sup.cs_len (rpart_wf h83 i)]; dsimp only; omega) ⟨(fun h => absurd h (by decide)), ?_⟩)
                  refine hpmem (fun w m => m.eqX 0 rfl (show _ = RBlk g8 38 (rpart B (i + 1)).cs from by rw [hput])) ?_
                  refine hpend <| hsub (ρ' := [(47, _), (9, _), (43, _), (6, _), (42, _), (8, _), (31, _), (7, _), (16, _), (5, _), (4, _), (2, _), (0, _)]) ⟨rfl, rfl, rfl, rfl, rfl, rfl, rfl, rfl, rfl, rfl, rfl, rfl, rfl, trivial⟩ <| hmemQ (X' := [_, _, _, _]) (S' := [_]) (fun _ m => m) <| hthen <| hreg <| hy (fun _ => y_move rfl) <| hy (fun _ => yV (y_strFrom rfl rfl Tryz.underlying9 (show ((37 : Nat) : Int) = 37 from rfl) (by rw [bytesOf_strOf]; omega)) ((show Value.string (strOf ((bytesOf (strOf R)).drop 37)) = .string (strOf (B.drop (9 + 37 * (i + 1)))) by rw [bytesOf_strOf, hRn]))) <| hy (fun _ => y_assign rfl) <| hend <| hsub (ρ' := [(6, _), (47, _), (9, _), (43, _), (42, _), (8, _), (31, _), (7, _), (16, _), (5, _), (4, _), (2, _), (0, _)]) ⟨rfl, rfl, rfl, rfl, rfl, rfl, rfl, rfl, rfl, rfl, rfl, rfl, rfl, trivial⟩ <| hqblock <| hthen <| hreg <| hy (fun _ => y_add rfl rfl (w64 (by omega) (by omega))) <| hy (fun _ => y_move rfl) <| hend <| hsub (ρ' := [(42, _), (6, _), (47, _), (9, _), (43, _), (8, _), (31, _), (7, _), (16, _), (5, _), (4, _), (2, _), (0, _)]) ⟨rfl, rfl, rfl, rfl, rfl, rfl, rfl, rfl, rfl, rfl, rfl, rfl, rfl, trivial⟩ <| ?_
                  refine hnext1 (i + 1) ⟨rfl, rfl, rfl, rfl, rfl, rfl, rfl, rfl, rfl, rfl, trivial⟩ [0, 1, 1] rfl [0] rfl (⟨by omega, hbs'⟩) (by omega)
                · refine hpx (xh_call rfl Tryz.call131 (valueC (by rw [List.length_drop]; omega) (l := (R.drop 33))) [] rfl [] rfl ?_)
                  rintro _ _ _ ⟨rfl, rfl, rfl⟩
                  refine ⟨(fun _ => wk [1, 1, 1] [0] rfl rfl), ?_⟩
                  refine hpx <| xh_y (fun m => yV (y_ldN rfl ag33 sz33 (by rw [b8s_length]; exact hiL) ((m.ord 0 rfl).2.2)) ((rfl : Value.agg _ = .agg (b8s (rdSl R).image).toArray))) <| And.intro (fun _ => wk [1, 1, 1] [0] rfl rfl) <| hpyU (y_build ti35 rfl rfl (by kernel_rfl) (bld_sl (x := rdSl R) hiL rfl pl35_0 pl35_1 pl35_2)) <| hpyU (y_idxA rfl rfl Tryz.underlying36 sz35 (show ((i : Nat) : Int) = _ by omega) (by omega)) <| ?_
                  refine hpx0 (xh_stNa 1 rfl rfl rfl sz35 (Sl.cs_len hwR) Sl.cs_one (by rw [Sup.cs_len (rpart_wf h83 i)]; dsimp only; omega) ⟨(fun h => absurd h (by decide)), ?_⟩)
                  refine hpmem (fun w m => m.eqX 0 rfl (show _ = RBlk g8 38 (rpart B (i + 1)).cs from by rw [hput])) ?_
                  refine hpend <| hsub (ρ' := [(47, _), (9, _), (43, _), (6, _), (42, _), (8, _), (31, _), (7, _), (16, _), (5, _), (4, _), (2, _), (0, _)]) ⟨rfl, rfl, rfl, rfl, rfl, rfl, rfl, rfl, rfl, rfl, rfl, rfl, rfl, trivial⟩ <| hmemQ (X' := [_, _, _, _]) (S' := [_]) (fun _ m => m) <| hthen <| hreg <| hy (fun _ => y_move rfl) <| hy (fun _ => yV (y_strFrom rfl rfl Tryz.underlying9 (show ((37 : Nat) : Int) = 37 from rfl) (by rw [bytesOf_strOf]; omega)) ((show Value.string (strOf ((bytesOf (strOf R)).drop 37)) = .string (strOf (B.drop (9 + 37 * (i + 1)))) by rw [bytesOf_strOf, hRn]))) <| hy (fun _ => y_assign rfl) <| hend <| hsub (ρ' := [(6, _), (47, _), (9, _), (43, _), (42, _), (8, _), (31, _), (7, _), (16, _), (5, _), (4, _), (2, _), (0, _)]) ⟨rfl, rfl, rfl, rfl, rfl, rfl, rfl, rfl, rfl, rfl, rfl, rfl, rfl, trivial⟩ <| hqblock <| hthen <| hreg <| hy (fun _ => y_add rfl rfl (w64 (by omega) (by omega))) <| hy (fun _ => y_move rfl) <| hend <| hsub (ρ' := [(42, _), (6, _), (47, _), (9, _), (43, _), (8, _), (31, _), (7, _), (16, _), (5, _), (4, _), (2, _), (0, _)]) ⟨rfl, rfl, rfl, rfl, rfl, rfl, rfl, rfl, rfl, rfl, rfl, rfl, rfl, trivial⟩ <| ?_
                  refine hnext1 (i + 1) ⟨rfl, rfl, rfl, rfl, rfl, rfl, rfl, rfl, rfl, rfl, trivial⟩ [0, 1, 1] rfl [0] rfl (⟨by omega, hbs'⟩) (by omega)
              · refine hpx (xh_call rfl Tryz.call131 (valueC (by rw [List.length_drop]; omega) (l := (R.drop 33))) [] rfl [] rfl ?_)
                rintro _ _ _ ⟨rfl, rfl, rfl⟩
                refine ⟨(fun _ => wk [0, 0, 0] [0] rfl rfl), ?_⟩
                refine hpx (xh_s2b rfl Tryz.underlying9 Tryz.underlying27 Tryz.underlying5 (by rw [bytesOf_strOf, hiL]; decide) (fun v55 => ⟨(fun _ => wk [1, 1, 1] [0] rfl rfl), ?_⟩))
                refine hpfact (fun m => (m.own 0 rfl).slice) ?_
                rintro ⟨A_b55, c_b55, rfl, hc_b55⟩
                refine hpfact (fun m => (m.ord 0 rfl).2.1) fun hA_b55 => ?_
                refine hpfact (fun m => (m.ord 0 rfl).some (by rw [e55, hiL]; decide)) fun h_ => ?_
                obtain ⟨a55, rfl⟩ : ∃ a_, A_b55 = some a_ := ⟨_, h_⟩
                clear h_
                refine hpyU (y_arrAt rfl Tryz.underlying33 (by omega)) <| hpx <| xh_y (fun m => yV (y_ldN rfl ag33 sz33 (by rw [b8s_length]; exact hiL) ((m.ord 0 rfl).2.2)) ((rfl : Value.agg _ = .agg (b8s (rdSl R).image).toArray))) <| And.intro (fun _ => wk [1, 1, 1] [0] rfl rfl) <| hpyU (y_build ti35 rfl rfl (by kernel_rfl) (bld_sl (x := rdSl R) hiL rfl pl35_0 pl35_1 pl35_2)) <| hpyU (y_idxA rfl rfl Tryz.underlying36 sz35 (show ((i : Nat) : Int) = _ by omega) (by omega)) <| ?_
                refine hpx0 (xh_stNa 1 rfl rfl rfl sz35 (Sl.cs_len hwR) Sl.cs_one (by rw [Sup.cs_len (rpart_wf h83 i)]; dsimp only; omega) ⟨(fun h => absurd h (by decide)), ?_⟩)
                refine hpmem (fun w m => m.eqX 0 rfl (show _ = RBlk g8 38 (rpart B (i + 1)).cs from by rw [hput])) ?_
                refine hpend <| hsub (ρ' := [(47, _), (9, _), (43, _), (6, _), (42, _), (8, _), (31, _), (7, _), (16, _), (5, _), (4, _), (2, _), (0, _)]) ⟨rfl, rfl, rfl, rfl, rfl, rfl, rfl, rfl, rfl, rfl, rfl, rfl, rfl, trivial⟩ <| hmemQ (X' := [_, _, _, _]) (S' := [_]) (fun _ m => m) <| hthen <| hreg <| hy (fun _ => y_move rfl) <| hy (fun _ => yV (y_strFrom rfl rfl Tryz.underlying9 (show ((37 : Nat) : Int) = 37 from rfl) (by rw [bytesOf_strOf]; omega)) ((show Value.string (strOf ((bytesOf (strOf R)).drop 37)) = .string (strOf (B.drop (9 + 37 * (i + 1)))) by rw [bytesOf_strOf, hRn]))) <| hy (fun _ => y_assign rfl) <| hend <| hsub (ρ' := [(6, _), (47, _), (9, _), (43, _), (42, _), (8, _), (31, _), (7, _), (16, _), (5, _), (4, _), (2, _), (0, _)]) ⟨rfl, rfl, rfl, rfl, rfl, rfl, rfl, rfl, rfl, rfl, rfl, rfl, rfl, trivial⟩ <| hqblock <| hthen <| hreg <| hy (fun _ => y_add rfl rfl (w64 (by omega) (by omega))) <| hy (fun _ => y_move rfl) <| hend <| hsub (ρ' := [(42, _), (6, _), (47, _), (9, _), (43, _), (8, _), (31, _), (7, _), (16, _), (5, _), (4, _), (2, _), (0, _)]) ⟨rfl, rfl, rfl, rfl, rfl, rfl, rfl, rfl, rfl, rfl, rfl, rfl, rfl, trivial⟩ <| ?_
                refine hnext1 (i + 1) ⟨rfl, rfl, rfl, rfl, rfl, rfl, rfl, rfl, rfl, rfl, trivial⟩ [0, 1, 1] rfl [0] rfl (⟨by omega, hbs'⟩) (by omega)
          · obtain rfl : i = 2 := by omega
            refine hmemC (fun w m => m.eqX 0 rfl (show _ = RBlk g8 38 (rdBody B).cs from rfl)) ?_
            refine hexit <| hthen_exit <| hthen_exit <| hqblock_exit <| hthen <| hseq <| hseq <| hreg <| hy (fun m => yV (y_ldN rfl ag38 sz38 (Sup.cs_len (rdBody_wf h83)) ((m.blk 0 rfl).cells0)) ((rfl : _ = Value.agg (rdBody B).cs.toArray))) <| ?_
            refine hx (xh_call rfl Tryz.call132 (maySC (rdBody_wf h83)) [] rfl [] rfl ?_)
            rintro _ _ _ ⟨rfl, rfl, rfl⟩
            refine hy (fun _ => y_notp rfl) <| hend <| hsub (ρ' := [(69, _), (43, _), (6, _), (42, _), (8, _), (31, _), (7, _), (16, _), (5, _), (4, _), (2, _), (0, _)]) ⟨rfl, rfl, rfl, rfl, rfl, rfl, rfl, rfl, rfl, rfl, rfl, rfl, trivial⟩ <| hmemQ (X' := [_, _, _]) (S' := [_]) (fun _ m => m) <| hthen <| ?_
            refine hif rfl (fun hm => ?_) (fun hm => ?_)
            · refine hseq <| hreg <| hy (fun _ => y_build0 ti38 rfl (by kernel_rfl)) <| ?_
              rw [hbad (fun hb => hm hb.2.2.2.2)]
              refine hx0 (xh_stA 2 rfl rfl rfl sz38 (Sup.cs_len Sup.zero_wf) (Sup.cs_one (s := Sup.zero)) rfl ?_)
              refine hy (fun _ => y_assign rfl) <| hend <| hsub (ρ' := [(3, _), (69, _), (43, _), (6, _), (42, _), (8, _), (31, _), (7, _), (16, _), (5, _), (4, _), (2, _), (0, _)]) ⟨rfl, rfl, rfl, rfl, rfl, rfl, rfl, rfl, rfl, rfl, rfl, rfl, rfl, trivial⟩ <| hmemQ (X' := [_, _, _]) (S' := [_]) (fun _ m => m) <| hthen <| hret <| hthen_ret <| ?_
              exact hretN1 trivial rfl rfl rfl ag38 sz38 (Sup.cs_len Sup.zero_wf) (fun m => (m.blk 0 rfl).cells0) [] rfl [] rfl ⟨rfl, rfl, rfl⟩
            · have hm := Decidable.not_not.1 hm
              rw [hok ⟨h83, hp', hbs 0 (by decide), hbs 1 (by decide), hm⟩]
              refine hcskip <| hthen <| hseq <| hreg <| hy (fun m => yV (y_ldN rfl ag38 sz38 (Sup.cs_len (rdBody_wf h83)) ((m.blk 0 rfl).cells0)) ((rfl : _ = Value.agg (rdBody B).cs.toArray))) <| ?_
              refine hx0 (xh_stA 2 rfl rfl rfl sz38 (Sup.cs_len (rdBody_wf h83)) (Sup.cs_one (s := rdBody B)) rfl ?_)
              refine hy (fun _ => y_assign rfl) <| hend <| hsub (ρ' := [(3, _), (69, _), (43, _), (6, _), (42, _), (8, _), (31, _), (7, _), (16, _), (5, _), (4, _), (2, _), (0, _)]) ⟨rfl, rfl, rfl, rfl, rfl, rfl, rfl, rfl, rfl, rfl, rfl, rfl, rfl, trivial⟩ <| hmemQ (X' := [_, _, _]) (S' := [_]) (fun _ m => m) <| hthen <| hret <| ?_
              exact hretN1 trivial rfl rfl rfl ag38 sz38 (Sup.cs_len (rdBody_wf h83)) (fun m => (m.blk 0 rfl).cells0) [] rfl [] rfl ⟨rfl, rfl, rfl⟩
end Go.Proofs.YtfikjheicjamhaaGreatDoor
end
section
/- Contracts: disks of the program as the document's; superblocks loaded and saved by the program (layer 22). -/
set_option linter.unusedVariables false
set_option linter.unusedSimpArgs false
set_option maxRecDepth 20000
namespace Go.Proofs.YtfikjheicjamhaaGreatDoor
open Go.Eng Go.Hx
theorem dreadC {g : Nat} {st : DSt} {d : RD} {kk : Nat} {p : List UInt8} (hD : DS st d kk) : Con Tryz.prog 63 [.pointer (some ⟨g, 0, none⟩), .string (strOf p)] [RDisk g st] [] (fun v_ X_ S_ => ∃ v, v_ = (.tuple #[v, .int .i64 (d.readE p)]) ∧ X_ = [RDisk g st, ROwn 5 1 v (d.readB p).length (b8s (d.readB p))] ∧ S_ = []) := by
  rw [hD.readE, hD.readB]
  exact readC hD.ok.sm
theorem dwriteC {g : Nat} {st : DSt} {d : RD} {kk : Nat} {p : List UInt8} {A : Option Addr} {n c : Nat} {l : List UInt8} (hD : DS st d kk) (hkk : kk ≤ 99000) (hl : l.length = n) (hn : n ≤ 1048576) : Con Tryz.prog 41 [.pointer (some ⟨g, 0, none⟩), .string (strOf p), .slice A n c] [RDisk g st] [RRd 1 A n (b8s l)] (fun v_ X_ S_ => ∃ st1, v_ = (.int .i64 (d.writeE p l)) ∧ X_ = [RDisk g st1] ∧ S_ = [] ∧ (DS st1 (d.write p l) (kk + 1))) := by
  exact Con.mono (writeC hD.ok (by omega) hn) (fun v X S h => by
    obtain ⟨st1, B, c1, A1, c2, h1, h2, h3, hw⟩ := h
    have hW := hD.write hl hn hw
    exact ⟨st1, by rw [hW.2]; exact h1, h2, h3, hW.1⟩)
theorem dsyncC {g : Nat} {st : DSt} {d : RD} {kk : Nat} (hD : DS st d kk) : Con Tryz.prog 77 [.pointer (some ⟨g, 0, none⟩)] [RDisk g st] [] (fun v_ X_ S_ => ∃ st1, v_ = (.int .i64 d.syncE) ∧ X_ = [RDisk g st1] ∧ S_ = [] ∧ (DS st1 d.sync kk)) := by
  exact Con.mono (syncC hD.ok) (fun v X S h => by
    obtain ⟨st1, gl, h1, h2, h3, hw⟩ := h
    have hW := hD.sync hw
    exact ⟨st1, by rw [hW.2]; exact h1, h2, h3, hW.1⟩)
theorem drenameC {g : Nat} {st : DSt} {d : RD} {kk : Nat} {a c : List UInt8} (hD : DS st d kk) (hkk : kk ≤ 99000) : Con Tryz.prog 74 [.pointer (some ⟨g, 0, none⟩), .string (strOf a), .string (strOf c)] [RDisk g st] [] (fun v_ X_ S_ => ∃ st1, v_ = (.int .i64 (d.renameE a c)) ∧ X_ = [RDisk g st1] ∧ S_ = [] ∧ (DS st1 (d.rename a c) (kk + 1))) := by
  exact Con.mono (renameC hD.ok (by omega)) (fun v X S h => by
    obtain ⟨st1, A, j, h1, h2, h3, hw⟩ := h
    have hW := hD.rename hw
    exact ⟨st1, by rw [hW.2]; exact h1, h2, h3, hW.1⟩)
theorem DS.rd_len {st : DSt} {d : RD} {kk : Nat} (h : DS st d kk) (p : List UInt8) : (d.readB p).length ≤ 1048576 := by
  rw [h.readB]
  by_cases he : foundE st p = 0
  · obtain ⟨r, hr⟩ := found_ok he
    rw [readB_ok he hr]
    have h1 := h.ok.small r (List.mem_append_left _ (List.mem_append_left _ (List.mem_map.2 ⟨_, aget_mem hr, rfl⟩)))
    have h2 : r.n = r.l.length := h.sim.files.len _ (aget_mem hr)
    omega
  · rw [readB_no he]; exact Nat.zero_le _
theorem loadSC {g : Nat} {st : DSt} {d : RD} {kk : Nat} (hD : DS st d kk) : Con Tryz.prog 12 [.pointer (some ⟨g, 0, none⟩)] [RDisk g st] [] (fun v_ X_ S_ => v_ = (.tuple #[.agg d.loadS.1.cs.toArray, .int .i64 d.loadS.2]) ∧ X_ = [RDisk g st] ∧ S_ = []) := by
  have hlen := hD.rd_len nSup
  refine henter (N := 19) Tryz.func12 rfl rfl (by simp) fun b => ?_
  refine hseq <| hreg <| ?_
  refine hx (xh_alloc ti38 (fun g2 => ?_))
  refine hy (fun _ => y_assign rfl) <| hend <| hmemQ (X' := [_, _]) (S' := []) (fun _ m => m) <| hthen <| hseq <| hreg <| hy (fun _ => y_move rfl) <| ?_
  refine hx (xh_call rfl Tryz.call63 (dreadC hD (p := nSup)) [1] rfl [] rfl ?_)
  rintro _ _ _ ⟨v, rfl, rfl, rfl⟩
  refine hfactL (fun m => (m.own 1 rfl).slice) ?_
  rintro ⟨A_x, c_x, rfl, hc_x⟩
  refine hfactL (fun m => (m.ord 1 rfl).2.1) fun hA_x => ?_
  refine hy (fun _ => y_move rfl) <| hy (fun _ => y_extract rfl rfl) <| hy (fun _ => y_extract rfl rfl) <| hy (fun _ => y_assign rfl) <| hy (fun _ => y_assign rfl) <| hend <| hsub (ρ' := [(5, _), (4, _), (3, _), (2, _), (0, _)]) ⟨rfl, rfl, rfl, rfl, rfl, trivial⟩ <| hmemQ (X' := [_, _, _]) (S' := []) (fun _ m => m) <| hthen <| hseq <| hseq <| hreg <| hy (fun _ => y_move rfl) <| hy (fun _ => y_neq rfl rfl) <| hend <| hsub (ρ' := [(12, _), (5, _), (4, _), (3, _), (2, _), (0, _)]) ⟨rfl, rfl, rfl, rfl, rfl, rfl, trivial⟩ <| hthen <| ?_
  refine hif rfl (fun h1 => ?_) (fun h1 => ?_)
  · rw [show d.loadS = (Sup.zero, d.readE nSup) by rw [RD.loadS, if_pos h1]]
    refine hseq <| hreg <| hy (fun _ => y_build0 ti38 rfl (by kernel_rfl)) <| hy (fun _ => y_move rfl) <| ?_
    refine hx0 (xh_stA 2 rfl rfl rfl sz38 (Sup.cs_len Sup.zero_wf) (Sup.cs_one (s := Sup.zero)) rfl ?_)
    refine hy (fun _ => y_assign rfl) <| hend <| hsub (ρ' := [(3, _), (12, _), (5, _), (4, _), (2, _), (0, _)]) ⟨rfl, rfl, rfl, rfl, rfl, rfl, trivial⟩ <| hmemQ (X' := [_, _, _]) (S' := []) (fun _ m => m) <| hthen <| hret <| hthen_ret <| ?_
    exact hretN1 trivial rfl rfl rfl ag38 sz38 (Sup.cs_len Sup.zero_wf) (fun m => (m.blk 0 rfl).cells0) [1] rfl [] rfl ⟨rfl, rfl, rfl⟩
  · rw [show d.loadS = rdSup (d.readB nSup) by rw [RD.loadS, if_neg h1]]
    have hw := rdSup_wf (d.readB nSup)
    refine hcskip <| hthen <| hseq <| hreg <| hy (fun _ => y_move rfl) <| ?_
    refine hx (xh_calll rfl Tryz.call65 (readSupC (by omega) (by omega)) [] rfl (.x 1 rfl .own .nil) ?_)
    rintro _ _ _ ⟨rfl, rfl, rfl⟩
    refine ⟨rfl, ?_⟩
    refine hy (fun _ => y_extract rfl rfl) <| hy (fun _ => y_extract rfl rfl) <| ?_
    refine hx0 (xh_stA 2 rfl rfl rfl sz38 (Sup.cs_len hw) Sup.cs_one rfl ?_)
    refine hy (fun _ => y_assign rfl) <| hend <| hsub (ρ' := [(3, _), (12, _), (5, _), (4, _), (2, _), (0, _)]) ⟨rfl, rfl, rfl, rfl, rfl, rfl, trivial⟩ <| hmemQ (X' := [_, _, _]) (S' := []) (fun _ m => m) <| hthen <| hret <| ?_
    exact hretN1 trivial rfl rfl rfl ag38 sz38 (Sup.cs_len hw) (fun m => (m.blk 0 rfl).cells0) [1] rfl [] rfl ⟨rfl, rfl, rfl⟩
theorem saveSC {g : Nat} {st : DSt} {d : RD} {kk : Nat} {s : Sup} (h : s.wf) (hD : DS st d kk) (hkk : kk ≤ 90000) : Con Tryz.prog 119 [.pointer (some ⟨g, 0, none⟩), .agg s.cs.toArray] [RDisk g st] [] (fun v_ X_ S_ => ∃ st1, v_ = (.int .i64 (d.saveSup s).2) ∧ X_ = [RDisk g st1] ∧ S_ = [] ∧ (DS st1 (d.saveSup s).1 (kk + 2))) := by
  refine henter (N := 36) Tryz.func119 rfl rfl (by simp) fun b => ?_
  refine hseq <| hreg <| ?_
  refine hx (xh_box rfl (fun g3 => ?_))
  refine hmemL (fun w m => m.eqX 0 rfl (show _ = RBlk g3 38 s.cs from congrArg (RBlk _ _) (cells_agg _))) ?_
  refine hy (fun _ => y_assign rfl) <| hend <| hmemQ (X' := [_, _]) (S' := []) (fun _ m => m) <| hthen <| hseq <| hreg <| hy (fun m => yV (y_ldN rfl ag38 sz38 (Sup.cs_len h) ((m.blk 0 rfl).cells0)) ((rfl : _ = Value.agg s.cs.toArray))) <| ?_
  refine hx (xh_call rfl Tryz.call178 (writeSupC h) [] rfl [] rfl ?_)
  rintro _ _ _ ⟨v, rfl, rfl, rfl⟩
  refine hfactL (fun m => (m.own 0 rfl).slice) ?_
  rintro ⟨A_x, c_x, rfl, hc_x⟩
  refine hfactL (fun m => (m.ord 0 rfl).2.1) fun hA_x => ?_
  refine hy (fun _ => y_move rfl) <| hy (fun _ => y_extract rfl rfl) <| hy (fun _ => y_extract rfl rfl) <| hy (fun _ => y_assign rfl) <| hy (fun _ => y_assign rfl) <| hend <| hsub (ρ' := [(6, _), (5, _), (4, _), (3, _), (0, _), (1, _)]) ⟨rfl, rfl, rfl, rfl, rfl, rfl, trivial⟩ <| hmemQ (X' := [_, _, _]) (S' := []) (fun _ m => m) <| hthen <| hseq <| hseq <| hreg <| hy (fun _ => y_move rfl) <| hy (fun _ => y_neq rfl rfl) <| hend <| hsub (ρ' := [(16, _), (6, _), (5, _), (4, _), (3, _), (0, _), (1, _)]) ⟨rfl, rfl, rfl, rfl, rfl, rfl, rfl, trivial⟩ <| hthen <| ?_
  refine hif rfl (fun h1 => ?_) (fun h1 => ?_)
  · have hm : ¬ s.may := fun hm => h1 (by rw [if_pos hm])
    rw [if_neg hm, if_neg hm]
    rw [show d.saveSup s = (d, 1) by rw [RD.saveSup, if_neg hm]]
    refine hseq <| hreg <| hy (fun _ => y_move rfl) <| hy (fun _ => y_assign rfl) <| hend <| hsub (ρ' := [(4, _), (16, _), (6, _), (5, _), (3, _), (0, _), (1, _)]) ⟨rfl, rfl, rfl, rfl, rfl, rfl, rfl, trivial⟩ <| hthen <| hret <| hthen_ret <| ?_
    exact hret1 trivial rfl rfl [2] rfl [] rfl ⟨st, rfl, rfl, rfl, hD.le (by omega)⟩
  · have hm : s.may := Decidable.byContradiction fun hm => h1 (by rw [if_neg hm]; decide)
    have hbl := Sup.bytes_len h
    rw [if_pos hm, if_pos hm]
    rw [show d.saveSup s = d.saveS nNew nSup s.bytes by rw [RD.saveSup, if_pos hm]]
    refine hcskip <| hthen <| hseq <| hseq <| hreg <| hy (fun _ => y_move rfl) <| hy (fun _ => y_move rfl) <| ?_
    refine hx (xh_calll rfl Tryz.call41 (dwriteC hD (by omega) rfl (by omega) (p := nNew) (l := s.bytes)) [2] rfl (.x 0 rfl .own .nil) ?_)
    rintro _ _ _ ⟨st1, rfl, rfl, rfl, h2⟩
    refine ⟨rfl, ?_⟩
    refine hy (fun _ => y_assign rfl) <| hend <| hsub (ρ' := [(7, _), (16, _), (6, _), (5, _), (4, _), (3, _), (0, _), (1, _)]) ⟨rfl, rfl, rfl, rfl, rfl, rfl, rfl, rfl, trivial⟩ <| hmemQ (X' := [_, _, _]) (S' := []) (fun _ m => m) <| hthen <| hseq <| hreg <| hy (fun _ => y_move rfl) <| hy (fun _ => y_neq rfl rfl) <| hend <| hsub (ρ' := [(22, _), (7, _), (16, _), (6, _), (5, _), (4, _), (3, _), (0, _), (1, _)]) ⟨rfl, rfl, rfl, rfl, rfl, rfl, rfl, rfl, rfl, trivial⟩ <| hthen <| ?_
    refine hif rfl (fun h3 => ?_) (fun h3 => ?_)
    · rw [show d.saveS nNew nSup s.bytes = (d, d.writeE nNew s.bytes) by rw [RD.saveS, if_pos h3]]
      have h4 : DS st1 d (kk + 2) := by
        have := h2.le (show kk + 1 ≤ kk + 2 by omega)
        rwa [RD.write, if_neg h3] at this
      refine hseq <| hreg <| hy (fun _ => y_move rfl) <| hy (fun _ => y_assign rfl) <| hend <| hsub (ρ' := [(4, _), (22, _), (7, _), (16, _), (6, _), (5, _), (3, _), (0, _), (1, _)]) ⟨rfl, rfl, rfl, rfl, rfl, rfl, rfl, rfl, rfl, trivial⟩ <| hthen <| hret <| hthen_ret <| ?_
      exact hret1 trivial rfl rfl [0] rfl [] rfl ⟨st1, rfl, rfl, rfl, h4⟩
    · refine hcskip <| hthen <| hseq <| hseq <| hreg <| hy (fun _ => y_move rfl) <| ?_
      refine hx (xh_call rfl Tryz.call77 (dsyncC h2) [0] rfl [] rfl ?_)
      rintro _ _ _ ⟨st12, rfl, rfl, rfl, h4⟩
      refine hy (fun _ => y_assign rfl) <| hend <| hsub (ρ' := [(8, _), (22, _), (7, _), (16, _), (6, _), (5, _), (4, _), (3, _), (0, _), (1, _)]) ⟨rfl, rfl, rfl, rfl, rfl, rfl, rfl, rfl, rfl, rfl, trivial⟩ <| hmemQ (X' := [_, _, _]) (S' := []) (fun _ m => m) <| hthen <| hseq <| hreg <| hy (fun _ => y_move rfl) <| hy (fun _ => y_neq rfl rfl) <| hend <| hsub (ρ' := [(27, _), (8, _), (22, _), (7, _), (16, _), (6, _), (5, _), (4, _), (3, _), (0, _), (1, _)]) ⟨rfl, rfl, rfl, rfl, rfl, rfl, rfl, rfl, rfl, rfl, rfl, trivial⟩ <| hthen <| ?_
      refine hif rfl (fun h5 => ?_) (fun h5 => ?_)
      · rw [show d.saveS nNew nSup s.bytes = (d.write nNew s.bytes, (d.write nNew s.bytes).syncE) by rw [RD.saveS, if_neg h3, if_pos h5]]
        have h9 : DS st12 (d.write nNew s.bytes) (kk + 2) := by
          have h10 : (d.write nNew s.bytes).pw = 0 := by
            unfold RD.syncE at h5
            split at h5
            · assumption
            · exact absurd rfl h5
          rw [RD.sync, if_pos h10] at h4
          exact h4.le (by omega)
        refine hseq <| hreg <| hy (fun _ => y_move rfl) <| hy (fun _ => y_assign rfl) <| hend <| hsub (ρ' := [(4, _), (27, _), (8, _), (22, _), (7, _), (16, _), (6, _), (5, _), (3, _), (0, _), (1, _)]) ⟨rfl, rfl, rfl, rfl, rfl, rfl, rfl, rfl, rfl, rfl, rfl, trivial⟩ <| hthen <| hret <| hthen_ret <| ?_
        exact hret1 trivial rfl rfl [0] rfl [] rfl ⟨st12, rfl, rfl, rfl, h9⟩
      · refine hcskip <| hthen <| hseq <| hseq <| hreg <| hy (fun _ => y_move rfl) <| ?_
        refine hx (xh_call rfl Tryz.call74 (drenameC h4 (by omega) (a := nNew) (c := nSup)) [0] rfl [] rfl ?_)
        rintro _ _ _ ⟨st13, rfl, rfl, rfl, h6⟩
        refine hy (fun _ => y_assign rfl) <| hend <| hsub (ρ' := [(9, _), (27, _), (8, _), (22, _), (7, _), (16, _), (6, _), (5, _), (4, _), (3, _), (0, _), (1, _)]) ⟨rfl, rfl, rfl, rfl, rfl, rfl, rfl, rfl, rfl, rfl, rfl, rfl, trivial⟩ <| hmemQ (X' := [_, _, _]) (S' := []) (fun _ m => m) <| hthen <| hseq <| hreg <| hy (fun _ => y_move rfl) <| hy (fun _ => y_neq rfl rfl) <| hend <| hsub (ρ' := [(32, _), (9, _), (27, _), (8, _), (22, _), (7, _), (16, _), (6, _), (5, _), (4, _), (3, _), (0, _), (1, _)]) ⟨rfl, rfl, rfl, rfl, rfl, rfl, rfl, rfl, rfl, rfl, rfl, rfl, rfl, trivial⟩ <| hthen <| ?_
        refine hif rfl (fun h7 => ?_) (fun h7 => ?_)
        · rw [show d.saveS nNew nSup s.bytes = ((d.write nNew s.bytes).sync, (d.write nNew s.bytes).sync.renameE nNew nSup) by rw [RD.saveS, if_neg h3, if_neg h5, if_pos h7]]
          have h9 : DS st13 (d.write nNew s.bytes).sync (kk + 2) := by
            rwa [RD.rename, if_neg h7] at h6
          refine hseq <| hreg <| hy (fun _ => y_move rfl) <| hy (fun _ => y_assign rfl) <| hend <| hsub (ρ' := [(4, _), (32, _), (9, _), (27, _), (8, _), (22, _), (7, _), (16, _), (6, _), (5, _), (3, _), (0, _), (1, _)]) ⟨rfl, rfl, rfl, rfl, rfl, rfl, rfl, rfl, rfl, rfl, rfl, rfl, rfl, trivial⟩ <| hthen <| hret <| hthen_ret <| ?_
          exact hret1 trivial rfl rfl [0] rfl [] rfl ⟨st13, rfl, rfl, rfl, h9⟩
        · rw [show d.saveS nNew nSup s.bytes = (((d.write nNew s.bytes).sync.rename nNew nSup).sync, ((d.write nNew s.bytes).sync.rename nNew nSup).syncE) by rw [RD.saveS, if_neg h3, if_neg h5, if_neg h7]]
          refine hcskip <| hthen <| hseq <| hreg <| hy (fun _ => y_move rfl) <| ?_
          refine hx (xh_call rfl Tryz.call77 (dsyncC h6) [0] rfl [] rfl ?_)
          rintro _ _ _ ⟨st14, rfl, rfl, rfl, h8⟩
          refine hy (fun _ => y_assign rfl) <| hend <| hsub (ρ' := [(4, _), (32, _), (9, _), (27, _), (8, _), (22, _), (7, _), (16, _), (6, _), (5, _), (3, _), (0, _), (1, _)]) ⟨rfl, rfl, rfl, rfl, rfl, rfl, rfl, rfl, rfl, rfl, rfl, rfl, rfl, trivial⟩ <| hmemQ (X' := [_, _, _]) (S' := []) (fun _ m => m) <| hthen <| hret <| ?_
          exact hret1 trivial rfl rfl [0] rfl [] rfl ⟨st14, rfl, rfl, rfl, h8⟩
end Go.Proofs.YtfikjheicjamhaaGreatDoor
end
section
/- Contracts: an image of a slot, Active, Format, by the program (layer 22). -/
set_option linter.unusedVariables false
set_option linter.unusedSimpArgs false
set_option maxRecDepth 20000
namespace Go.Proofs.YtfikjheicjamhaaGreatDoor
open Go.Eng Go.Hx
def nm2 : List Value := [SV [115, 47, 48], SV [115, 47, 49]]
theorem nm2_get : ∀ {i : Nat}, i < 2 → nm2[i]? = some (SV (nSlot i))
  | 0, _ => rfl
  | 1, _ => rfl
theorem fileC {i : Nat} (hi : i < 2) : Con Tryz.prog 124 [.int .i64 (i : Nat)] [] [] (fun v_ X_ S_ => v_ = (.string (strOf (nSlot i))) ∧ X_ = [] ∧ S_ = []) := by
  refine henter (N := 7) Tryz.func124 rfl rfl (by simp) fun b => ?_
  refine hseq <| hreg <| hy (fun _ => y_assign rfl) <| hend <| hthen <| hseq <| hreg <| ?_
  refine hx (xh_bsl Tryz.underlying71 ti9 rfl rfl rfl (by simp [Value.cells, B8]) (by decide) (by decide) (fun g3 => ?_))
  have hA_b3 : 0 < 2 → (some (⟨g3, 0, none⟩ : Addr)) ≠ none := fun _ h => by cases h
  refine hmemL (fun w m => m.eqX 0 rfl (show _ = ROwn 9 1 (.slice (some ⟨g3, 0, none⟩) 2 2) 2 nm2 from rfl)) ?_
  refine hy (fun _ => y_move rfl) <| hy (fun _ => y_idxS1 rfl rfl Tryz.underlying71 sz9 hA_b3 (show ((i : Nat) : Int) = _ by omega) (by omega)) <| hy (fun m => yV (y_ld1 rfl ag9 ((m.ord 0 rfl).cell (nm2_get hi))) ((rfl : _ = Value.string (strOf (nSlot i))))) <| hy (fun _ => y_assign rfl) <| hend <| hsub (ρ' := [(2, _), (0, _)]) ⟨rfl, rfl, trivial⟩ <| hmemQ (X' := [_]) (S' := []) (fun _ m => m) <| hthen <| hret <| ?_
  exact hret1 trivial rfl rfl [] rfl [] rfl ⟨rfl, rfl, rfl⟩
theorem formatSC {g : Nat} {st : DSt} {d : RD} {kk : Nat} (hD : DS st d kk) (hkk : kk ≤ 90000) : Con Tryz.prog 49 [.pointer (some ⟨g, 0, none⟩)] [RDisk g st] [] (fun v_ X_ S_ => ∃ st1, v_ = (.int .i64 (d.saveSup Sup.zero).2) ∧ X_ = [RDisk g st1] ∧ S_ = [] ∧ (DS st1 (d.saveSup Sup.zero).1 (kk + 2))) := by
  refine henter (N := 6) Tryz.func49 rfl rfl (by simp) fun b => ?_
  refine hseq <| hreg <| hy (fun _ => y_assign rfl) <| hend <| hthen <| hseq <| hreg <| hy (fun _ => y_move rfl) <| hy (fun _ => yV (y_build0 ti38 rfl (by kernel_rfl)) ((rfl : _ = Value.agg Sup.zero.cs.toArray))) <| ?_
  refine hx (xh_call rfl Tryz.call119 (saveSC Sup.zero_wf hD hkk) [0] rfl [] rfl ?_)
  rintro _ _ _ ⟨st1, rfl, rfl, rfl, h2⟩
  refine hy (fun _ => y_assign rfl) <| hend <| hsub (ρ' := [(2, _), (0, _)]) ⟨rfl, rfl, trivial⟩ <| hmemQ (X' := [_]) (S' := []) (fun _ m => m) <| hthen <| hret <| ?_
  exact hret1 trivial rfl rfl [0] rfl [] rfl ⟨st1, rfl, rfl, rfl, h2⟩
theorem sup_at {s : Sup} (h : s.wf) {i : Nat} (hi : i < 2) {j : Nat} {u : Value} (hu : (s.at i).cs[j]? = some u) : s.cs[2 + i * 34 + j]? = some u := by
  match i, hi with
  | 0, _ => exact sup_s0 hu
  | 1, _ => exact sup_s1 h hu
theorem imageSC {g : Nat} {st : DSt} {d : RD} {kk : Nat} {s : Sup} {i : Nat} (h : s.wf) (hi : i < 2) (hD : DS st d kk) : Con Tryz.prog 67 [.pointer (some ⟨g, 0, none⟩), .agg s.cs.toArray, .int .i64 (i : Nat)] [RDisk g st] [RRoots] (fun v_ X_ S_ => ∃ v, v_ = (.tuple #[v, .int .i64 (d.imageS s i).2]) ∧ X_ = [RDisk g st, ROwn 5 1 v (d.imageS s i).1.length (b8s (d.imageS s i).1)] ∧ S_ = []) := by
  have hlen := hD.rd_len (nSlot i)
  have hs := Sup.at_wf h i
  have hxl := hs.lo
  have hxh := hs.hi
  refine henter (N := 41) Tryz.func67 rfl rfl (by simp) fun b => ?_
  refine hseq <| hreg <| ?_
  refine hx (xh_box rfl (fun g4 => ?_))
  refine hmemL (fun w m => m.eqX 0 rfl (show _ = RBlk g4 38 s.cs from congrArg (RBlk _ _) (cells_agg _))) ?_
  refine hy (fun _ => y_assign rfl) <| hy (fun _ => y_assign rfl) <| hend <| hmemQ (X' := [_, _]) (S' := [_]) (fun _ m => m) <| hthen <| hseq <| hreg <| hy (fun _ => y_move rfl) <| hy (fun _ => y_fld rfl fa38_2 (by decide)) <| hy (fun _ => y_idxA rfl rfl Tryz.underlying36 sz35 (show ((i : Nat) : Int) = _ by omega) (by omega)) <| hy (fun m => yV (y_ldN rfl ag35 sz35 (Sl.cs_len hs) (fun j u hu => by rw [add_add, add_add]; rw [← Nat.add_assoc]; exact (m.blk 0 rfl).cells0 (2 + i * 34 + j) u (sup_at h hi hu))) ((rfl : _ = Value.agg (s.at i).cs.toArray))) <| ?_
  refine hx (xh_alloc ti35 (fun g8 => ?_))
  refine hx0 (xh_stA 0 rfl rfl rfl sz35 (Sl.cs_len hs) Sl.cs_one rfl ?_)
  refine hend <| hsub (ρ' := [(8, _), (7, _), (6, _), (4, _), (0, _), (1, _), (2, _)]) ⟨rfl, rfl, rfl, rfl, rfl, rfl, rfl, trivial⟩ <| hmemQ (X' := [_, _, _]) (S' := [_]) (fun _ m => m) <| hthen <| hseq <| hseq <| hreg <| hy (fun _ => y_fld rfl fa35_0 (by decide)) <| hy (fun m => y_ld1 rfl ag4 ((m.blk 0 rfl).cells0 0 _ sl0)) <| hy (fun _ => (y_not rfl)) <| hend <| hsub (ρ' := [(17, _), (8, _), (7, _), (6, _), (4, _), (0, _), (1, _), (2, _)]) ⟨rfl, rfl, rfl, rfl, rfl, rfl, rfl, rfl, trivial⟩ <| hthen <| ?_
  refine hifb rfl (fun hf => ?_) (fun hf => ?_)
  · have hf' : (s.at i).full = false := by simpa using hf
    rw [show d.imageS s i = ([], 4) by rw [RD.imageS, if_pos hf']]
    refine hseq <| hreg <| hy (fun _ => y_assign rfl) <| hy (fun _ => y_assign rfl) <| hend <| hthen <| hret <| hthen_ret <| ?_
    refine hmemQ (fun w m => m.addX (r' := ROwn 5 1 (.slice none 0 0) 0 []) (.refl _ _) (Own.nil _ _ _ _) (fun k hk => hk.elim)) ?_
    exact hret2 trivial rfl rfl rfl [3, 0] rfl [] rfl ⟨_, rfl, rfl, rfl⟩
  · have hf' : (s.at i).full ≠ false := by simpa using hf
    refine hcskip <| hthen <| hseq <| hreg <| hy (fun _ => y_move rfl) <| hy (fun _ => y_move rfl) <| ?_
    refine hx (xh_call rfl Tryz.call124 (fileC hi) [] rfl [] rfl ?_)
    rintro _ _ _ ⟨rfl, rfl, rfl⟩
    refine hx (xh_call rfl Tryz.call63 (dreadC hD (p := (nSlot i))) [2] rfl [] rfl ?_)
    rintro _ _ _ ⟨v, rfl, rfl, rfl⟩
    refine hfactL (fun m => (m.own 1 rfl).slice) ?_
    rintro ⟨A_x, c_x, rfl, hc_x⟩
    refine hfactL (fun m => (m.ord 1 rfl).2.1) fun hA_x => ?_
    refine hy (fun _ => y_move rfl) <| hy (fun _ => y_extract rfl rfl) <| hy (fun _ => y_extract rfl rfl) <| hy (fun _ => y_assign rfl) <| hy (fun _ => y_assign rfl) <| hend <| hsub (ρ' := [(10, _), (9, _), (17, _), (8, _), (7, _), (6, _), (4, _), (0, _), (1, _), (2, _)]) ⟨rfl, rfl, rfl, rfl, rfl, rfl, rfl, rfl, rfl, rfl, trivial⟩ <| hmemQ (X' := [_, _, _, _]) (S' := [_]) (fun _ m => m) <| hthen <| hseq <| hseq <| hreg <| hy (fun _ => y_move rfl) <| hy (fun _ => y_neq rfl rfl) <| hend <| hsub (ρ' := [(26, _), (10, _), (9, _), (17, _), (8, _), (7, _), (6, _), (4, _), (0, _), (1, _), (2, _)]) ⟨rfl, rfl, rfl, rfl, rfl, rfl, rfl, rfl, rfl, rfl, rfl, trivial⟩ <| hthen <| ?_
    refine hif rfl (fun h1 => ?_) (fun h1 => ?_)
    · rw [show d.imageS s i = ([], d.readE (nSlot i)) by rw [RD.imageS, if_neg hf', if_pos h1]]
      refine hseq <| hreg <| hy (fun _ => y_move rfl) <| hy (fun _ => y_assign rfl) <| hy (fun _ => y_assign rfl) <| hend <| hsub (ρ' := [(7, _), (6, _), (26, _), (10, _), (9, _), (17, _), (8, _), (4, _), (0, _), (1, _), (2, _)]) ⟨rfl, rfl, rfl, rfl, rfl, rfl, rfl, rfl, rfl, rfl, rfl, trivial⟩ <| hthen <| hret <| hthen_ret <| ?_
      refine hmemQ (fun w m => m.addX (r' := ROwn 5 1 (.slice none 0 0) 0 []) (.refl _ _) (Own.nil _ _ _ _) (fun k hk => hk.elim)) ?_
      exact hret2 trivial rfl rfl rfl [1, 0] rfl [] rfl ⟨_, rfl, rfl, rfl⟩
    · refine hcskip <| hthen <| hseq <| hseq <| hdrw [7] [(0, some 0), (1, some 0), (2, some 0), (3, some 0), (4, some 0), (5, some 0), (6, some 0), (8, some 1), (9, some 1), (7, none), (10, some 1), (11, some 1)] (by kernel_rfl) (by kernel_rfl) rfl 99 <| htyU (y_move rfl) <| htyU (y_lenS rfl Tryz.underlying27) <| htyU (y_fld rfl fa35_2 (by decide)) <| hty (fun m => y_ld1 rfl ag3 ((m.blk 2 rfl).cells0 33 _ (sl33 hs))) <| htyU (y_neq rfl rfl) <| htyU (y_move rfl) <| ?_
      refine htsplit 33 rfl (fun hz => ?_) (fun hz => ?_)
      · rw [show d.imageS s i = ([], 7) by rw [RD.imageS, if_neg hf', if_neg h1, if_pos (.inl hz)]]
        refine htskip rfl rfl rfl (by decide) <| htskip rfl rfl rfl (by decide) <| htskip rfl rfl rfl (by decide) <| htskipx rfl rfl rfl (by decide) (fun _ => wk [0, 0, 0, 0] [0] rfl rfl) <| htskip rfl rfl rfl (by decide) <| htyU (y_pickT rfl rfl) <| htend <| hsub (ρ' := [(39, _), (26, _), (10, _), (9, _), (17, _), (8, _), (7, _), (6, _), (4, _), (0, _), (1, _), (2, _)]) ⟨rfl, rfl, rfl, rfl, rfl, rfl, rfl, rfl, rfl, rfl, rfl, rfl, trivial⟩ <| hthen <| ?_
        refine hift rfl (rfl) ?_
        refine hseq <| hreg <| hy (fun _ => y_assign rfl) <| hy (fun _ => y_assign rfl) <| hend <| hthen <| hret <| hthen_ret <| ?_
        refine hmemQ (fun w m => m.addX (r' := ROwn 5 1 (.slice none 0 0) 0 []) (.refl _ _) (Own.nil _ _ _ _) (fun k hk => hk.elim)) ?_
        exact hret2 trivial rfl rfl rfl [1, 0] rfl [] rfl ⟨_, rfl, rfl, rfl⟩
      · refine htyUg (o := _) rfl rfl rfl (y_move rfl) <| htyUg (o := _) rfl rfl rfl (y_fld rfl fa35_1 (by decide)) <| htyg (o := _) rfl rfl rfl (fun m => yV (y_ldN rfl ag33 sz33 (by rw [b8s_length, hs.len]) (fun j u hu => by rw [add_add]; exact (m.blk 2 rfl).cells0 (1 + j) u (sl_im hu))) ((rfl : _ = Value.agg (b8s (s.at i).image).toArray))) <| ?_
        refine htxg (o := _) rfl rfl rfl (xh_calll rfl Tryz.call68 (shaSumC (by omega)) [] rfl (.x 1 rfl .own (.s 0 rfl .nil)) ?_)
        rintro _ _ _ ⟨rfl, rfl, rfl⟩
        refine ⟨rfl, ?_⟩
        refine ⟨(fun _ => wk [0, 0, 0, 0] [0] rfl rfl), ?_⟩
        refine htyUg (o := _) rfl rfl rfl (y_neD33 rfl rfl (shaL_length _) hs.len) <| htyU (y_pickF rfl rfl) <| htend <| hsub (ρ' := [(39, _), (26, _), (10, _), (9, _), (17, _), (8, _), (7, _), (6, _), (4, _), (0, _), (1, _), (2, _)]) ⟨rfl, rfl, rfl, rfl, rfl, rfl, rfl, rfl, rfl, rfl, rfl, rfl, trivial⟩ <| hmemQ (X' := [_, _, _, _]) (S' := [_]) (fun _ m => m) <| hthen <| ?_
        refine hif rfl (fun hy2 => ?_) (fun hy2 => ?_)
        · rw [show d.imageS s i = ([], 7) by rw [RD.imageS, if_neg hf', if_neg h1, if_pos (.inr hy2)]]
          refine hseq <| hreg <| hy (fun _ => y_assign rfl) <| hy (fun _ => y_assign rfl) <| hend <| hthen <| hret <| hthen_ret <| ?_
          refine hmemQ (fun w m => m.addX (r' := ROwn 5 1 (.slice none 0 0) 0 []) (.refl _ _) (Own.nil _ _ _ _) (fun k hk => hk.elim)) ?_
          exact hret2 trivial rfl rfl rfl [1, 0] rfl [] rfl ⟨_, rfl, rfl, rfl⟩
        · rw [show d.imageS s i = (d.readB (nSlot i), 0) by rw [RD.imageS, if_neg hf', if_neg h1, if_neg (fun h => h.elim hz hy2)]]
          refine hcskip <| hthen <| hseq <| hreg <| hy (fun _ => y_move rfl) <| hy (fun _ => y_assign rfl) <| hy (fun _ => y_assign rfl) <| hend <| hsub (ρ' := [(7, _), (6, _), (39, _), (26, _), (10, _), (9, _), (17, _), (8, _), (4, _), (0, _), (1, _), (2, _)]) ⟨rfl, rfl, rfl, rfl, rfl, rfl, rfl, rfl, rfl, rfl, rfl, rfl, trivial⟩ <| hthen <| hret <| ?_
          exact hret2 trivial rfl rfl rfl [0, 0] rfl [] rfl ⟨_, rfl, rfl, rfl⟩
theorem activeSC {g : Nat} {st : DSt} {d : RD} {kk : Nat} (hD : DS st d kk) : Con Tryz.prog 14 [.pointer (some ⟨g, 0, none⟩)] [RDisk g st] [RRoots] (fun v_ X_ S_ => ∃ v, v_ = (.tuple #[v, .int .i64 d.activeS.2]) ∧ X_ = [RDisk g st, ROwn 5 1 v d.activeS.1.length (b8s d.activeS.1)] ∧ S_ = []) := by
  have hw := d.loadS_wf
  refine henter (N := 21) Tryz.func14 rfl rfl (by simp) fun b => ?_
  refine hseq <| hreg <| hy (fun _ => y_assign rfl) <| hy (fun _ => y_assign rfl) <| hend <| hthen <| hseq <| hreg <| hy (fun _ => y_move rfl) <| ?_
  refine hx (xh_call rfl Tryz.call12 (loadSC hD) [0] rfl [] rfl ?_)
  rintro _ _ _ ⟨rfl, rfl, rfl⟩
  refine hy (fun _ => y_move rfl) <| hy (fun _ => y_extract rfl rfl) <| hy (fun _ => y_extract rfl rfl) <| ?_
  refine hx (xh_alloc ti38 (fun g4 => ?_))
  refine hx0 (xh_stA 0 rfl rfl rfl sz38 (Sup.cs_len hw) Sup.cs_one rfl ?_)
  refine hy (fun _ => y_assign rfl) <| hend <| hsub (ρ' := [(5, _), (4, _), (3, _), (2, _), (0, _)]) ⟨rfl, rfl, rfl, rfl, rfl, trivial⟩ <| hmemQ (X' := [_, _]) (S' := [_]) (fun _ m => m) <| hthen <| hseq <| hseq <| hreg <| hy (fun _ => y_move rfl) <| hy (fun _ => y_neq rfl rfl) <| hend <| hsub (ρ' := [(12, _), (5, _), (4, _), (3, _), (2, _), (0, _)]) ⟨rfl, rfl, rfl, rfl, rfl, rfl, trivial⟩ <| hthen <| ?_
  refine hif rfl (fun h1 => ?_) (fun h1 => ?_)
  · rw [show d.activeS = ([], d.loadS.2) by rw [RD.activeS, if_pos h1]]
    refine hseq <| hreg <| hy (fun _ => y_move rfl) <| hy (fun _ => y_assign rfl) <| hy (fun _ => y_assign rfl) <| hend <| hsub (ρ' := [(3, _), (2, _), (12, _), (5, _), (4, _), (0, _)]) ⟨rfl, rfl, rfl, rfl, rfl, rfl, trivial⟩ <| hthen <| hret <| hthen_ret <| ?_
    refine hmemQ (fun w m => m.addX (r' := ROwn 5 1 (.slice none 0 0) 0 []) (.refl _ _) (Own.nil _ _ _ _) (fun k hk => hk.elim)) ?_
    exact hret2 trivial rfl rfl rfl [2, 0] rfl [] rfl ⟨_, rfl, rfl, rfl⟩
  · rw [show d.activeS = d.imageS d.loadS.1 d.loadS.1.active.toNat by rw [RD.activeS, if_neg h1]]
    obtain ⟨_, _, ha, ha2⟩ := Sup.may_other (RD.loadS_may (Decidable.not_not.1 h1))
    refine hcskip <| hthen <| hseq <| hreg <| hy (fun _ => y_move rfl) <| hy (fun m => yV (y_ldN rfl ag38 sz38 (Sup.cs_len hw) ((m.blk 0 rfl).cells0)) ((rfl : _ = Value.agg d.loadS.1.cs.toArray))) <| hy (fun _ => y_fld rfl fa38_0 (by decide)) <| hy (fun m => yV (y_ld1 rfl ag3 ((m.blk 0 rfl).cells0 0 _ sup0)) ((show Value.int .i64 d.loadS.1.active = .int .i64 (d.loadS.1.active.toNat : Nat) by rw [← ha]))) <| ?_
    refine hx (xh_call rfl Tryz.call67 (imageSC hw ha2 hD) [1] rfl [0] rfl ?_)
    rintro _ _ _ ⟨v, rfl, rfl, rfl⟩
    refine hfactL (fun m => (m.own 1 rfl).slice) ?_
    rintro ⟨A_x, c_x, rfl, hc_x⟩
    refine hfactL (fun m => (m.ord 1 rfl).2.1) fun hA_x => ?_
    refine hy (fun _ => y_extract rfl rfl) <| hy (fun _ => y_extract rfl rfl) <| hy (fun _ => y_assign rfl) <| hy (fun _ => y_assign rfl) <| hend <| hsub (ρ' := [(3, _), (2, _), (12, _), (5, _), (4, _), (0, _)]) ⟨rfl, rfl, rfl, rfl, rfl, rfl, trivial⟩ <| hmemQ (X' := [_, _, _]) (S' := [_]) (fun _ m => m) <| hthen <| hret <| ?_
    exact hret2 trivial rfl rfl rfl [0, 0] rfl [] rfl ⟨_, rfl, rfl, rfl⟩
end Go.Proofs.YtfikjheicjamhaaGreatDoor
end
section
/- Contracts: Stage, Flip, Back, by the program (layer 22). -/
set_option linter.unusedVariables false
set_option linter.unusedSimpArgs false
set_option maxRecDepth 20000
namespace Go.Proofs.YtfikjheicjamhaaGreatDoor
open Go.Eng Go.Hx
theorem sup_put {s : Sup} (h : s.wf) {i : Nat} (hi : i < 2) {x : Sl} (hx : x.wf) : splice s.cs (2 + i * 34) x.cs = (s.put i x).cs := by
  have h0 := Sl.cs_len h.w0
  have h1 := Sl.cs_len h.w1
  have h2 := Sl.cs_len hx
  match i, hi with
  | 0, _ =>
    have e1 : s.cs = [Value.int .i64 s.active, .int .i64 s.gen] ++ s.s0.cs ++ s.s1.cs := rfl
    have e2 : (s.put 0 x).cs = [Value.int .i64 s.active, .int .i64 s.gen] ++ x.cs ++ s.s1.cs := rfl
    rw [e1, e2]
    exact splice_app rfl (by rw [h2, h0])
  | 1, _ =>
    have e1 : s.cs = ([Value.int .i64 s.active, .int .i64 s.gen] ++ s.s0.cs) ++ s.s1.cs ++ [] := by rw [List.append_nil]; rfl
    have e2 : (s.put 1 x).cs = ([Value.int .i64 s.active, .int .i64 s.gen] ++ s.s0.cs) ++ x.cs ++ [] := by rw [List.append_nil]; rfl
    rw [e1, e2]
    exact splice_app (by rw [List.length_append, h0]; rfl) (by rw [h2, h1])
theorem turned_wf {s : Sup} (h : s.wf) (ha : s.active = 0 ∨ s.active = 1) (hg : s.gen < 2147483647) : s.turned.wf := by
  have := h.g0
  exact ⟨by show _ ≤ 1 - s.active; omega, by show 1 - s.active ≤ _; omega, by show _ ≤ s.gen + 1; omega, by show s.gen + 1 ≤ _; omega, h.w0, h.w1⟩
theorem turnSC {g : Nat} {st : DSt} {d : RD} {kk : Nat} {s : Sup} (h : s.wf) (ha : s.active = 0 ∨ s.active = 1) (hD : DS st d kk) (hkk : kk ≤ 90000) : Con Tryz.prog 125 [.pointer (some ⟨g, 0, none⟩), .agg s.cs.toArray] [RDisk g st] [] (fun v_ X_ S_ => ∃ st1, v_ = (.tuple #[.int .i64 (d.turnS s).2.1, .int .i64 (d.turnS s).2.2]) ∧ X_ = [RDisk g st1] ∧ S_ = [] ∧ (DS st1 (d.turnS s).1 (kk + 2))) := by
  have hg0 := h.g0
  have hg1 := h.g1
  refine henter (N := 26) Tryz.func125 rfl rfl (by simp) fun b => ?_
  refine hseq <| hreg <| ?_
  refine hx (xh_box rfl (fun g3 => ?_))
  refine hmemL (fun w m => m.eqX 0 rfl (show _ = RBlk g3 38 s.cs from congrArg (RBlk _ _) (cells_agg _))) ?_
  refine hy (fun _ => y_assign rfl) <| hy (fun _ => y_assign rfl) <| hend <| hmemQ (X' := [_, _]) (S' := []) (fun _ m => m) <| hthen <| hseq <| hseq <| hreg <| hy (fun _ => y_fld rfl fa38_1 (by decide)) <| hy (fun m => y_ld1 rfl ag3 ((m.blk 0 rfl).cells0 1 _ sup1)) <| hy (fun _ => y_geq rfl rfl) <| hend <| hsub (ρ' := [(9, _), (5, _), (4, _), (3, _), (0, _), (1, _)]) ⟨rfl, rfl, rfl, rfl, rfl, rfl, trivial⟩ <| hthen <| ?_
  refine hif rfl (fun hg => ?_) (fun hg => ?_)
  · rw [show d.turnS s = (d, 0, 5) by rw [RD.turnS, if_pos hg]]
    refine hseq <| hreg <| hy (fun _ => y_assign rfl) <| hy (fun _ => y_assign rfl) <| hend <| hthen <| hret <| hthen_ret <| ?_
    exact hret2 trivial rfl rfl rfl [1] rfl [] rfl ⟨st, rfl, rfl, rfl, hD.le (by omega)⟩
  · have hw := turned_wf h ha (by omega)
    refine hcskip <| hthen <| hseq <| hreg <| hy (fun _ => y_fld rfl fa38_0 (by decide)) <| hy (fun m => y_ld1 rfl ag3 ((m.blk 0 rfl).cells0 0 _ sup0)) <| hy (fun _ => y_sub rfl rfl (w64 (by omega) (by omega))) <| hy (fun _ => y_fld rfl fa38_0 (by decide)) <| ?_
    refine hx0 (xh_st1a 0 rfl rfl rfl sz3 rfl (by first | exact Nat.le_of_ble_eq_true rfl | simp) ?_)
    refine hend <| hsub (ρ' := [(9, _), (5, _), (4, _), (3, _), (0, _), (1, _)]) ⟨rfl, rfl, rfl, rfl, rfl, rfl, trivial⟩ <| hmemQ (X' := [_, _]) (S' := []) (fun _ m => m) <| hthen <| hseq <| hreg <| hy (fun _ => y_fld rfl fa38_1 (by decide)) <| hy (fun m => y_ld1 rfl ag3 ((m.blk 0 rfl).cells0 1 _ rfl)) <| hy (fun _ => y_add rfl rfl (w64 (by omega) (by omega))) <| hy (fun _ => y_fld rfl fa38_1 (by decide)) <| ?_
    refine hx0 (xh_st1a 0 rfl rfl rfl sz3 rfl (by first | exact Nat.le_of_ble_eq_true rfl | simp) ?_)
    refine hend <| hsub (ρ' := [(9, _), (5, _), (4, _), (3, _), (0, _), (1, _)]) ⟨rfl, rfl, rfl, rfl, rfl, rfl, trivial⟩ <| hmemQ (X' := [_, _]) (S' := []) (fun _ m => m) <| hthen <| hseq <| hseq <| hreg <| hy (fun _ => y_move rfl) <| ?_
    refine hmemL (fun w m => m.eqX 0 rfl (show _ = RBlk g3 38 s.turned.cs from rfl)) ?_
    refine hy (fun m => yV (y_ldN rfl ag38 sz38 (Sup.cs_len hw) ((m.blk 0 rfl).cells0)) ((rfl : _ = Value.agg s.turned.cs.toArray))) <| ?_
    refine hx (xh_call rfl Tryz.call119 (saveSC hw hD hkk) [1] rfl [] rfl ?_)
    rintro _ _ _ ⟨st1, rfl, rfl, rfl, h2⟩
    refine hy (fun _ => y_assign rfl) <| hend <| hsub (ρ' := [(6, _), (9, _), (5, _), (4, _), (3, _), (0, _), (1, _)]) ⟨rfl, rfl, rfl, rfl, rfl, rfl, rfl, trivial⟩ <| hmemQ (X' := [_, _]) (S' := []) (fun _ m => m) <| hthen <| hseq <| hreg <| hy (fun _ => y_move rfl) <| hy (fun _ => y_neq rfl rfl) <| hend <| hsub (ρ' := [(22, _), (6, _), (9, _), (5, _), (4, _), (3, _), (0, _), (1, _)]) ⟨rfl, rfl, rfl, rfl, rfl, rfl, rfl, rfl, trivial⟩ <| hthen <| ?_
    refine hif rfl (fun h3 => ?_) (fun h3 => ?_)
    · rw [show d.turnS s = ((d.saveSup s.turned).1, 0, (d.saveSup s.turned).2) by rw [RD.turnS, if_neg hg]; exact if_pos h3]
      refine hseq <| hreg <| hy (fun _ => y_move rfl) <| hy (fun _ => y_assign rfl) <| hy (fun _ => y_assign rfl) <| hend <| hsub (ρ' := [(5, _), (4, _), (22, _), (6, _), (9, _), (3, _), (0, _), (1, _)]) ⟨rfl, rfl, rfl, rfl, rfl, rfl, rfl, rfl, trivial⟩ <| hthen <| hret <| hthen_ret <| ?_
      exact hret2 trivial rfl rfl rfl [0] rfl [] rfl ⟨st1, rfl, rfl, rfl, h2⟩
    · rw [show d.turnS s = ((d.saveSup s.turned).1, s.gen + 1, 0) by rw [RD.turnS, if_neg hg]; exact if_neg h3]
      refine hcskip <| hthen <| hseq <| hreg <| hy (fun _ => y_fld rfl fa38_1 (by decide)) <| hy (fun m => y_ld1 rfl ag3 ((m.blk 1 rfl).cells0 1 _ sup1)) <| hy (fun _ => y_assign rfl) <| hy (fun _ => y_assign rfl) <| hend <| hsub (ρ' := [(5, _), (4, _), (22, _), (6, _), (9, _), (3, _), (0, _), (1, _)]) ⟨rfl, rfl, rfl, rfl, rfl, rfl, rfl, rfl, trivial⟩ <| hthen <| hret <| ?_
      exact hret2 trivial rfl rfl rfl [0] rfl [] rfl ⟨st1, rfl, rfl, rfl, h2⟩
theorem backSC {g : Nat} {st : DSt} {d : RD} {kk : Nat} (hD : DS st d kk) (hkk : kk ≤ 90000) : Con Tryz.prog 54 [.pointer (some ⟨g, 0, none⟩)] [RDisk g st] [RRoots] (fun v_ X_ S_ => ∃ st1, v_ = (.tuple #[.int .i64 d.backS.2.1, .int .i64 d.backS.2.2]) ∧ X_ = [RDisk g st1] ∧ S_ = [] ∧ (DS st1 d.backS.1 (kk + 2))) := by
  have hw := d.loadS_wf
  refine henter (N := 33) Tryz.func54 rfl rfl (by simp) fun b => ?_
  refine hseq <| hreg <| hy (fun _ => y_assign rfl) <| hy (fun _ => y_assign rfl) <| hend <| hthen <| hseq <| hreg <| hy (fun _ => y_move rfl) <| ?_
  refine hx (xh_call rfl Tryz.call12 (loadSC hD) [0] rfl [] rfl ?_)
  rintro _ _ _ ⟨rfl, rfl, rfl⟩
  refine hy (fun _ => y_move rfl) <| hy (fun _ => y_extract rfl rfl) <| hy (fun _ => y_extract rfl rfl) <| ?_
  refine hx (xh_alloc ti38 (fun g4 => ?_))
  refine hx0 (xh_stA 0 rfl rfl rfl sz38 (Sup.cs_len hw) Sup.cs_one rfl ?_)
  refine hy (fun _ => y_assign rfl) <| hend <| hsub (ρ' := [(5, _), (4, _), (3, _), (2, _), (0, _)]) ⟨rfl, rfl, rfl, rfl, rfl, trivial⟩ <| hmemQ (X' := [_, _]) (S' := [_]) (fun _ m => m) <| hthen <| hseq <| hseq <| hreg <| hy (fun _ => y_move rfl) <| hy (fun _ => y_neq rfl rfl) <| hend <| hsub (ρ' := [(14, _), (5, _), (4, _), (3, _), (2, _), (0, _)]) ⟨rfl, rfl, rfl, rfl, rfl, rfl, trivial⟩ <| hthen <| ?_
  refine hif rfl (fun h1 => ?_) (fun h1 => ?_)
  · rw [show d.backS = (d, 0, d.loadS.2) by rw [RD.backS, if_pos h1]]
    refine hseq <| hreg <| hy (fun _ => y_move rfl) <| hy (fun _ => y_assign rfl) <| hy (fun _ => y_assign rfl) <| hend <| hsub (ρ' := [(3, _), (2, _), (14, _), (5, _), (4, _), (0, _)]) ⟨rfl, rfl, rfl, rfl, rfl, rfl, trivial⟩ <| hthen <| hret <| hthen_ret <| ?_
    exact hret2 trivial rfl rfl rfl [1] rfl [] rfl ⟨st, rfl, rfl, rfl, hD.le (by omega)⟩
  · have hm := RD.loadS_may (Decidable.not_not.1 h1)
    obtain ⟨ho, ho2, ha, ha2⟩ := Sup.may_other hm
    have ha3 := hm.1
    refine hcskip <| hthen <| hseq <| hseq <| hreg <| hy (fun _ => y_move rfl) <| hy (fun m => yV (y_ldN rfl ag38 sz38 (Sup.cs_len hw) ((m.blk 0 rfl).cells0)) ((rfl : _ = Value.agg d.loadS.1.cs.toArray))) <| hy (fun _ => y_fld rfl fa38_0 (by decide)) <| hy (fun m => y_ld1 rfl ag3 ((m.blk 0 rfl).cells0 0 _ sup0)) <| hy (fun _ => yV (y_sub rfl rfl (w64 (by omega) (by omega))) ((show Value.int .i64 (1 - d.loadS.1.active) = .int .i64 (d.loadS.1.other : Nat) by rw [ho2]))) <| ?_
    refine hx (xh_call rfl Tryz.call67 (imageSC hw ho hD) [1] rfl [0] rfl ?_)
    rintro _ _ _ ⟨v, rfl, rfl, rfl⟩
    refine hfactL (fun m => (m.own 1 rfl).slice) ?_
    rintro ⟨A_x, c_x, rfl, hc_x⟩
    refine hfactL (fun m => (m.ord 1 rfl).2.1) fun hA_x => ?_
    refine hy (fun _ => y_move rfl) <| hy (fun _ => y_extract rfl rfl) <| hy (fun _ => y_extract rfl rfl) <| hy (fun _ => y_assign rfl) <| hy (fun _ => y_assign rfl) <| hend <| hsub (ρ' := [(7, _), (14, _), (5, _), (4, _), (3, _), (2, _), (0, _)]) ⟨rfl, rfl, rfl, rfl, rfl, rfl, rfl, trivial⟩ <| hmemQ (X' := [_, _, _]) (S' := [_]) (fun _ m => m) <| hthen <| hseq <| hreg <| hy (fun _ => y_move rfl) <| hy (fun _ => y_neq rfl rfl) <| hend <| hsub (ρ' := [(26, _), (7, _), (14, _), (5, _), (4, _), (3, _), (2, _), (0, _)]) ⟨rfl, rfl, rfl, rfl, rfl, rfl, rfl, rfl, trivial⟩ <| hthen <| ?_
    refine hif rfl (fun h2 => ?_) (fun h2 => ?_)
    · rw [show d.backS = (d, 0, (d.imageS d.loadS.1 d.loadS.1.other).2) by rw [RD.backS, if_neg h1]; exact if_pos h2]
      refine hseq <| hreg <| hy (fun _ => y_move rfl) <| hy (fun _ => y_assign rfl) <| hy (fun _ => y_assign rfl) <| hend <| hsub (ρ' := [(3, _), (2, _), (26, _), (7, _), (14, _), (5, _), (4, _), (0, _)]) ⟨rfl, rfl, rfl, rfl, rfl, rfl, rfl, rfl, trivial⟩ <| hthen <| hret <| hthen_ret <| ?_
      exact hret2 trivial rfl rfl rfl [0] rfl [] rfl ⟨st, rfl, rfl, rfl, hD.le (by omega)⟩
    · rw [show d.backS = d.turnS d.loadS.1 by rw [RD.backS, if_neg h1]; exact if_neg h2]
      refine hcskip <| hthen <| hseq <| hreg <| hy (fun _ => y_move rfl) <| hy (fun m => yV (y_ldN rfl ag38 sz38 (Sup.cs_len hw) ((m.blk 2 rfl).cells0)) ((rfl : _ = Value.agg d.loadS.1.cs.toArray))) <| ?_
      refine hx (xh_call rfl Tryz.call125 (turnSC hw ha3 hD hkk) [0] rfl [] rfl ?_)
      rintro _ _ _ ⟨st1, rfl, rfl, rfl, h3⟩
      refine hy (fun _ => y_extract rfl rfl) <| hy (fun _ => y_extract rfl rfl) <| hy (fun _ => y_assign rfl) <| hy (fun _ => y_assign rfl) <| hend <| hsub (ρ' := [(3, _), (2, _), (26, _), (7, _), (14, _), (5, _), (4, _), (0, _)]) ⟨rfl, rfl, rfl, rfl, rfl, rfl, rfl, rfl, trivial⟩ <| hmemQ (X' := [_, _, _]) (S' := [_]) (fun _ m => m) <| hthen <| hret <| ?_
      exact hret2 trivial rfl rfl rfl [0] rfl [] rfl ⟨st1, rfl, rfl, rfl, h3⟩
end Go.Proofs.YtfikjheicjamhaaGreatDoor
end
section
/- Contracts: Stage and Flip, by the program (layer 22). -/
set_option linter.unusedVariables false
set_option linter.unusedSimpArgs false
set_option maxRecDepth 20000
namespace Go.Proofs.YtfikjheicjamhaaGreatDoor
open Go.Eng Go.Hx
theorem flipSC {g : Nat} {st : DSt} {d : RD} {kk : Nat} {im : List UInt8} (hi : im.length = 32) (hD : DS st d kk) (hkk : kk ≤ 90000) : Con Tryz.prog 52 [.pointer (some ⟨g, 0, none⟩), .agg (b8s im).toArray] [RDisk g st] [RRoots] (fun v_ X_ S_ => ∃ st1, v_ = (.tuple #[.int .i64 (d.flipS im).2.1, .int .i64 (d.flipS im).2.2]) ∧ X_ = [RDisk g st1] ∧ S_ = [] ∧ (DS st1 (d.flipS im).1 (kk + 2))) := by
  have hw := d.loadS_wf
  refine henter (N := 53) Tryz.func52 rfl rfl (by simp) fun b => ?_
  refine hseq <| hreg <| ?_
  refine hx (xh_box rfl (fun g3 => ?_))
  refine hmemL (fun w m => m.eqX 0 rfl (show _ = RBlk g3 33 (b8s im) from congrArg (RBlk _ _) (cells_agg _))) ?_
  refine hy (fun _ => y_assign rfl) <| hy (fun _ => y_assign rfl) <| hend <| hmemQ (X' := [_, _]) (S' := [_]) (fun _ m => m) <| hthen <| hseq <| hreg <| hy (fun _ => y_move rfl) <| ?_
  refine hx (xh_call rfl Tryz.call12 (loadSC hD) [1] rfl [] rfl ?_)
  rintro _ _ _ ⟨rfl, rfl, rfl⟩
  refine hy (fun _ => y_move rfl) <| hy (fun _ => y_extract rfl rfl) <| hy (fun _ => y_extract rfl rfl) <| ?_
  refine hx (xh_alloc ti38 (fun g6 => ?_))
  refine hx0 (xh_stA 0 rfl rfl rfl sz38 (Sup.cs_len hw) Sup.cs_one rfl ?_)
  refine hy (fun _ => y_assign rfl) <| hend <| hsub (ρ' := [(7, _), (6, _), (5, _), (4, _), (3, _), (0, _), (1, _)]) ⟨rfl, rfl, rfl, rfl, rfl, rfl, rfl, trivial⟩ <| hmemQ (X' := [_, _, _]) (S' := [_]) (fun _ m => m) <| hthen <| hseq <| hseq <| hreg <| hy (fun _ => y_move rfl) <| hy (fun _ => y_neq rfl rfl) <| hend <| hsub (ρ' := [(16, _), (7, _), (6, _), (5, _), (4, _), (3, _), (0, _), (1, _)]) ⟨rfl, rfl, rfl, rfl, rfl, rfl, rfl, rfl, trivial⟩ <| hthen <| ?_
  refine hif rfl (fun h1 => ?_) (fun h1 => ?_)
  · rw [show d.flipS im = (d, 0, d.loadS.2) by rw [RD.flipS, if_pos h1]]
    refine hseq <| hreg <| hy (fun _ => y_move rfl) <| hy (fun _ => y_assign rfl) <| hy (fun _ => y_assign rfl) <| hend <| hsub (ρ' := [(5, _), (4, _), (16, _), (7, _), (6, _), (3, _), (0, _), (1, _)]) ⟨rfl, rfl, rfl, rfl, rfl, rfl, rfl, rfl, trivial⟩ <| hthen <| hret <| hthen_ret <| ?_
    exact hret2 trivial rfl rfl rfl [1] rfl [] rfl ⟨st, rfl, rfl, rfl, hD.le (by omega)⟩
  · have hm := RD.loadS_may (Decidable.not_not.1 h1)
    obtain ⟨ho, ho2, ha, ha2⟩ := Sup.may_other hm
    have ha3 := hm.1
    have hlen := hD.rd_len (nSlot d.loadS.1.other)
    refine hcskip <| hthen <| hseq <| hreg <| hy (fun _ => y_fld rfl fa38_0 (by decide)) <| hy (fun m => y_ld1 rfl ag3 ((m.blk 0 rfl).cells0 0 _ sup0)) <| hy (fun _ => yV (y_sub rfl rfl (w64 (by omega) (by omega))) ((show Value.int .i64 (1 - d.loadS.1.active) = .int .i64 (d.loadS.1.other : Nat) by rw [ho2]))) <| hy (fun _ => y_assign rfl) <| hend <| hsub (ρ' := [(8, _), (16, _), (7, _), (6, _), (5, _), (4, _), (3, _), (0, _), (1, _)]) ⟨rfl, rfl, rfl, rfl, rfl, rfl, rfl, rfl, rfl, trivial⟩ <| hthen <| hseq <| hreg <| hy (fun _ => y_move rfl) <| hy (fun _ => y_move rfl) <| ?_
    refine hx (xh_call rfl Tryz.call124 (fileC ho) [] rfl [] rfl ?_)
    rintro _ _ _ ⟨rfl, rfl, rfl⟩
    refine hx (xh_call rfl Tryz.call63 (dreadC hD (p := (nSlot d.loadS.1.other))) [1] rfl [] rfl ?_)
    rintro _ _ _ ⟨v, rfl, rfl, rfl⟩
    refine hfactL (fun m => (m.own 1 rfl).slice) ?_
    rintro ⟨A_x, c_x, rfl, hc_x⟩
    refine hfactL (fun m => (m.ord 1 rfl).2.1) fun hA_x => ?_
    refine hy (fun _ => y_move rfl) <| hy (fun _ => y_extract rfl rfl) <| hy (fun _ => y_extract rfl rfl) <| hy (fun _ => y_assign rfl) <| hy (fun _ => y_assign rfl) <| hend <| hsub (ρ' := [(7, _), (9, _), (8, _), (16, _), (6, _), (5, _), (4, _), (3, _), (0, _), (1, _)]) ⟨rfl, rfl, rfl, rfl, rfl, rfl, rfl, rfl, rfl, rfl, trivial⟩ <| hmemQ (X' := [_, _, _, _]) (S' := [_]) (fun _ m => m) <| hthen <| hseq <| hblock <| hseq <| hreg <| hy (fun _ => y_move rfl) <| hy (fun _ => y_neq rfl rfl) <| hy (fun _ => y_assign rfl) <| hend <| hsub (ρ' := [(28, _), (7, _), (9, _), (8, _), (16, _), (6, _), (5, _), (4, _), (3, _), (0, _), (1, _)]) ⟨rfl, rfl, rfl, rfl, rfl, rfl, rfl, rfl, rfl, rfl, rfl, trivial⟩ <| hthen <| ?_
    generalize hse : d.loadS.1 = s at hw hm ho ho2 ha ha2 ha3 hlen ⊢
    generalize hie : s.other = i at ho ho2 hlen ⊢
    refine hif rfl (fun h2 => ?_) (fun h2 => ?_)
    · rw [show d.flipS im = (d, 0, d.readE (nSlot i)) by rw [← hie, ← hse, RD.flipS, if_neg h1]; exact if_pos (by rw [hse, hie]; exact h2)]
      refine hseq <| hreg <| hy (fun _ => y_move rfl) <| hy (fun _ => y_assign rfl) <| hy (fun _ => y_assign rfl) <| hend <| hsub (ρ' := [(5, _), (4, _), (28, _), (7, _), (9, _), (8, _), (16, _), (6, _), (3, _), (0, _), (1, _)]) ⟨rfl, rfl, rfl, rfl, rfl, rfl, rfl, rfl, rfl, rfl, rfl, trivial⟩ <| hthen <| hret <| hqblock_ret <| hthen_ret <| ?_
      exact hret2 trivial rfl rfl rfl [0] rfl [] rfl ⟨st, rfl, rfl, rfl, hD.le (by omega)⟩
    · refine hseq <| hreg <| hy (fun _ => y_move rfl) <| hy (fun _ => y_lenS rfl Tryz.underlying27) <| hy (fun _ => y_gtr rfl rfl) <| hy (fun _ => y_assign rfl) <| hend <| hsub (ρ' := [(32, _), (28, _), (7, _), (9, _), (8, _), (16, _), (6, _), (5, _), (4, _), (3, _), (0, _), (1, _)]) ⟨rfl, rfl, rfl, rfl, rfl, rfl, rfl, rfl, rfl, rfl, rfl, rfl, trivial⟩ <| hthen <| ?_
      refine hif rfl (fun h3 => ?_) (fun h3 => ?_)
      · rw [show d.flipS im = (d, 0, 3) by rw [RD.flipS, if_neg h1]; simp only [hse, hie]; rw [if_neg h2]; exact if_pos (by omega)]
        refine hseq <| hreg <| hy (fun _ => y_assign rfl) <| hy (fun _ => y_assign rfl) <| hend <| hthen <| hret <| hqblock_ret <| hthen_ret <| ?_
        exact hret2 trivial rfl rfl rfl [0] rfl [] rfl ⟨st, rfl, rfl, rfl, hD.le (by omega)⟩
      · refine hseq <| hdrw [1] [(0, some 0), (2, some 1), (1, none), (3, some 1), (4, some 1)] (by kernel_rfl) (by kernel_rfl) rfl 99 <| htyU (y_move rfl) <| hty (fun m => yV (y_ldN rfl ag33 sz33 (by rw [b8s_length, hi]) ((m.blk 3 rfl).cells0)) ((rfl : _ = Value.agg (b8s im).toArray))) <| ?_
        refine htx (xh_calll rfl Tryz.call68 (shaSumC (by omega)) [] rfl (.x 1 rfl .own (.s 0 rfl .nil)) ?_)
        rintro _ _ _ ⟨rfl, rfl, rfl⟩
        refine ⟨rfl, ?_⟩
        refine ⟨(fun _ => wk [0, 0, 0, 0] [0] rfl rfl), ?_⟩
        refine htyU (y_neD33 rfl rfl (shaL_length _) hi) <| htyU (y_assign rfl) <| htend <| hsub (ρ' := [(36, _), (32, _), (28, _), (7, _), (9, _), (8, _), (16, _), (6, _), (5, _), (4, _), (3, _), (0, _), (1, _)]) ⟨rfl, rfl, rfl, rfl, rfl, rfl, rfl, rfl, rfl, rfl, rfl, rfl, rfl, trivial⟩ <| hmemQ (X' := [_, _, _, _]) (S' := [_]) (fun _ m => m) <| hthen <| ?_
        refine hif rfl (fun h4 => ?_) (fun h4 => ?_)
        · rw [show d.flipS im = (d, 0, 7) by rw [RD.flipS, if_neg h1]; simp only [hse, hie]; rw [if_neg h2, if_neg (by omega)]; exact if_pos h4]
          refine hseq <| hreg <| hy (fun _ => y_assign rfl) <| hy (fun _ => y_assign rfl) <| hend <| hthen <| hret <| hqblock_ret <| hthen_ret <| ?_
          exact hret2 trivial rfl rfl rfl [0] rfl [] rfl ⟨st, rfl, rfl, rfl, hD.le (by omega)⟩
        · generalize hq : d.readB (nSlot i) = q at *
          rw [show d.flipS im = d.turnS (s.put i ⟨true, im, (q.length : Int)⟩) by rw [RD.flipS, if_neg h1]; simp only [hse, hie, hq]; rw [if_neg h2, if_neg (by omega)]; exact if_neg h4]
          have hxw : (Sl.mk true im (q.length : Int)).wf := ⟨hi, by show _ ≤ ((q.length : Nat) : Int); omega, by show ((q.length : Nat) : Int) ≤ _; omega⟩
          have hpw : (s.put i ⟨true, im, (q.length : Int)⟩).wf := Sup.put_wf hw hxw
          have hpa : (s.put i ⟨true, im, (q.length : Int)⟩).active = 0 ∨ (s.put i ⟨true, im, (q.length : Int)⟩).active = 1 := by unfold Sup.put; split <;> exact ha3
          refine hcskip <| hqblock <| hthen <| hseq <| hreg <| hy (fun _ => y_move rfl) <| hy (fun m => yV (y_ldN rfl ag33 sz33 (by rw [b8s_length, hi]) ((m.blk 3 rfl).cells0)) ((rfl : _ = Value.agg (b8s im).toArray))) <| hy (fun _ => y_move rfl) <| hy (fun _ => y_lenS rfl Tryz.underlying27) <| hy (fun _ => y_build ti35 rfl rfl (by kernel_rfl) (bld_sl (x := ⟨true, im, (q.length : Int)⟩) hi rfl pl35_0 pl35_1 pl35_2)) <| hy (fun _ => y_fld rfl fa38_2 (by decide)) <| hy (fun _ => y_idxA rfl rfl Tryz.underlying36 sz35 (show ((i : Nat) : Int) = _ by omega) (by omega)) <| ?_
          refine hx0 (xh_stNa 2 rfl rfl rfl sz35 (Sl.cs_len hxw) Sl.cs_one (by rw [Sup.cs_len hw]; dsimp only; omega) ?_)
          refine hmemL (fun w m => m.eqX 0 rfl (show _ = RBlk g6 38 (s.put i ⟨true, im, (q.length : Int)⟩).cs from by rw [sup_put hw ho hxw])) ?_
          refine hend <| hsub (ρ' := [(36, _), (32, _), (28, _), (7, _), (9, _), (8, _), (16, _), (6, _), (5, _), (4, _), (3, _), (0, _), (1, _)]) ⟨rfl, rfl, rfl, rfl, rfl, rfl, rfl, rfl, rfl, rfl, rfl, rfl, rfl, trivial⟩ <| hmemQ (X' := [_, _, _, _]) (S' := [_]) (fun _ m => m) <| hthen <| hseq <| hreg <| hy (fun _ => y_move rfl) <| hy (fun m => yV (y_ldN rfl ag38 sz38 (Sup.cs_len hpw) ((m.blk 0 rfl).cells0)) ((rfl : _ = Value.agg (s.put i ⟨true, im, (q.length : Int)⟩).cs.toArray))) <| ?_
          refine hx (xh_call rfl Tryz.call125 (turnSC hpw hpa hD hkk) [1] rfl [] rfl ?_)
          rintro _ _ _ ⟨st1, rfl, rfl, rfl, h5⟩
          refine hy (fun _ => y_extract rfl rfl) <| hy (fun _ => y_extract rfl rfl) <| hy (fun _ => y_assign rfl) <| hy (fun _ => y_assign rfl) <| hend <| hsub (ρ' := [(5, _), (4, _), (36, _), (32, _), (28, _), (7, _), (9, _), (8, _), (16, _), (6, _), (3, _), (0, _), (1, _)]) ⟨rfl, rfl, rfl, rfl, rfl, rfl, rfl, rfl, rfl, rfl, rfl, rfl, rfl, trivial⟩ <| hmemQ (X' := [_, _, _, _]) (S' := [_]) (fun _ m => m) <| hthen <| hret <| ?_
          exact hret2 trivial rfl rfl rfl [0] rfl [] rfl ⟨st1, rfl, rfl, rfl, h5⟩
end Go.Proofs.YtfikjheicjamhaaGreatDoor
end
section
/- Contracts: law 22's of and as. -/
set_option linter.unusedVariables false
set_option linter.unusedSimpArgs false
set_option maxRecDepth 20000
namespace Go.Proofs.YtfikjheicjamhaaGreatDoor
open Go.Eng Go.Hx
theorem splice_back {a r c : List Value} {o : Nat} (ha : a.length = o) (hc : c.length = r.length) : splice (a ++ r) o c = a ++ c := by
  have := splice_app (a := a) (b := r) (c := []) (vs := c) ha hc
  simpa using this
theorem bld_sup4 {P : Program} {pl : Nat → Option (Nat × Nat)} {s : Sup} (h : s.wf) {zs : List Value} (hz : zs.length = 70) (p0 : pl 0 = some (0, 1)) (p1 : pl 1 = some (1, 1)) (p2 : pl 2 = some (2, 34)) (p3 : pl 3 = some (36, 34)) :
    Bld P pl zs [(0, .int .i64 s.active), (1, .int .i64 s.gen), (2, .agg s.s0.cs.toArray), (3, .agg s.s1.cs.toArray)] s.cs := by
  match zs, hz with
  | z0 :: z1 :: r, hz =>
    have hr : r.length = 68 := by simpa using hz
    have h1 := Sl.cs_len h.w0
    have h2 := Sl.cs_len h.w1
    have e1 : splice ([Value.int .i64 s.active, .int .i64 s.gen] ++ r) 2 s.s0.cs = ([Value.int .i64 s.active, .int .i64 s.gen] ++ s.s0.cs) ++ r.drop 34 := by
      have := splice_app (a := [Value.int .i64 s.active, .int .i64 s.gen]) (b := r.take 34) (c := r.drop 34) (vs := s.s0.cs) (o := 2) rfl (by rw [List.length_take]; omega)
      rwa [List.append_assoc _ (r.take 34), List.take_append_drop] at this
    refine .cons (vs := [.int .i64 s.active]) p0 rfl rfl (by show 0 + 1 ≤ (z0 :: z1 :: r).length; omega) (.cons (vs := [.int .i64 s.gen]) p1 rfl rfl (by show 1 + 1 ≤ (Value.int .i64 s.active :: z1 :: r).length; simp) (.cons (vs := s.s0.cs) p2 rfl h1 (by show 2 + 34 ≤ (Value.int .i64 s.active :: Value.int .i64 s.gen :: r).length; simp; omega) ?_))
    show Bld P pl (splice ([Value.int .i64 s.active, .int .i64 s.gen] ++ r) 2 s.s0.cs) [(3, .agg s.s1.cs.toArray)] s.cs
    rw [e1]
    have e2 : splice (([Value.int .i64 s.active, .int .i64 s.gen] ++ s.s0.cs) ++ r.drop 34) 36 s.s1.cs = s.cs := splice_back (by rw [List.length_append, h1]; rfl) (by rw [List.length_drop]; omega)
    refine .cons (vs := s.s1.cs) p3 rfl h2 (by simp; omega) ?_
    rw [e2]
    exact .nil
theorem asSC {s : Sup} (h : s.wf) : Con Tryz.prog 16 [.agg s.cs.toArray] [] [] (fun v_ X_ S_ => v_ = (.agg s.cs.toArray) ∧ X_ = [] ∧ S_ = []) := by
  refine henter (N := 14) Tryz.func16 rfl rfl (by simp) fun b => ?_
  refine hseq <| hreg <| ?_
  refine hx (xh_box rfl (fun g1 => ?_))
  refine hmemL (fun w m => m.eqX 0 rfl (show _ = RBlk g1 38 s.cs from congrArg (RBlk _ _) (cells_agg _))) ?_
  refine hx (xh_alloc ti51 (fun g2 => ?_))
  refine hend <| hmemQ (X' := [_, _]) (S' := []) (fun _ m => m) <| hthen <| hseq <| hreg <| hy (fun _ => y_fld rfl fa38_0 (by decide)) <| hy (fun m => y_ld1 rfl ag3 ((m.blk 1 rfl).cells0 0 _ sup0)) <| hy (fun _ => y_fld rfl fa38_1 (by decide)) <| hy (fun m => y_ld1 rfl ag3 ((m.blk 1 rfl).cells0 1 _ sup1)) <| hy (fun _ => y_fld rfl fa38_2 (by decide)) <| hy (fun _ => y_idxA rfl rfl Tryz.underlying36 sz35 (show ((0 : Nat) : Int) = 0 from rfl) (by omega)) <| hy (fun m => yV (y_ldN rfl ag35 sz35 (Sl.cs_len h.w0) (fun j u hu => by rw [add_add, add_add, show 2 + (0 * 34 + j) = 2 + j by omega]; exact (m.blk 1 rfl).cells0 (2 + j) u (sup_s0 hu))) ((rfl : _ = Value.agg s.s0.cs.toArray))) <| hy (fun _ => y_fld rfl fa38_2 (by decide)) <| hy (fun _ => y_idxA rfl rfl Tryz.underlying36 sz35 (show ((1 : Nat) : Int) = 1 from rfl) (by omega)) <| hy (fun m => yV (y_ldN rfl ag35 sz35 (Sl.cs_len h.w1) (fun j u hu => by rw [add_add, add_add, show 2 + (1 * 34 + j) = 36 + j by omega]; exact (m.blk 1 rfl).cells0 (36 + j) u (sup_s1 h hu))) ((rfl : _ = Value.agg s.s1.cs.toArray))) <| hy (fun _ => y_build ti51 rfl rfl (by kernel_rfl) (bld_sup4 h rfl pl51_0 pl51_1 pl51_2 pl51_3)) <| ?_
  refine hx0 (xh_stA 0 rfl rfl rfl sz51 (Sup.cs_len h) (Sup.cs_one (s := s)) rfl ?_)
  refine hend <| hsub (ρ' := [(2, _), (1, _), (0, _)]) ⟨rfl, rfl, rfl, trivial⟩ <| hmemQ (X' := [_, _]) (S' := []) (fun _ m => m) <| hthen <| hret <| ?_
  exact hretN trivial rfl rfl ag51 sz51 (Sup.cs_len h) (fun m => (m.blk 0 rfl).cells0) [] rfl [] rfl ⟨rfl, rfl, rfl⟩
end Go.Proofs.YtfikjheicjamhaaGreatDoor
end
section
/- Plain disks that hold superblocks and their images: what each function of layer 22 leaves. No program. -/
set_option linter.unusedVariables false
set_option linter.unusedSimpArgs false
namespace Go.Proofs.YtfikjheicjamhaaGreatDoor
open Go.Eng Go.Hx
theorem totF_filter (q : FP → Bool) (l : List FP) : totF (l.filter q) ≤ totF l := by
  induction l with
  | nil => exact Nat.le_refl _
  | cons x r ih =>
    rw [List.filter_cons]
    have e : totF (x :: r) = x.2.length + totF r := by simp [totF]
    split
    · have e2 : totF (x :: r.filter q) = x.2.length + totF (r.filter q) := by simp [totF]
      omega
    · omega
theorem totF_filter_mem {q : FP → Bool} {l : List FP} {x : FP} (hx : x ∈ l) (hq : q x = false) : totF (l.filter q) + x.2.length ≤ totF l := by
  induction l with
  | nil => cases hx
  | cons y r ih =>
    rw [List.filter_cons]
    have e : totF (y :: r) = y.2.length + totF r := by simp [totF]
    rcases List.mem_cons.1 hx with rfl | hm
    · rw [hq]
      have := totF_filter q r
      simp only [Bool.false_eq_true, if_false]
      omega
    · have h1 := ih hm
      split
      · have e2 : totF (y :: r.filter q) = y.2.length + totF (r.filter q) := by simp [totF]
        omega
      · omega
theorem totF_ins (l : List FP) (f : FP) : totF (insF l f) ≤ totF l + f.2.length := by
  induction l with
  | nil => simp [insF, totF]
  | cons x r ih =>
    have e : totF (x :: r) = x.2.length + totF r := by simp [totF]
    rw [insF]
    split
    · have e2 : totF (x :: insF r f) = x.2.length + totF (insF r f) := by simp [totF]
      omega
    · have e2 : totF (f :: (x :: r).filter fun y => decide (y.1 ≠ f.1)) = f.2.length + totF ((x :: r).filter fun y => decide (y.1 ≠ f.1)) := by simp [totF]
      have := totF_filter (fun y => decide (y.1 ≠ f.1)) (x :: r)
      omega
/-- a disk that is up for good: what lies on it, how much, and its room -/
structure At (d : RD) (F : List UInt8 → Option (List UInt8)) (T : Nat) (room : Int) : Prop where
  pw : d.pw = -1
  room : d.room = room
  look : ∀ p, lk d.seen p = F p
  tot : totF d.seen ≤ T
def fup (F : List UInt8 → Option (List UInt8)) (p : List UInt8) (v : Option (List UInt8)) : List UInt8 → Option (List UInt8) := fun q => if q = p then v else F q
theorem At.readE {d : RD} {F : List UInt8 → Option (List UInt8)} {T : Nat} {room : Int} (h : At d F T room) (p : List UInt8) : d.readE p = if F p = none then 4 else 0 := by
  have h1 := h.look p
  rw [← lk_find] at h1
  rw [RD.readE, if_neg (by rw [h.pw]; decide)]
  cases hq : d.seen[findN d.seen p]? with
  | none => rw [hq] at h1; rw [if_pos rfl, if_pos (by rw [← h1]; rfl)]
  | some x => rw [hq] at h1; rw [if_neg (by simp), if_neg (by rw [← h1]; simp)]
theorem At.readB {d : RD} {F : List UInt8 → Option (List UInt8)} {T : Nat} {room : Int} (h : At d F T room) (p : List UInt8) : d.readB p = (F p).getD [] := by
  have h1 := h.look p
  rw [← lk_find] at h1
  rw [RD.readB, if_neg (by rw [h.pw]; decide), h1]
theorem At.writeE {d : RD} {F : List UInt8 → Option (List UInt8)} {T : Nat} {room : Int} (h : At d F T room) {p l : List UInt8} (hp : Named p) (hr : (T : Int) + (l.length : Nat) ≤ room) : d.writeE p l = 0 := by
  have h1 := h.tot
  have h2 := h.room
  rw [RD.writeE, if_neg (fun h => h hp), if_neg (by rw [h.pw]; decide), if_neg (by omega)]
theorem At.write {d : RD} {F : List UInt8 → Option (List UInt8)} {T : Nat} {room : Int} (h : At d F T room) {p l : List UInt8} (hp : Named p) (hr : (T : Int) + (l.length : Nat) ≤ room) : At (d.write p l) (fup F p (some l)) (T + l.length) room := by
  have hs : (d.write p l).seen = insF d.seen (p, l) := by
    rw [RD.write, if_pos (h.writeE hp hr)]
    show makeF d.seen 0 p [] l = _
    rw [makeF, if_pos rfl, withF_ins]
  refine ⟨?_, ?_, fun q => ?_, ?_⟩
  · rw [RD.write, if_pos (h.writeE hp hr)]
    show lessP d.pw = -1
    rw [h.pw]; rfl
  · rw [RD.write, if_pos (h.writeE hp hr)]; exact h.room
  · rw [hs, lk_ins]
    unfold fup
    split
    · rfl
    · exact h.look q
  · rw [hs]
    have := totF_ins d.seen (p, l)
    have := h.tot
    have e : (p, l).2.length = l.length := rfl
    omega
theorem At.syncE {d : RD} {F : List UInt8 → Option (List UInt8)} {T : Nat} {room : Int} (h : At d F T room) : d.syncE = 0 := by rw [RD.syncE, if_neg (by rw [h.pw]; decide)]
theorem At.sync {d : RD} {F : List UInt8 → Option (List UInt8)} {T : Nat} {room : Int} (h : At d F T room) : At d.sync F T room := by
  have e : d.sync = { d with lasts := d.seen, waits := [], pw := lessP d.pw } := by rw [RD.sync, if_neg (by rw [h.pw]; decide)]
  rw [e]
  exact ⟨by show lessP d.pw = -1; rw [h.pw]; rfl, h.room, h.look, h.tot⟩
theorem At.renameE {d : RD} {F : List UInt8 → Option (List UInt8)} {T : Nat} {room : Int} (h : At d F T room) {a c x : List UInt8} (hc : Named c) (hx : F a = some x) : d.renameE a c = 0 := by
  rw [RD.renameE, if_neg (fun h => h hc), h.readE, if_neg (by rw [hx]; simp)]
theorem At.rename {d : RD} {F : List UInt8 → Option (List UInt8)} {T : Nat} {room : Int} (h : At d F T room) {a c x : List UInt8} (hc : Named c) (hx : F a = some x) : At (d.rename a c) (fup (fup F a none) c (some x)) T room := by
  have h1 := h.look a
  rw [← lk_find, hx] at h1
  obtain ⟨y, hy, hyx⟩ : ∃ y, d.seen[findN d.seen a]? = some y ∧ y.2 = x := by
    cases hq : d.seen[findN d.seen a]? with
    | none => rw [hq] at h1; cases h1
    | some y => rw [hq] at h1; exact ⟨y, rfl, by simpa using h1⟩
  have hya : y.1 = a := by
    obtain ⟨hi, he⟩ := List.getElem?_eq_some_iff.1 hy
    have := List.findIdx_getElem (p := fun x : FP => decide (x.1 = a)) (xs := d.seen) (w := hi)
    rw [← he]
    exact of_decide_eq_true this
  have hs : (d.rename a c).seen = insF (withoutF d.seen a) (c, x) := by
    rw [RD.rename, if_pos (h.renameE hc hx)]
    show makeF d.seen 1 a c [] = _
    rw [makeF, if_neg (by decide), hy]
    show (if (1 : Int) = 2 then _ else _) = _
    rw [if_neg (by decide), withF_ins, hyx]
  refine ⟨?_, ?_, fun q => ?_, ?_⟩
  · rw [RD.rename, if_pos (h.renameE hc hx)]
    show lessP d.pw = -1
    rw [h.pw]; rfl
  · rw [RD.rename, if_pos (h.renameE hc hx)]; exact h.room
  · rw [hs, lk_ins]
    unfold fup withoutF
    split
    · rfl
    · rw [lk_filter]
      split
      · rfl
      · exact h.look q
  · rw [hs]
    have h2 := totF_ins (withoutF d.seen a) (c, x)
    have h3 : totF (withoutF d.seen a) + y.2.length ≤ totF d.seen := totF_filter_mem (List.mem_of_getElem? hy) (by simp [hya])
    have := h.tot
    have e : (c, x).2.length = x.length := rfl
    rw [hyx] at h3
    omega
theorem takeE_put (l : List UInt8) : takeE (putL l) = 0 := by
  have hl := putL_length l
  have e : (putL l).take ((putL l).length - 4) = l := by rw [hl, Nat.add_sub_cancel, putL, List.take_left]
  rw [takeE, if_neg (by omega), e, if_pos rfl]
theorem num4_app {a : List UInt8} (h : a.length = 4) (r : List UInt8) : num4 (a ++ r) = num4 a := by
  match a, h with
  | [a0, a1, a2, a3], _ => rfl
theorem rdSl_by {x : Sl} (h : x.wf) (hm : x.may) (r : List UInt8) : rdSl (x.by_ ++ r) = x := by
  have hz : x.size = (x.size.toNat : Int) ∧ x.size.toNat ≤ 65536 := by have := hm.1; have := hm.2.1; omega
  have e : x.by_ ++ r = (if x.full then 1 else 0) :: (x.image ++ (le4 x.size.toNat ++ r)) := by simp [Sl.by_]
  have e1 : ((x.by_ ++ r).drop 1).take 32 = x.image := by
    rw [e, List.drop_succ_cons, List.drop_zero, List.take_append_of_le_length (by rw [h.len]; exact Nat.le_refl _), List.take_of_length_le (by rw [h.len]; exact Nat.le_refl _)]
  have e2 : (x.by_ ++ r).drop 33 = le4 x.size.toNat ++ r := by
    rw [e, List.drop_succ_cons, ← h.len, List.drop_left]
  have e3 : decide ((x.by_ ++ r).getD 0 0 = 1) = x.full := by
    rw [e]
    cases x.full <;> rfl
  unfold rdSl
  rw [e1, e2, e3, num4_app (le4_length _), num4_le4 (by omega), ← hz.1]
theorem rdBody_body {s : Sup} (h : s.wf) (hm : s.may) : rdBody s.body = s := by
  obtain ⟨ha, ha1, hg, hg1⟩ : s.active = (s.active.toNat : Int) ∧ s.active.toNat ≤ 1 ∧ s.gen = (s.gen.toNat : Int) ∧ s.gen.toNat ≤ 2147483647 := by
    obtain ⟨h1, h2, h3, _⟩ := hm
    omega
  have l0 := Sl.by_len h.w0
  have l1 := Sl.by_len h.w1
  have d9 : s.body.drop 9 = s.s0.by_ ++ s.s1.by_ := rfl
  have d5 : s.body.drop 5 = le4 s.gen.toNat ++ (s.s0.by_ ++ s.s1.by_) := rfl
  have g4 : s.body.getD 4 0 = UInt8.ofNat s.active.toNat := rfl
  have d46 : s.body.drop 46 = s.s1.by_ ++ [] := by
    rw [show (46 : Nat) = 9 + 37 from rfl, ← List.drop_drop, d9, List.append_nil, ← l0, List.drop_left]
  have e4 : ((UInt8.ofNat s.active.toNat).toNat : Int) = s.active := by
    rw [UInt8.toNat_ofNat', Nat.mod_eq_of_lt (by omega), ← ha]
  unfold rdBody
  rw [g4, d5, d9, d46, rdSl_by h.w0 hm.2.2.2.1, rdSl_by h.w1 hm.2.2.2.2, num4_app (le4_length _), num4_le4 (by omega), ← hg, e4]
theorem rdSup_bytes {s : Sup} (h : s.wf) (hm : s.may) : rdSup s.bytes = (s, 0) := by
  have hl := Sup.body_len h
  have hb := rdBody_body h hm
  have e : s.bytes.take (s.bytes.length - 4) = s.body := by rw [Sup.bytes, putL_length, Nat.add_sub_cancel, putL, List.take_left]
  have bit : ∀ x : Sl, ((if x.full then 1 else 0 : UInt8)).toNat ≤ 1 := fun x => by cases x.full <;> decide
  have l0 := Sl.by_len h.w0
  have g46 : s.body.getD 46 0 = (if s.s1.full then 1 else 0) := by
    have : s.body.getD 46 0 = (s.body.drop 46).getD 0 0 := by simp [List.getD]
    rw [this, show (46 : Nat) = 9 + 37 from rfl, ← List.drop_drop, show s.body.drop 9 = s.s0.by_ ++ s.s1.by_ from rfl, ← l0, List.drop_left]
    rfl
  have hok : rdOk s.body := ⟨hl, rfl, bit s.s0, by rw [g46]; exact bit s.s1, by rw [hb]; exact hm⟩
  rw [rdSup, if_neg (by rw [Sup.bytes, takeE_put]; decide), e, if_pos hok, hb]
end Go.Proofs.YtfikjheicjamhaaGreatDoor
end
section
/- Law SlotsReads: the document reads a superblock that has the same bytes again: which is what the program tells. No program. -/
set_option linter.unusedVariables false
set_option linter.unusedSimpArgs false
namespace Go.Proofs.YtfikjheicjamhaaGreatDoor
open Go.Eng Go.Hx
theorem le4_num4_take {l : List UInt8} (h : 4 ≤ l.length) : le4 (num4 l) = l.take 4 := by
  have e : num4 l = num4 (l.take 4) := by
    have e1 := num4_app (a := l.take 4) (by rw [List.length_take]; omega) (l.drop 4)
    rwa [List.take_append_drop] at e1
  rw [e, le4_num4 (by rw [List.length_take]; omega)]
theorem rdSl_back {l : List UInt8} (hl : 37 ≤ l.length) (h : (l.getD 0 0).toNat ≤ 1) : (rdSl l).by_ = l.take 37 := by
  match l, hl with
  | l0 :: r, hl =>
    have hr : 36 ≤ r.length := by simpa using hl
    have e1 : (if (rdSl (l0 :: r)).full then (1 : UInt8) else 0) = l0 := by
      have h' : l0.toNat ≤ 1 := h
      show (if decide (l0 = 1) = true then (1 : UInt8) else 0) = l0
      by_cases hl0 : l0 = 1
      · rw [if_pos (decide_eq_true hl0), hl0]
      · rw [if_neg (by simpa using hl0)]
        refine UInt8.toNat_inj.1 ?_
        have : l0.toNat ≠ 1 := fun hh => hl0 (UInt8.toNat_inj.1 hh)
        show 0 = l0.toNat
        omega
    have e2 : (rdSl (l0 :: r)).image = r.take 32 := rfl
    have e3 : (rdSl (l0 :: r)).size.toNat = num4 (r.drop 32) := Int.toNat_natCast _
    have e4 : r.take 36 = r.take 32 ++ (r.drop 32).take 4 := List.take_add (i := 32) (j := 4)
    rw [Sl.by_, e1, e2, e3, le4_num4_take (by rw [List.length_drop]; omega), List.take_succ_cons, e4]
theorem rdBody_back {B : List UInt8} (h : B.length = 83) (hp : B.take 4 = [76, 84, 83, 49]) (h9 : (B.getD 9 0).toNat ≤ 1) (h46 : (B.getD 46 0).toNat ≤ 1) : (rdBody B).body = B := by
  have g0 : ∀ k, (B.drop k).getD 0 0 = B.getD k 0 := fun k => by simp [List.getD]
  have e0 : (rdBody B).s0.by_ = (B.drop 9).take 37 := rdSl_back (by rw [List.length_drop]; omega) (by rw [g0]; exact h9)
  have e1 : (rdBody B).s1.by_ = (B.drop 46).take 37 := rdSl_back (by rw [List.length_drop]; omega) (by rw [g0]; exact h46)
  have e2 : le4 (rdBody B).gen.toNat = (B.drop 5).take 4 := by
    show le4 (((num4 (B.drop 5) : Nat) : Int).toNat) = _
    rw [Int.toNat_natCast]
    exact le4_num4_take (by rw [List.length_drop]; omega)
  have e3 : [UInt8.ofNat (rdBody B).active.toNat] = (B.drop 4).take 1 := by
    show [UInt8.ofNat ((((B.getD 4 0).toNat : Nat) : Int).toNat)] = _
    rw [Int.toNat_natCast, UInt8.ofNat_toNat, ← g0]
    cases hq : B.drop 4 with
    | nil => exact absurd (congrArg List.length hq) (by rw [List.length_drop, h]; decide)
    | cons q r => rfl
  have t1 : B.take 4 ++ (B.drop 4).take 1 = B.take 5 := (List.take_add (i := 4) (j := 1)).symm
  have t2 : B.take 5 ++ (B.drop 5).take 4 = B.take 9 := (List.take_add (i := 5) (j := 4)).symm
  have t3 : B.take 9 ++ (B.drop 9).take 37 = B.take 46 := (List.take_add (i := 9) (j := 37)).symm
  have t4 : B.take 46 ++ (B.drop 46).take 37 = B.take 83 := (List.take_add (i := 46) (j := 37)).symm
  rw [Sup.body, e0, e1, e2, e3, ← hp, t1, t2, t3, t4, List.take_of_length_le (by omega)]
theorem getD_app {a r : List UInt8} {n : Nat} (h : a.length = n) : (a ++ r).getD n 0 = r.getD 0 0 := by
  subst h
  simp [List.getD, List.getElem?_append_right]
theorem by_first (x : Sl) : (x.by_.getD 0 0).toNat ≤ 1 := by
  show (if x.full then (1 : UInt8) else 0).toNat ≤ 1
  cases x.full <;> decide
theorem rdOk_back {B : List UInt8} (h : B.length = 83) (hm : (rdBody B).may) : rdOk B ↔ (rdBody B).body = B := by
  constructor
  · rintro ⟨_, h1, h2, h3, _⟩
    exact rdBody_back h h1 h2 h3
  · intro hb
    have hw := rdBody_wf h
    have q0 : B.take 4 = [76, 84, 83, 49] := by
      rw [← hb]
      rfl
    have q1 : (B.getD 9 0).toNat ≤ 1 := by
      have e : (rdBody B).body.getD 9 0 = (rdBody B).s0.by_.getD 0 0 := by
        have : (rdBody B).body = ([76, 84, 83, 49] ++ [UInt8.ofNat (rdBody B).active.toNat] ++ le4 (rdBody B).gen.toNat) ++ ((rdBody B).s0.by_ ++ (rdBody B).s1.by_) := by simp [Sup.body]
        rw [this, getD_app (by simp [le4_length])]
        rfl
      rw [hb] at e
      rw [e]
      exact by_first _
    have q2 : (B.getD 46 0).toNat ≤ 1 := by
      have e : (rdBody B).body.getD 46 0 = (rdBody B).s1.by_.getD 0 0 := by
        rw [Sup.body, getD_app (by simp [le4_length, Sl.by_len hw.w0])]
      rw [hb] at e
      rw [e]
      exact by_first _
    exact ⟨h, q0, q1, q2, hm⟩
theorem putL_takeB {l : List UInt8} (h0 : takeE l = 0) : putL (l.take (l.length - 4)) = l := by
  unfold takeE at h0
  split at h0
  · exact absurd h0 (by decide)
  · split at h0
    · rename_i h1 h2
      exact h2
    · exact absurd h0 (by decide)
/-- the document's reading -/
theorem rdSup_ref {l : List UInt8} (h0 : takeE l = 0) (h83 : (l.take (l.length - 4)).length = 83) : rdOk (l.take (l.length - 4)) ↔ (rdBody (l.take (l.length - 4))).may ∧ (rdBody (l.take (l.length - 4))).bytes = l := by
  constructor
  · intro hk
    refine ⟨hk.2.2.2.2, ?_⟩
    rw [Sup.bytes, (rdOk_back h83 hk.2.2.2.2).1 hk, putL_takeB h0]
  · rintro ⟨hm, hb⟩
    refine (rdOk_back h83 hm).2 (putL_inj ?_)
    rw [putL_takeB h0]
    exact hb
end Go.Proofs.YtfikjheicjamhaaGreatDoor
end
section
/- Contract: the document's Read of a superblock. -/
set_option linter.unusedVariables false
set_option linter.unusedSimpArgs false
set_option maxRecDepth 20000
namespace Go.Proofs.YtfikjheicjamhaaGreatDoor
open Go.Eng Go.Hx
theorem rtakeC {A : Option Addr} {n c : Nat} {l : List UInt8} (hc : n ≤ c) (hn : n ≤ 70368744177664) : Con Tryz.prog 133 [.slice A n c] [] [RRd 1 A n (b8s l)] (fun v_ X_ S_ => ∃ v, v_ = (.tuple #[v, .int .i64 (takeE l)]) ∧ X_ = [] ∧ S_ = [] ∧ (takeE l = 0 → v = .slice A (n - 4) c)) := by
  exact con_pure fun m => Calls.mono (rTake A n c l _ (m.rd 0 rfl) hc hn) (fun e w' ⟨⟨v, h1, h2⟩, hf⟩ => ⟨_, h1, ⟨v, rfl, rfl, rfl, fun h => (h2 h).1⟩, hf⟩)
theorem numSC {A : Option Addr} {n c i : Nat} {l : List UInt8} (hi : i + 4 ≤ n) (hn : n ≤ 1000000000) : Con Tryz.prog 134 [.slice A n c, .int .i64 (i : Nat)] [] [RRd 1 A n (b8s l)] (fun v_ X_ S_ => v_ = (.int .i64 (num4 (l.drop i) : Nat)) ∧ X_ = [] ∧ S_ = []) := by
  have hv : num4 (l.drop i) = (l.getD i 0).toNat + 256 * (l.getD (i + 1) 0).toNat + 65536 * (l.getD (i + 2) 0).toNat + 16777216 * (l.getD (i + 3) 0).toNat := by simp [num4, List.getD]
  have b0 := (l.getD i 0).toNat_lt
  have b1 := (l.getD (i + 1) 0).toNat_lt
  have b2 := (l.getD (i + 2) 0).toNat_lt
  have b3 := (l.getD (i + 3) 0).toNat_lt
  refine henter (N := 34) Tryz.func134 rfl rfl (by simp) fun b => ?_
  refine hfactC (fun m => rdB (m.rd 0 rfl)) ?_
  rintro ⟨hl_r, hA_r⟩
  refine hseq <| hreg <| hy (fun _ => y_assign rfl) <| hend <| hthen <| hseq <| hdrw [] [(0, some 0), (1, some 0), (2, some 0), (3, some 0), (4, some 0), (5, some 0), (6, some 0), (7, some 0), (8, some 0), (9, some 0), (10, some 0), (11, some 0), (12, some 0), (13, some 0), (14, some 0), (15, some 0), (16, some 0), (17, some 0), (18, some 0), (19, some 0), (20, some 0), (21, some 0), (22, some 0), (23, some 0), (24, some 0), (25, some 0), (26, some 0), (27, some 0), (28, some 0), (29, some 0)] (by kernel_rfl) (by kernel_rfl) rfl 99 <| htyU (y_move rfl) <| htyU (y_move rfl) <| htyU (y_idxS1 rfl rfl Tryz.underlying27 sz5 hA_r rfl (by omega)) <| hty (fun m => y_ld1 rfl ag5 ((m.rd 0 rfl).cell (b8s_get (by omega)))) <| htyU (y_conv rfl Tryz.underlying5 Tryz.underlying3 (w64 (by omega) (by omega))) <| htyU (y_move rfl) <| htyU (y_move rfl) <| htyU (y_add rfl rfl (w64 (by omega) (by omega))) <| htyU (y_idxS1 rfl rfl Tryz.underlying27 sz5 hA_r (show ((i + 1 : Nat) : Int) = _ by omega) (by omega)) <| hty (fun m => y_ld1 rfl ag5 ((m.rd 0 rfl).cell (b8s_get (by omega)))) <| htyU (y_conv rfl Tryz.underlying5 Tryz.underlying3 (w64 (by omega) (by omega))) <| htyU (y_mul rfl rfl (w64 (by omega) (by omega))) <| htyU (y_add rfl rfl (w64 (by omega) (by omega))) <| htyU (y_move rfl) <| htyU (y_move rfl) <| htyU (y_add rfl rfl (w64 (by omega) (by omega))) <| htyU (y_idxS1 rfl rfl Tryz.underlying27 sz5 hA_r (show ((i + 2 : Nat) : Int) = _ by omega) (by omega)) <| hty (fun m => y_ld1 rfl ag5 ((m.rd 0 rfl).cell (b8s_get (by omega)))) <| htyU (y_conv rfl Tryz.underlying5 Tryz.underlying3 (w64 (by omega) (by omega))) <| htyU (y_mul rfl rfl (w64 (by omega) (by omega))) <| htyU (y_add rfl rfl (w64 (by omega) (by omega))) <| htyU (y_move rfl) <| htyU (y_move rfl) <| htyU (y_add rfl rfl (w64 (by omega) (by omega))) <| htyU (y_idxS1 rfl rfl Tryz.underlying27 sz5 hA_r (show ((i + 3 : Nat) : Int) = _ by omega) (by omega)) <| hty (fun m => y_ld1 rfl ag5 ((m.rd 0 rfl).cell (b8s_get (by omega)))) <| htyU (y_conv rfl Tryz.underlying5 Tryz.underlying3 (w64 (by omega) (by omega))) <| htyU (y_mul rfl rfl (w64 (by omega) (by omega))) <| htyU (yV (y_add rfl rfl (w64 (by omega) (by omega))) ((show Value.int .i64 (((l.getD i 0).toNat : Int) + 256 * ((l.getD (i + 1) 0).toNat : Int) + 65536 * ((l.getD (i + 2) 0).toNat : Int) + 16777216 * ((l.getD (i + 3) 0).toNat : Int)) = .int .i64 (num4 (l.drop i) : Nat) by rw [hv]; congr 1))) <| htyU (y_assign rfl) <| htend <| hsub (ρ' := [(4, _), (0, _), (1, _)]) ⟨rfl, rfl, rfl, trivial⟩ <| hthen <| hret <| ?_
  exact hret1 trivial rfl rfl [] rfl [] rfl ⟨rfl, rfl, rfl⟩
theorem rreadSC {A : Option Addr} {n c : Nat} {l : List UInt8} (hc : n ≤ c) (hn : n ≤ 1000000000) : Con Tryz.prog 66 [.slice A n c] [] [RRd 1 A n (b8s l)] (fun v_ X_ S_ => v_ = (.tuple #[.agg (rdSup l).1.cs.toArray, .int .i64 (rdSup l).2]) ∧ X_ = [] ∧ S_ = []) := by
  refine henter (N := 64) Tryz.func66 rfl rfl (by simp) fun b => ?_
  refine hfactC (fun m => rdB (m.rd 0 rfl)) ?_
  rintro ⟨hl_r, hA_r⟩
  refine hseq <| hreg <| ?_
  refine hx (xh_alloc ti51 (fun g2 => ?_))
  refine hy (fun _ => y_assign rfl) <| hend <| hmemQ (X' := [_]) (S' := [_]) (fun _ m => m) <| hthen <| hseq <| hreg <| hy (fun _ => y_move rfl) <| ?_
  refine hx (xh_call rfl Tryz.call133 (rtakeC (by omega) (by omega)) [] rfl [0] rfl ?_)
  rintro _ _ _ ⟨v, rfl, rfl, rfl, hp⟩
  refine hy (fun _ => y_move rfl) <| hy (fun _ => y_extract rfl rfl) <| hy (fun _ => y_extract rfl rfl) <| hy (fun _ => y_assign rfl) <| hy (fun _ => y_assign rfl) <| hend <| hsub (ρ' := [(5, _), (4, _), (3, _), (2, _), (0, _)]) ⟨rfl, rfl, rfl, rfl, rfl, trivial⟩ <| hmemQ (X' := [_]) (S' := [_]) (fun _ m => m) <| hthen <| hseq <| hseq <| hreg <| hy (fun _ => y_move rfl) <| hy (fun _ => y_neq rfl rfl) <| hend <| hsub (ρ' := [(14, _), (5, _), (4, _), (3, _), (2, _), (0, _)]) ⟨rfl, rfl, rfl, rfl, rfl, rfl, trivial⟩ <| hthen <| ?_
  refine hif rfl (fun h0 => ?_) (fun h0 => ?_)
  · rw [show rdSup l = (Sup.zero, takeE l) by rw [rdSup, if_pos h0]]
    refine hseq <| hreg <| hy (fun _ => y_build0 ti51 rfl (by kernel_rfl)) <| hy (fun _ => y_move rfl) <| ?_
    refine hx0 (xh_stA 0 rfl rfl rfl sz51 (Sup.cs_len Sup.zero_wf) (Sup.cs_one (s := Sup.zero)) rfl ?_)
    refine hy (fun _ => y_assign rfl) <| hend <| hsub (ρ' := [(3, _), (14, _), (5, _), (4, _), (2, _), (0, _)]) ⟨rfl, rfl, rfl, rfl, rfl, rfl, trivial⟩ <| hmemQ (X' := [_]) (S' := [_]) (fun _ m => m) <| hthen <| hret <| hthen_ret <| ?_
    exact hretN1 trivial rfl rfl rfl ag51 sz51 (Sup.cs_len Sup.zero_wf) (fun m => (m.blk 0 rfl).cells0) [] rfl [] rfl ⟨rfl, rfl, rfl⟩
  · have h0 := Decidable.not_not.1 h0
    have hn4 : 4 ≤ n := by
      rcases Nat.lt_or_ge l.length 4 with hlt | hge
      · rw [(takeE_2 hlt).1] at h0; omega
      · omega
    obtain rfl := hp h0
    have hbad : ¬ rdOk (l.take (l.length - 4)) → rdSup l = (Sup.zero, 2) := fun hb => by rw [rdSup, if_neg (by omega), if_neg hb]
    have hok : rdOk (l.take (l.length - 4)) → rdSup l = (rdBody (l.take (l.length - 4)), 0) := fun hb => by rw [rdSup, if_neg (by omega), if_pos hb]
    have href := fun h83 => rdSup_ref h0 h83
    have hbl : (l.take (l.length - 4)).length = n - 4 := by rw [List.length_take]; omega
    refine hmemC (fun w m => m.asV 0 rfl (View.take (k := n - 4) (by omega))) ?_
    refine hfactC (fun m => rdB (m.rd 0 rfl)) ?_
    rintro ⟨hl_bd, hA_bd⟩
    have hln : l.take (n - 4) = l.take (l.length - 4) := by rw [hl_r]
    rw [hln]
    generalize l.take (l.length - 4) = B at hbad hok href hbl ⊢
    refine hcskip <| hthen <| hseq <| hseq <| hreg <| hy (fun _ => y_move rfl) <| hy (fun _ => y_lenS rfl Tryz.underlying27) <| hy (fun _ => y_neq rfl rfl) <| hend <| hsub (ρ' := [(19, _), (14, _), (5, _), (4, _), (3, _), (2, _), (0, _)]) ⟨rfl, rfl, rfl, rfl, rfl, rfl, rfl, trivial⟩ <| hthen <| ?_
    refine hif rfl (fun h83 => ?_) (fun h83 => ?_)
    · rw [hbad (fun hb => h83 (by have := hb.1; omega))]
      refine hseq <| hreg <| hy (fun _ => y_build0 ti51 rfl (by kernel_rfl)) <| ?_
      refine hx0 (xh_stA 0 rfl rfl rfl sz51 (Sup.cs_len Sup.zero_wf) (Sup.cs_one (s := Sup.zero)) rfl ?_)
      refine hy (fun _ => y_assign rfl) <| hend <| hsub (ρ' := [(3, _), (19, _), (14, _), (5, _), (4, _), (2, _), (0, _)]) ⟨rfl, rfl, rfl, rfl, rfl, rfl, rfl, trivial⟩ <| hmemQ (X' := [_]) (S' := [_, _]) (fun _ m => m) <| hthen <| hret <| hthen_ret <| ?_
      exact hretN1 trivial rfl rfl rfl ag51 sz51 (Sup.cs_len Sup.zero_wf) (fun m => (m.blk 0 rfl).cells0) [] rfl [] rfl ⟨rfl, rfl, rfl⟩
    · have h83 : B.length = 83 := by omega
      have hb4 := (B.getD 4 0).toNat_lt
      have hW := rdBody_wf h83
      have hS0 := hW.w0
      have hS1 := hW.w1
      have hP0 : (Sup.mk (rdBody B).active (rdBody B).gen Sl.zero Sl.zero).wf := ⟨hW.a0, hW.a1, hW.g0, hW.g1, Sl.zero_wf, Sl.zero_wf⟩
      have hP1 : (Sup.mk (rdBody B).active (rdBody B).gen (rdBody B).s0 Sl.zero).wf := ⟨hW.a0, hW.a1, hW.g0, hW.g1, hS0, Sl.zero_wf⟩
      have hput0 := sup_put hP0 (i := 0) (by decide) hS0
      have hput1 := sup_put hP1 (i := 1) (by decide) hS1
      have e9 : (B.drop 9).getD 0 0 = B.getD 9 0 := by simp [List.getD]
      have e46 : (B.drop 46).getD 0 0 = B.getD 46 0 := by simp [List.getD]
      have q31 : (((B.getD 9 0).toNat : Int) = 1) ↔ (B.drop 9).getD 0 0 = 1 := by
        rw [e9]
        constructor
        · intro h; exact UInt8.toNat_inj.1 (by rw [show (1 : UInt8).toNat = 1 from rfl]; omega)
        · intro h; rw [h]; rfl
      have q42 : (((B.getD 46 0).toNat : Int) = 1) ↔ (B.drop 46).getD 0 0 = 1 := by
        rw [e46]
        constructor
        · intro h; exact UInt8.toNat_inj.1 (by rw [show (1 : UInt8).toNat = 1 from rfl]; omega)
        · intro h; rw [h]; rfl
      have v10 : (B.drop 10).take 32 = (rdBody B).s0.image := by
        show _ = ((B.drop 9).drop 1).take 32
        rw [List.drop_drop]
      have v47 : (B.drop 47).take 32 = (rdBody B).s1.image := by
        show _ = ((B.drop 46).drop 1).take 32
        rw [List.drop_drop]
      have v42 : B.drop 42 = (B.drop 9).drop 33 := by rw [List.drop_drop]
      have v79 : B.drop 79 = (B.drop 46).drop 33 := by rw [List.drop_drop]
      refine hcskip <| hthen <| hseq <| hdrwP [5, 7, 8] (.take 0 2 <| .take 1 2 <| .take 2 2 <| .take 3 2 <| .take 4 2 <| .alt 5 (.take 6 2 <| .alt 7 (.alt 8 (.done) (.stop)) (.stop)) (.alt 7 (.alt 5 (.take 6 2 <| .alt 8 (.done) (.stop)) (.stop)) (.stop))) (by kernel_rfl) (by kernel_rfl) rfl 2 <| hpyU (y_move rfl) <| hpyU (y_idxS1 rfl rfl Tryz.underlying27 sz5 hA_bd (show ((4 : Nat) : Int) = 4 from rfl) (by omega)) <| hpy (fun m => y_ld1 rfl ag5 ((m.rd 0 rfl).cell (b8s_get (by omega)))) <| hpyU (y_conv rfl Tryz.underlying5 Tryz.underlying3 (w64 (by omega) (by omega))) <| hpyU (y_move rfl) <| ?_
      refine hpfork ?_ ?_
      · refine hpx (xh_call rfl Tryz.call134 (numSC (by omega) (by omega) (i := 5) (l := B)) [] rfl [0] rfl ?_)
        rintro _ _ _ ⟨rfl, rfl, rfl⟩
        refine ⟨(fun _ => wk [0] [0, 1] rfl rfl), ?_⟩
        refine hpyU (yV (y_build ti51 rfl rfl (by kernel_rfl) (.cons (o := 0) (sz := 1) (by kernel_rfl) rfl rfl (Nat.le_of_ble_eq_true rfl) (.cons (o := 1) (sz := 1) (by kernel_rfl) rfl rfl (Nat.le_of_ble_eq_true rfl) .nil))) ((rfl : _ = Value.agg (Sup.mk (rdBody B).active (rdBody B).gen Sl.zero Sl.zero).cs.toArray))) <| ?_
        refine hpx (xh_alloc ti51 (fun g6 => ⟨(fun _ => wk [1] [0, 1] rfl rfl), ?_⟩))
        refine hpx0 (xh_stA 0 rfl rfl rfl sz51 (Sup.cs_len hP0) (Sup.cs_one (s := Sup.mk (rdBody B).active (rdBody B).gen Sl.zero Sl.zero)) rfl ⟨(fun h => absurd h (by decide)), ?_⟩)
        refine hpmem (fun w m => m.asV 0 rfl (View.sub (n := n - 4) (c := c) (k := 10) (m := 32) (by omega) (by omega))) ?_
        refine hpfact (fun m => rdB (m.rd 0 rfl)) ?_
        rintro ⟨hl_im, hA_im⟩
        refine hpmem (fun w m => m.asV 1 rfl (View.sub (n := n - 4) (c := c) (k := 47) (m := 32) (by omega) (by omega))) ?_
        refine hpfact (fun m => rdB (m.rd 0 rfl)) ?_
        rintro ⟨hl_jm, hA_jm⟩
        rw [v10, v47]
        refine hpend <| hsub (ρ' := [(6, _), (19, _), (14, _), (5, _), (4, _), (3, _), (2, _), (0, _)]) ⟨rfl, rfl, rfl, rfl, rfl, rfl, rfl, rfl, trivial⟩ <| hmemQ (X' := [_, _]) (S' := [_, _, _, _]) (fun _ m => m) <| hthen <| hseq <| hdrw [6, 8, 11] [(0, some 2), (1, some 2), (2, some 2), (3, some 2), (4, some 0), (5, some 0), (7, some 1), (6, none), (8, none), (9, some 2), (10, some 2), (11, none)] (by kernel_rfl) (by kernel_rfl) rfl 2 <| htyU (y_move rfl) <| htyU (y_idxS1 rfl rfl Tryz.underlying27 sz5 hA_bd (show ((9 : Nat) : Int) = 9 from rfl) (by omega)) <| hty (fun m => y_ld1 rfl ag5 ((m.rd 2 rfl).cell (b8s_get (by omega)))) <| htyU (yV (y_eql rfl rfl) ((show Value.bool (decide (((B.getD 9 0).toNat : Int) = 1)) = .bool (rdBody B).s0.full from congrArg Value.bool (decide_eq_decide.2 q31)))) <| htyU (y_move rfl) <| htyU (y_slBoth rfl rfl rfl Tryz.underlying27 sz5 (show ((10 : Nat) : Int) = 10 from rfl) (show ((42 : Nat) : Int) = 42 from rfl) (by omega) (by omega)) <| htyU (y_move rfl) <| ?_
        refine htx (xh_call rfl Tryz.call135 (ofC rfl) [] rfl [1] rfl ?_)
        rintro _ _ _ ⟨rfl, rfl, rfl⟩
        refine ⟨(fun _ => wk [0, 0] [0, 1, 2, 3] rfl rfl), ?_⟩
        refine htx (xh_call rfl Tryz.call134 (numSC (by omega) (by omega) (i := 42) (l := B)) [] rfl [2] rfl ?_)
        rintro _ _ _ ⟨rfl, rfl, rfl⟩
        refine ⟨(fun _ => wk [0, 0] [0, 1, 2, 3] rfl rfl), ?_⟩
        rw [v42]
        refine htyU (y_build ti49 rfl rfl (by kernel_rfl) (bld_sl (x := (rdBody B).s0) hS0.len rfl pl49_0 pl49_1 pl49_2)) <| htyU (y_fld rfl fa51_2 (by decide)) <| ?_
        refine htx0 (xh_stNa 0 rfl rfl rfl sz49 (Sl.cs_len hS0) Sl.cs_one (by rw [Sup.cs_len hP0]; decide) ⟨(fun h => absurd h (by decide)), ?_⟩)
        refine htmem (fun w m => m.eqX 0 rfl (show _ = RBlk g6 51 (Sup.mk (rdBody B).active (rdBody B).gen (rdBody B).s0 Sl.zero).cs from congrArg (RBlk _ _) hput0)) ?_
        refine htend <| hsub (ρ' := [(6, _), (19, _), (14, _), (5, _), (4, _), (3, _), (2, _), (0, _)]) ⟨rfl, rfl, rfl, rfl, rfl, rfl, rfl, rfl, trivial⟩ <| hmemQ (X' := [_, _]) (S' := [_, _, _, _]) (fun _ m => m) <| hthen <| hseq <| hdrw [6, 8, 11] [(0, some 2), (1, some 2), (2, some 2), (3, some 2), (4, some 0), (5, some 0), (7, some 1), (6, none), (8, none), (9, some 2), (10, some 2), (11, none)] (by kernel_rfl) (by kernel_rfl) rfl 2 <| htyU (y_move rfl) <| htyU (y_idxS1 rfl rfl Tryz.underlying27 sz5 hA_bd (show ((46 : Nat) : Int) = 46 from rfl) (by omega)) <| hty (fun m => y_ld1 rfl ag5 ((m.rd 2 rfl).cell (b8s_get (by omega)))) <| htyU (yV (y_eql rfl rfl) ((show Value.bool (decide (((B.getD 46 0).toNat : Int) = 1)) = .bool (rdBody B).s1.full from congrArg Value.bool (decide_eq_decide.2 q42)))) <| htyU (y_move rfl) <| htyU (y_slBoth rfl rfl rfl Tryz.underlying27 sz5 (show ((47 : Nat) : Int) = 47 from rfl) (show ((79 : Nat) : Int) = 79 from rfl) (by omega) (by omega)) <| htyU (y_move rfl) <| ?_
        refine htx (xh_call rfl Tryz.call135 (ofC rfl) [] rfl [0] rfl ?_)
        rintro _ _ _ ⟨rfl, rfl, rfl⟩
        refine ⟨(fun _ => wk [0, 0] [0, 1, 2, 3] rfl rfl), ?_⟩
        refine htx (xh_call rfl Tryz.call134 (numSC (by omega) (by omega) (i := 79) (l := B)) [] rfl [2] rfl ?_)
        rintro _ _ _ ⟨rfl, rfl, rfl⟩
        refine ⟨(fun _ => wk [0, 0] [0, 1, 2, 3] rfl rfl), ?_⟩
        rw [v79]
        refine htyU (y_build ti49 rfl rfl (by kernel_rfl) (bld_sl (x := (rdBody B).s1) hS1.len rfl pl49_0 pl49_1 pl49_2)) <| htyU (y_fld rfl fa51_3 (by decide)) <| ?_
        refine htx0 (xh_stNa 0 rfl rfl rfl sz49 (Sl.cs_len hS1) Sl.cs_one (by rw [Sup.cs_len hP1]; decide) ⟨(fun h => absurd h (by decide)), ?_⟩)
        refine htmem (fun w m => m.eqX 0 rfl (show _ = RBlk g6 51 (rdBody B).cs from congrArg (RBlk _ _) hput1)) ?_
        refine htend <| hsub (ρ' := [(6, _), (19, _), (14, _), (5, _), (4, _), (3, _), (2, _), (0, _)]) ⟨rfl, rfl, rfl, rfl, rfl, rfl, rfl, rfl, trivial⟩ <| hmemQ (X' := [_, _]) (S' := [_, _, _, _]) (fun _ m => m) <| hthen <| hseq <| hreg <| hy (fun m => yV (y_ldN rfl ag51 sz51 (Sup.cs_len hW) ((m.blk 0 rfl).cells0)) ((rfl : _ = Value.agg (rdBody B).cs.toArray))) <| ?_
        refine hx (xh_call rfl Tryz.call136 (rmaySC hW) [] rfl [] rfl ?_)
        rintro _ _ _ ⟨rfl, rfl, rfl⟩
        refine hy (fun _ => y_assign rfl) <| hend <| hsub (ρ' := [(7, _), (6, _), (19, _), (14, _), (5, _), (4, _), (3, _), (2, _), (0, _)]) ⟨rfl, rfl, rfl, rfl, rfl, rfl, rfl, rfl, rfl, trivial⟩ <| hmemQ (X' := [_, _]) (S' := [_, _, _, _]) (fun _ m => m) <| hthen <| hseq <| hseq <| hdrw [4, 5] [(0, some 0), (1, some 0), (2, some 0), (3, some 0), (6, some 2), (7, some 2), (4, none), (5, none), (8, some 2), (9, some 2)] (by kernel_rfl) (by kernel_rfl) rfl 99 <| ?_
        by_cases hm : (rdBody B).may
        · refine htyU (y_move rfl) <| htyU (yF (y_notp rfl) ((decide_eq_false (fun h => h hm)))) <| htyU (y_move rfl) <| htyg (o := _) rfl rfl rfl (fun m => yV (y_ldN rfl ag51 sz51 (Sup.cs_len hW) ((m.blk 0 rfl).cells0)) ((rfl : _ = Value.agg (rdBody B).cs.toArray))) <| htyUg (o := _) rfl rfl rfl (y_move rfl) <| htyg (o := _) rfl rfl rfl (fun m => y_b2s rfl Tryz.underlying27 Tryz.underlying5 Tryz.underlying9 (m.rd 3 rfl)) <| ?_
          refine htxg (o := _) rfl rfl rfl (xh_call rfl Tryz.call120 (rbytesSC hW hm) [] rfl [] rfl ?_)
          rintro _ _ _ ⟨v2, rfl, rfl, rfl⟩
          refine ⟨(fun _ => wk [1, 1] [0, 1, 2, 3] rfl rfl), ?_⟩
          refine htfact (fun m => (m.own 0 rfl).slice) ?_
          rintro ⟨A_x, c_x, rfl, hc_x⟩
          refine htfact (fun m => (m.ord 0 rfl).2.1) fun hA_x => ?_
          refine htsg (o := _) rfl rfl rfl (fun _ => wk [1, 1] [0, 1, 2, 3] rfl rfl) (fun m => y_b2s rfl Tryz.underlying27 Tryz.underlying5 Tryz.underlying9 (m.ord 0 rfl)) <| htyUg (o := _) rfl rfl rfl (y_sne rfl rfl) <| htyU (y_pickF rfl rfl) <| htend <| hsub (ρ' := [(61, _), (7, _), (6, _), (19, _), (14, _), (5, _), (4, _), (3, _), (2, _), (0, _)]) ⟨rfl, rfl, rfl, rfl, rfl, rfl, rfl, rfl, rfl, rfl, trivial⟩ <| hmemQ (X' := [_, _, _]) (S' := [_, _, _, _]) (fun _ m => m) <| hthen <| ?_
          refine hif rfl (fun hq => ?_) (fun hq => ?_)
          · rw [hbad (fun hb => hq (congrArg strOf ((href h83).1 hb).2))]
            refine hseq <| hreg <| hy (fun _ => y_build0 ti51 rfl (by kernel_rfl)) <| ?_
            refine hx0 (xh_stA 2 rfl rfl rfl sz51 (Sup.cs_len Sup.zero_wf) (Sup.cs_one (s := Sup.zero)) rfl ?_)
            refine hy (fun _ => y_assign rfl) <| hend <| hsub (ρ' := [(3, _), (61, _), (7, _), (6, _), (19, _), (14, _), (5, _), (4, _), (2, _), (0, _)]) ⟨rfl, rfl, rfl, rfl, rfl, rfl, rfl, rfl, rfl, rfl, trivial⟩ <| hmemQ (X' := [_, _, _]) (S' := [_, _, _, _]) (fun _ m => m) <| hthen <| hret <| hthen_ret <| ?_
            exact hretN1 trivial rfl rfl rfl ag51 sz51 (Sup.cs_len Sup.zero_wf) (fun m => (m.blk 0 rfl).cells0) [] rfl [] rfl ⟨rfl, rfl, rfl⟩
          · have hq := strOf_inj.1 (Decidable.not_not.1 hq)
            rw [hok ((href h83).2 ⟨hm, hq⟩)]
            refine hcskip <| hthen <| hseq <| hreg <| hy (fun m => yV (y_ldN rfl ag51 sz51 (Sup.cs_len hW) ((m.blk 1 rfl).cells0)) ((rfl : _ = Value.agg (rdBody B).cs.toArray))) <| ?_
            refine hx0 (xh_stA 2 rfl rfl rfl sz51 (Sup.cs_len hW) (Sup.cs_one (s := rdBody B)) rfl ?_)
            refine hy (fun _ => y_assign rfl) <| hend <| hsub (ρ' := [(3, _), (61, _), (7, _), (6, _), (19, _), (14, _), (5, _), (4, _), (2, _), (0, _)]) ⟨rfl, rfl, rfl, rfl, rfl, rfl, rfl, rfl, rfl, rfl, trivial⟩ <| hmemQ (X' := [_, _, _]) (S' := [_, _, _, _]) (fun _ m => m) <| hthen <| hret <| ?_
            exact hretN1 trivial rfl rfl rfl ag51 sz51 (Sup.cs_len hW) (fun m => (m.blk 0 rfl).cells0) [] rfl [] rfl ⟨rfl, rfl, rfl⟩
        · refine htyU (y_move rfl) <| htyU (yT (y_notp rfl) ((decide_eq_true hm))) <| htyU (y_move rfl) <| htskip rfl rfl rfl (by decide) <| htskip rfl rfl rfl (by decide) <| htskip rfl rfl rfl (by decide) <| htskipx rfl rfl rfl (by decide) (fun _ => wk [0, 0] [0, 1, 2, 3] rfl rfl) <| htskipx rfl rfl rfl (by decide) (fun _ => wk [0, 0] [0, 1, 2, 3] rfl rfl) <| htskip rfl rfl rfl (by decide) <| htyU (y_pickT rfl rfl) <| htend <| hsub (ρ' := [(61, _), (7, _), (6, _), (19, _), (14, _), (5, _), (4, _), (3, _), (2, _), (0, _)]) ⟨rfl, rfl, rfl, rfl, rfl, rfl, rfl, rfl, rfl, rfl, trivial⟩ <| hthen <| ?_
          refine hift rfl (rfl) ?_
          rw [hbad (fun hb => hm hb.2.2.2.2)]
          refine hseq <| hreg <| hy (fun _ => y_build0 ti51 rfl (by kernel_rfl)) <| ?_
          refine hx0 (xh_stA 1 rfl rfl rfl sz51 (Sup.cs_len Sup.zero_wf) (Sup.cs_one (s := Sup.zero)) rfl ?_)
          refine hy (fun _ => y_assign rfl) <| hend <| hsub (ρ' := [(3, _), (61, _), (7, _), (6, _), (19, _), (14, _), (5, _), (4, _), (2, _), (0, _)]) ⟨rfl, rfl, rfl, rfl, rfl, rfl, rfl, rfl, rfl, rfl, trivial⟩ <| hmemQ (X' := [_, _]) (S' := [_, _, _, _]) (fun _ m => m) <| hthen <| hret <| hthen_ret <| ?_
          exact hretN1 trivial rfl rfl rfl ag51 sz51 (Sup.cs_len Sup.zero_wf) (fun m => (m.blk 0 rfl).cells0) [] rfl [] rfl ⟨rfl, rfl, rfl⟩
      · refine hpx (xh_alloc ti51 (fun g6 => ⟨(fun _ => wk [1] [0, 1] rfl rfl), ?_⟩))
        refine hpx (xh_call rfl Tryz.call134 (numSC (by omega) (by omega) (i := 5) (l := B)) [] rfl [0] rfl ?_)
        rintro _ _ _ ⟨rfl, rfl, rfl⟩
        refine ⟨(fun _ => wk [1] [0, 1] rfl rfl), ?_⟩
        refine hpyU (yV (y_build ti51 rfl rfl (by kernel_rfl) (.cons (o := 0) (sz := 1) (by kernel_rfl) rfl rfl (Nat.le_of_ble_eq_true rfl) (.cons (o := 1) (sz := 1) (by kernel_rfl) rfl rfl (Nat.le_of_ble_eq_true rfl) .nil))) ((rfl : _ = Value.agg (Sup.mk (rdBody B).active (rdBody B).gen Sl.zero Sl.zero).cs.toArray))) <| ?_
        refine hpx0 (xh_stA 0 rfl rfl rfl sz51 (Sup.cs_len hP0) (Sup.cs_one (s := Sup.mk (rdBody B).active (rdBody B).gen Sl.zero Sl.zero)) rfl ⟨(fun h => absurd h (by decide)), ?_⟩)
        refine hpmem (fun w m => m.asV 0 rfl (View.sub (n := n - 4) (c := c) (k := 10) (m := 32) (by omega) (by omega))) ?_
        refine hpfact (fun m => rdB (m.rd 0 rfl)) ?_
        rintro ⟨hl_im, hA_im⟩
        refine hpmem (fun w m => m.asV 1 rfl (View.sub (n := n - 4) (c := c) (k := 47) (m := 32) (by omega) (by omega))) ?_
        refine hpfact (fun m => rdB (m.rd 0 rfl)) ?_
        rintro ⟨hl_jm, hA_jm⟩
        rw [v10, v47]
        refine hpend <| hsub (ρ' := [(6, _), (19, _), (14, _), (5, _), (4, _), (3, _), (2, _), (0, _)]) ⟨rfl, rfl, rfl, rfl, rfl, rfl, rfl, rfl, trivial⟩ <| hmemQ (X' := [_, _]) (S' := [_, _, _, _]) (fun _ m => m) <| hthen <| hseq <| hdrw [6, 8, 11] [(0, some 2), (1, some 2), (2, some 2), (3, some 2), (4, some 0), (5, some 0), (7, some 1), (6, none), (8, none), (9, some 2), (10, some 2), (11, none)] (by kernel_rfl) (by kernel_rfl) rfl 2 <| htyU (y_move rfl) <| htyU (y_idxS1 rfl rfl Tryz.underlying27 sz5 hA_bd (show ((9 : Nat) : Int) = 9 from rfl) (by omega)) <| hty (fun m => y_ld1 rfl ag5 ((m.rd 2 rfl).cell (b8s_get (by omega)))) <| htyU (yV (y_eql rfl rfl) ((show Value.bool (decide (((B.getD 9 0).toNat : Int) = 1)) = .bool (rdBody B).s0.full from congrArg Value.bool (decide_eq_decide.2 q31)))) <| htyU (y_move rfl) <| htyU (y_slBoth rfl rfl rfl Tryz.underlying27 sz5 (show ((10 : Nat) : Int) = 10 from rfl) (show ((42 : Nat) : Int) = 42 from rfl) (by omega) (by omega)) <| htyU (y_move rfl) <| ?_
        refine htx (xh_call rfl Tryz.call135 (ofC rfl) [] rfl [1] rfl ?_)
        rintro _ _ _ ⟨rfl, rfl, rfl⟩
        refine ⟨(fun _ => wk [0, 0] [0, 1, 2, 3] rfl rfl), ?_⟩
        refine htx (xh_call rfl Tryz.call134 (numSC (by omega) (by omega) (i := 42) (l := B)) [] rfl [2] rfl ?_)
        rintro _ _ _ ⟨rfl, rfl, rfl⟩
        refine ⟨(fun _ => wk [0, 0] [0, 1, 2, 3] rfl rfl), ?_⟩
        rw [v42]
        refine htyU (y_build ti49 rfl rfl (by kernel_rfl) (bld_sl (x := (rdBody B).s0) hS0.len rfl pl49_0 pl49_1 pl49_2)) <| htyU (y_fld rfl fa51_2 (by decide)) <| ?_
        refine htx0 (xh_stNa 0 rfl rfl rfl sz49 (Sl.cs_len hS0) Sl.cs_one (by rw [Sup.cs_len hP0]; decide) ⟨(fun h => absurd h (by decide)), ?_⟩)
        refine htmem (fun w m => m.eqX 0 rfl (show _ = RBlk g6 51 (Sup.mk (rdBody B).active (rdBody B).gen (rdBody B).s0 Sl.zero).cs from congrArg (RBlk _ _) hput0)) ?_
        refine htend <| hsub (ρ' := [(6, _), (19, _), (14, _), (5, _), (4, _), (3, _), (2, _), (0, _)]) ⟨rfl, rfl, rfl, rfl, rfl, rfl, rfl, rfl, trivial⟩ <| hmemQ (X' := [_, _]) (S' := [_, _, _, _]) (fun _ m => m) <| hthen <| hseq <| hdrw [6, 8, 11] [(0, some 2), (1, some 2), (2, some 2), (3, some 2), (4, some 0), (5, some 0), (7, some 1), (6, none), (8, none), (9, some 2), (10, some 2), (11, none)] (by kernel_rfl) (by kernel_rfl) rfl 2 <| htyU (y_move rfl) <| htyU (y_idxS1 rfl rfl Tryz.underlying27 sz5 hA_bd (show ((46 : Nat) : Int) = 46 from rfl) (by omega)) <| hty (fun m => y_ld1 rfl ag5 ((m.rd 2 rfl).cell (b8s_get (by omega)))) <| htyU (yV (y_eql rfl rfl) ((show Value.bool (decide (((B.getD 46 0).toNat : Int) = 1)) = .bool (rdBody B).s1.full from congrArg Value.bool (decide_eq_decide.2 q42)))) <| htyU (y_move rfl) <| htyU (y_slBoth rfl rfl rfl Tryz.underlying27 sz5 (show ((47 : Nat) : Int) = 47 from rfl) (show ((79 : Nat) : Int) = 79 from rfl) (by omega) (by omega)) <| htyU (y_move rfl) <| ?_
        refine htx (xh_call rfl Tryz.call135 (ofC rfl) [] rfl [0] rfl ?_)
        rintro _ _ _ ⟨rfl, rfl, rfl⟩
        refine ⟨(fun _ => wk [0, 0] [0, 1, 2, 3] rfl rfl), ?_⟩
        refine htx (xh_call rfl Tryz.call134 (numSC (by omega) (by omega) (i := 79) (l := B)) [] rfl [2] rfl ?_)
        rintro _ _ _ ⟨rfl, rfl, rfl⟩
        refine ⟨(fun _ => wk [0, 0] [0, 1, 2, 3] rfl rfl), ?_⟩
        rw [v79]
        refine htyU (y_build ti49 rfl rfl (by kernel_rfl) (bld_sl (x := (rdBody B).s1) hS1.len rfl pl49_0 pl49_1 pl49_2)) <| htyU (y_fld rfl fa51_3 (by decide)) <| ?_
        refine htx0 (xh_stNa 0 rfl rfl rfl sz49 (Sl.cs_len hS1) Sl.cs_one (by rw [Sup.cs_len hP1]; decide) ⟨(fun h => absurd h (by decide)), ?_⟩)
        refine htmem (fun w m => m.eqX 0 rfl (show _ = RBlk g6 51 (rdBody B).cs from congrArg (RBlk _ _) hput1)) ?_
        refine htend <| hsub (ρ' := [(6, _), (19, _), (14, _), (5, _), (4, _), (3, _), (2, _), (0, _)]) ⟨rfl, rfl, rfl, rfl, rfl, rfl, rfl, rfl, trivial⟩ <| hmemQ (X' := [_, _]) (S' := [_, _, _, _]) (fun _ m => m) <| hthen <| hseq <| hreg <| hy (fun m => yV (y_ldN rfl ag51 sz51 (Sup.cs_len hW) ((m.blk 0 rfl).cells0)) ((rfl : _ = Value.agg (rdBody B).cs.toArray))) <| ?_
        refine hx (xh_call rfl Tryz.call136 (rmaySC hW) [] rfl [] rfl ?_)
        rintro _ _ _ ⟨rfl, rfl, rfl⟩
        refine hy (fun _ => y_assign rfl) <| hend <| hsub (ρ' := [(7, _), (6, _), (19, _), (14, _), (5, _), (4, _), (3, _), (2, _), (0, _)]) ⟨rfl, rfl, rfl, rfl, rfl, rfl, rfl, rfl, rfl, trivial⟩ <| hmemQ (X' := [_, _]) (S' := [_, _, _, _]) (fun _ m => m) <| hthen <| hseq <| hseq <| hdrw [4, 5] [(0, some 0), (1, some 0), (2, some 0), (3, some 0), (6, some 2), (7, some 2), (4, none), (5, none), (8, some 2), (9, some 2)] (by kernel_rfl) (by kernel_rfl) rfl 99 <| ?_
        by_cases hm : (rdBody B).may
        · refine htyU (y_move rfl) <| htyU (yF (y_notp rfl) ((decide_eq_false (fun h => h hm)))) <| htyU (y_move rfl) <| htyg (o := _) rfl rfl rfl (fun m => yV (y_ldN rfl ag51 sz51 (Sup.cs_len hW) ((m.blk 0 rfl).cells0)) ((rfl : _ = Value.agg (rdBody B).cs.toArray))) <| htyUg (o := _) rfl rfl rfl (y_move rfl) <| htyg (o := _) rfl rfl rfl (fun m => y_b2s rfl Tryz.underlying27 Tryz.underlying5 Tryz.underlying9 (m.rd 3 rfl)) <| ?_
          refine htxg (o := _) rfl rfl rfl (xh_call rfl Tryz.call120 (rbytesSC hW hm) [] rfl [] rfl ?_)
          rintro _ _ _ ⟨v2, rfl, rfl, rfl⟩
          refine ⟨(fun _ => wk [1, 1] [0, 1, 2, 3] rfl rfl), ?_⟩
          refine htfact (fun m => (m.own 0 rfl).slice) ?_
          rintro ⟨A_x, c_x, rfl, hc_x⟩
          refine htfact (fun m => (m.ord 0 rfl).2.1) fun hA_x => ?_
          refine htsg (o := _) rfl rfl rfl (fun _ => wk [1, 1] [0, 1, 2, 3] rfl rfl) (fun m => y_b2s rfl Tryz.underlying27 Tryz.underlying5 Tryz.underlying9 (m.ord 0 rfl)) <| htyUg (o := _) rfl rfl rfl (y_sne rfl rfl) <| htyU (y_pickF rfl rfl) <| htend <| hsub (ρ' := [(61, _), (7, _), (6, _), (19, _), (14, _), (5, _), (4, _), (3, _), (2, _), (0, _)]) ⟨rfl, rfl, rfl, rfl, rfl, rfl, rfl, rfl, rfl, rfl, trivial⟩ <| hmemQ (X' := [_, _, _]) (S' := [_, _, _, _]) (fun _ m => m) <| hthen <| ?_
          refine hif rfl (fun hq => ?_) (fun hq => ?_)
          · rw [hbad (fun hb => hq (congrArg strOf ((href h83).1 hb).2))]
            refine hseq <| hreg <| hy (fun _ => y_build0 ti51 rfl (by kernel_rfl)) <| ?_
            refine hx0 (xh_stA 2 rfl rfl rfl sz51 (Sup.cs_len Sup.zero_wf) (Sup.cs_one (s := Sup.zero)) rfl ?_)
            refine hy (fun _ => y_assign rfl) <| hend <| hsub (ρ' := [(3, _), (61, _), (7, _), (6, _), (19, _), (14, _), (5, _), (4, _), (2, _), (0, _)]) ⟨rfl, rfl, rfl, rfl, rfl, rfl, rfl, rfl, rfl, rfl, trivial⟩ <| hmemQ (X' := [_, _, _]) (S' := [_, _, _, _]) (fun _ m => m) <| hthen <| hret <| hthen_ret <| ?_
            exact hretN1 trivial rfl rfl rfl ag51 sz51 (Sup.cs_len Sup.zero_wf) (fun m => (m.blk 0 rfl).cells0) [] rfl [] rfl ⟨rfl, rfl, rfl⟩
          · have hq := strOf_inj.1 (Decidable.not_not.1 hq)
            rw [hok ((href h83).2 ⟨hm, hq⟩)]
            refine hcskip <| hthen <| hseq <| hreg <| hy (fun m => yV (y_ldN rfl ag51 sz51 (Sup.cs_len hW) ((m.blk 1 rfl).cells0)) ((rfl : _ = Value.agg (rdBody B).cs.toArray))) <| ?_
            refine hx0 (xh_stA 2 rfl rfl rfl sz51 (Sup.cs_len hW) (Sup.cs_one (s := rdBody B)) rfl ?_)
            refine hy (fun _ => y_assign rfl) <| hend <| hsub (ρ' := [(3, _), (61, _), (7, _), (6, _), (19, _), (14, _), (5, _), (4, _), (2, _), (0, _)]) ⟨rfl, rfl, rfl, rfl, rfl, rfl, rfl, rfl, rfl, rfl, trivial⟩ <| hmemQ (X' := [_, _, _]) (S' := [_, _, _, _]) (fun _ m => m) <| hthen <| hret <| ?_
            exact hretN1 trivial rfl rfl rfl ag51 sz51 (Sup.cs_len hW) (fun m => (m.blk 0 rfl).cells0) [] rfl [] rfl ⟨rfl, rfl, rfl⟩
        · refine htyU (y_move rfl) <| htyU (yT (y_notp rfl) ((decide_eq_true hm))) <| htyU (y_move rfl) <| htskip rfl rfl rfl (by decide) <| htskip rfl rfl rfl (by decide) <| htskip rfl rfl rfl (by decide) <| htskipx rfl rfl rfl (by decide) (fun _ => wk [0, 0] [0, 1, 2, 3] rfl rfl) <| htskipx rfl rfl rfl (by decide) (fun _ => wk [0, 0] [0, 1, 2, 3] rfl rfl) <| htskip rfl rfl rfl (by decide) <| htyU (y_pickT rfl rfl) <| htend <| hsub (ρ' := [(61, _), (7, _), (6, _), (19, _), (14, _), (5, _), (4, _), (3, _), (2, _), (0, _)]) ⟨rfl, rfl, rfl, rfl, rfl, rfl, rfl, rfl, rfl, rfl, trivial⟩ <| hthen <| ?_
          refine hift rfl (rfl) ?_
          rw [hbad (fun hb => hm hb.2.2.2.2)]
          refine hseq <| hreg <| hy (fun _ => y_build0 ti51 rfl (by kernel_rfl)) <| ?_
          refine hx0 (xh_stA 1 rfl rfl rfl sz51 (Sup.cs_len Sup.zero_wf) (Sup.cs_one (s := Sup.zero)) rfl ?_)
          refine hy (fun _ => y_assign rfl) <| hend <| hsub (ρ' := [(3, _), (61, _), (7, _), (6, _), (19, _), (14, _), (5, _), (4, _), (2, _), (0, _)]) ⟨rfl, rfl, rfl, rfl, rfl, rfl, rfl, rfl, rfl, rfl, trivial⟩ <| hmemQ (X' := [_, _]) (S' := [_, _, _, _]) (fun _ m => m) <| hthen <| hret <| hthen_ret <| ?_
          exact hretN1 trivial rfl rfl rfl ag51 sz51 (Sup.cs_len Sup.zero_wf) (fun m => (m.blk 0 rfl).cells0) [] rfl [] rfl ⟨rfl, rfl, rfl⟩
end Go.Proofs.YtfikjheicjamhaaGreatDoor
end
section
/- Contract: Stage, by the program (layer 22). -/
set_option linter.unusedVariables false
set_option linter.unusedSimpArgs false
set_option maxRecDepth 20000
namespace Go.Proofs.YtfikjheicjamhaaGreatDoor
open Go.Eng Go.Hx
/-- the second half of Stage -/
def RD.stage2 (d : RD) (i : Nat) (bb : List UInt8) : RD × Int × Int :=
  if d.writeE (nSlot i) bb ≠ 0 then (d, 0, d.writeE (nSlot i) bb) else
  if (d.write (nSlot i) bb).syncE ≠ 0 then (d.write (nSlot i) bb, 0, (d.write (nSlot i) bb).syncE) else ((d.write (nSlot i) bb).sync, (i : Int), 0)
theorem stage_full {d : RD} {bb : List UInt8} (h0 : ¬ 65536 < bb.length) (h1 : ¬ d.loadS.2 ≠ 0) (hf : (d.loadS.1.at d.loadS.1.other).full = true) :
    d.stageS bb = if (d.saveSup (d.loadS.1.put d.loadS.1.other Sl.zero)).2 ≠ 0 then ((d.saveSup (d.loadS.1.put d.loadS.1.other Sl.zero)).1, 0, (d.saveSup (d.loadS.1.put d.loadS.1.other Sl.zero)).2) else (d.saveSup (d.loadS.1.put d.loadS.1.other Sl.zero)).1.stage2 d.loadS.1.other bb := by
  rw [RD.stageS, if_neg h0, if_neg h1]
  simp only [hf, if_true]
  rfl
theorem stage_free {d : RD} {bb : List UInt8} (h0 : ¬ 65536 < bb.length) (h1 : ¬ d.loadS.2 ≠ 0) (hf : (d.loadS.1.at d.loadS.1.other).full = false) : d.stageS bb = d.stage2 d.loadS.1.other bb := by
  rw [RD.stageS, if_neg h0, if_neg h1]
  simp only [hf, Bool.false_eq_true, if_false]
  rfl
theorem ds_nowrite {st : DSt} {d : RD} {k : Nat} {p l : List UInt8} (h : DS st (d.write p l) k) (he : d.writeE p l ≠ 0) : DS st d k := by
  rwa [RD.write, if_neg he] at h
theorem ds_nosync {st : DSt} {d : RD} {k : Nat} (h : DS st d.sync k) (he : d.syncE ≠ 0) : DS st d k := by
  have h10 : d.pw = 0 := by
    unfold RD.syncE at he
    split at he
    · assumption
    · exact absurd rfl he
  rwa [RD.sync, if_pos h10] at h
theorem stageSC {g : Nat} {st : DSt} {d : RD} {kk : Nat} {A : Option Addr} {n c : Nat} {bb : List UInt8} (hl : bb.length = n) (hD : DS st d kk) (hkk : kk ≤ 90000) : Con Tryz.prog 60 [.pointer (some ⟨g, 0, none⟩), .slice A n c] [RDisk g st] [RRd 1 A n (b8s bb)] (fun v_ X_ S_ => ∃ st1, v_ = (.tuple #[.int .i64 (d.stageS bb).2.1, .int .i64 (d.stageS bb).2.2]) ∧ X_ = [RDisk g st1] ∧ S_ = [] ∧ (DS st1 (d.stageS bb).1 (kk + 3))) := by
  have hw := d.loadS_wf
  refine henter (N := 55) Tryz.func60 rfl rfl (by simp) fun b => ?_
  refine hfactC (fun m => rdB (m.rd 0 rfl)) ?_
  rintro ⟨hl_r, hA_r⟩
  refine hseq <| hreg <| hy (fun _ => y_assign rfl) <| hy (fun _ => y_assign rfl) <| hend <| hthen <| hseq <| hseq <| hreg <| hy (fun _ => y_move rfl) <| hy (fun _ => y_lenS rfl Tryz.underlying27) <| hy (fun _ => y_gtr rfl rfl) <| hend <| hsub (ρ' := [(14, _), (5, _), (4, _), (0, _), (1, _)]) ⟨rfl, rfl, rfl, rfl, rfl, trivial⟩ <| hthen <| ?_
  refine hif rfl (fun h0 => ?_) (fun h0 => ?_)
  · rw [show d.stageS bb = (d, 0, 3) by rw [RD.stageS, if_pos (by omega)]]
    refine hseq <| hreg <| hy (fun _ => y_assign rfl) <| hy (fun _ => y_assign rfl) <| hend <| hthen <| hret <| hthen_ret <| ?_
    exact hret2 trivial rfl rfl rfl [0] rfl [] rfl ⟨st, rfl, rfl, rfl, hD.le (by omega)⟩
  · have h0' : ¬ 65536 < bb.length := by omega
    refine hcskip <| hthen <| hseq <| hreg <| hy (fun _ => y_move rfl) <| ?_
    refine hx (xh_call rfl Tryz.call12 (loadSC hD) [0] rfl [] rfl ?_)
    rintro _ _ _ ⟨rfl, rfl, rfl⟩
    refine hy (fun _ => y_move rfl) <| hy (fun _ => y_extract rfl rfl) <| hy (fun _ => y_extract rfl rfl) <| ?_
    refine hx (xh_alloc ti38 (fun g6 => ?_))
    refine hx0 (xh_stA 0 rfl rfl rfl sz38 (Sup.cs_len hw) Sup.cs_one rfl ?_)
    refine hy (fun _ => y_assign rfl) <| hend <| hsub (ρ' := [(7, _), (6, _), (14, _), (5, _), (4, _), (0, _), (1, _)]) ⟨rfl, rfl, rfl, rfl, rfl, rfl, rfl, trivial⟩ <| hmemQ (X' := [_, _]) (S' := [_]) (fun _ m => m) <| hthen <| hseq <| hseq <| hreg <| hy (fun _ => y_move rfl) <| hy (fun _ => y_neq rfl rfl) <| hend <| hsub (ρ' := [(21, _), (7, _), (6, _), (14, _), (5, _), (4, _), (0, _), (1, _)]) ⟨rfl, rfl, rfl, rfl, rfl, rfl, rfl, rfl, trivial⟩ <| hthen <| ?_
    refine hif rfl (fun h1 => ?_) (fun h1 => ?_)
    · rw [show d.stageS bb = (d, 0, d.loadS.2) by rw [RD.stageS, if_neg h0', if_pos h1]]
      refine hseq <| hreg <| hy (fun _ => y_move rfl) <| hy (fun _ => y_assign rfl) <| hy (fun _ => y_assign rfl) <| hend <| hsub (ρ' := [(5, _), (4, _), (21, _), (7, _), (6, _), (14, _), (0, _), (1, _)]) ⟨rfl, rfl, rfl, rfl, rfl, rfl, rfl, rfl, trivial⟩ <| hthen <| hret <| hthen_ret <| ?_
      exact hret2 trivial rfl rfl rfl [1] rfl [] rfl ⟨st, rfl, rfl, rfl, hD.le (by omega)⟩
    · have hm := RD.loadS_may (Decidable.not_not.1 h1)
      obtain ⟨ho, ho2, ha, ha2⟩ := Sup.may_other hm
      have hfull := @stage_full d bb h0' h1
      have hfree := @stage_free d bb h0' h1
      generalize d.loadS.1 = s at hw hm ho ho2 ha ha2 hfull hfree ⊢
      have ho3 : Value.int .i64 (1 - s.active) = .int .i64 (s.other : Nat) := by rw [ho2]
      generalize s.other = i at ho ho2 ho3 hfull hfree ⊢
      refine hcskip <| hthen <| hseq <| hreg <| hy (fun _ => y_fld rfl fa38_0 (by decide)) <| hy (fun m => y_ld1 rfl ag3 ((m.blk 0 rfl).cells0 0 _ sup0)) <| hy (fun _ => yV (y_sub rfl rfl (w64 (by omega) (by omega))) (ho3)) <| hy (fun _ => y_assign rfl) <| hend <| hsub (ρ' := [(8, _), (21, _), (7, _), (6, _), (14, _), (5, _), (4, _), (0, _), (1, _)]) ⟨rfl, rfl, rfl, rfl, rfl, rfl, rfl, rfl, rfl, trivial⟩ <| hthen <| hseq <| hseq <| hreg <| hy (fun _ => y_move rfl) <| hy (fun _ => y_fld rfl fa38_2 (by decide)) <| hy (fun _ => y_idxA rfl rfl Tryz.underlying36 sz35 (show ((i : Nat) : Int) = _ by omega) (by omega)) <| hy (fun _ => y_fld rfl fa35_0 (by decide)) <| hy (fun m => y_ld1 rfl ag4 (by rw [add_add, add_add]; exact (m.blk 0 rfl).cells0 (2 + i * 34 + 0) _ (sup_at hw ho sl0))) <| hend <| hsub (ρ' := [(30, _), (8, _), (21, _), (7, _), (6, _), (14, _), (5, _), (4, _), (0, _), (1, _)]) ⟨rfl, rfl, rfl, rfl, rfl, rfl, rfl, rfl, rfl, rfl, trivial⟩ <| hthen <| ?_
      refine hifb rfl (fun hf => ?_) (fun hf => ?_)
      · have hzw : (s.put i Sl.zero).wf := Sup.put_wf hw Sl.zero_wf
        have hS := hfull hf
        refine hseq <| hreg <| hy (fun _ => y_move rfl) <| hy (fun _ => yV (y_build0 ti35 rfl (by kernel_rfl)) ((rfl : _ = Value.agg Sl.zero.cs.toArray))) <| hy (fun _ => y_fld rfl fa38_2 (by decide)) <| hy (fun _ => y_idxA rfl rfl Tryz.underlying36 sz35 (show ((i : Nat) : Int) = _ by omega) (by omega)) <| ?_
        refine hx0 (xh_stNa 0 rfl rfl rfl sz35 (Sl.cs_len Sl.zero_wf) Sl.cs_one (by rw [Sup.cs_len hw]; dsimp only; omega) ?_)
        refine hmemL (fun w m => m.eqX 0 rfl (show _ = RBlk g6 38 (s.put i Sl.zero).cs from by rw [sup_put hw ho Sl.zero_wf])) ?_
        refine hend <| hsub (ρ' := [(30, _), (8, _), (21, _), (7, _), (6, _), (14, _), (5, _), (4, _), (0, _), (1, _)]) ⟨rfl, rfl, rfl, rfl, rfl, rfl, rfl, rfl, rfl, rfl, trivial⟩ <| hmemQ (X' := [_, _]) (S' := [_]) (fun _ m => m) <| hthen <| hseq <| hreg <| hy (fun _ => y_move rfl) <| hy (fun m => yV (y_ldN rfl ag38 sz38 (Sup.cs_len hzw) ((m.blk 0 rfl).cells0)) ((rfl : _ = Value.agg (s.put i Sl.zero).cs.toArray))) <| ?_
        refine hx (xh_call rfl Tryz.call119 (saveSC hzw hD hkk) [1] rfl [] rfl ?_)
        rintro _ _ _ ⟨st1, rfl, rfl, rfl, h2⟩
        refine hy (fun _ => y_assign rfl) <| hend <| hsub (ρ' := [(9, _), (30, _), (8, _), (21, _), (7, _), (6, _), (14, _), (5, _), (4, _), (0, _), (1, _)]) ⟨rfl, rfl, rfl, rfl, rfl, rfl, rfl, rfl, rfl, rfl, rfl, trivial⟩ <| hmemQ (X' := [_, _]) (S' := [_]) (fun _ m => m) <| hthen <| hseq <| hreg <| hy (fun _ => y_move rfl) <| hy (fun _ => y_neq rfl rfl) <| hend <| hsub (ρ' := [(39, _), (9, _), (30, _), (8, _), (21, _), (7, _), (6, _), (14, _), (5, _), (4, _), (0, _), (1, _)]) ⟨rfl, rfl, rfl, rfl, rfl, rfl, rfl, rfl, rfl, rfl, rfl, rfl, trivial⟩ <| hthen <| ?_
        refine hif rfl (fun h3 => ?_) (fun h3 => ?_)
        · rw [hS, if_pos h3]
          refine hseq <| hreg <| hy (fun _ => y_move rfl) <| hy (fun _ => y_assign rfl) <| hy (fun _ => y_assign rfl) <| hend <| hsub (ρ' := [(5, _), (4, _), (39, _), (9, _), (30, _), (8, _), (21, _), (7, _), (6, _), (14, _), (0, _), (1, _)]) ⟨rfl, rfl, rfl, rfl, rfl, rfl, rfl, rfl, rfl, rfl, rfl, rfl, trivial⟩ <| hthen <| hret <| hthen_ret <| ?_
          exact hret2 trivial rfl rfl rfl [0] rfl [] rfl ⟨st1, rfl, rfl, rfl, h2.le (by omega)⟩
        · rw [if_neg h3] at hS
          refine hcskip <| hthen <| hseq <| hseq <| hreg <| hy (fun _ => y_move rfl) <| hy (fun _ => y_move rfl) <| ?_
          refine hx (xh_call rfl Tryz.call124 (fileC ho) [] rfl [] rfl ?_)
          rintro _ _ _ ⟨rfl, rfl, rfl⟩
          refine hy (fun _ => y_move rfl) <| ?_
          refine hx (xh_call rfl Tryz.call41 (dwriteC h2 (by omega) hl (by omega) (p := (nSlot i)) (l := bb)) [0] rfl [0] rfl ?_)
          rintro _ _ _ ⟨st12, rfl, rfl, rfl, w1⟩
          refine hy (fun _ => y_assign rfl) <| hend <| hsub (ρ' := [(10, _), (39, _), (9, _), (30, _), (8, _), (21, _), (7, _), (6, _), (14, _), (5, _), (4, _), (0, _), (1, _)]) ⟨rfl, rfl, rfl, rfl, rfl, rfl, rfl, rfl, rfl, rfl, rfl, rfl, rfl, trivial⟩ <| hmemQ (X' := [_, _]) (S' := [_]) (fun _ m => m) <| hthen <| hseq <| hreg <| hy (fun _ => y_move rfl) <| hy (fun _ => y_neq rfl rfl) <| hend <| hsub (ρ' := [(47, _), (10, _), (39, _), (9, _), (30, _), (8, _), (21, _), (7, _), (6, _), (14, _), (5, _), (4, _), (0, _), (1, _)]) ⟨rfl, rfl, rfl, rfl, rfl, rfl, rfl, rfl, rfl, rfl, rfl, rfl, rfl, rfl, trivial⟩ <| hthen <| ?_
          refine hif rfl (fun xa => ?_) (fun xa => ?_)
          · rw [hS, RD.stage2, if_pos xa]
            have w2 := (ds_nowrite w1 xa).le (show kk + 2 + 1 ≤ kk + 3 by omega)
            refine hseq <| hreg <| hy (fun _ => y_move rfl) <| hy (fun _ => y_assign rfl) <| hy (fun _ => y_assign rfl) <| hend <| hsub (ρ' := [(5, _), (4, _), (47, _), (10, _), (39, _), (9, _), (30, _), (8, _), (21, _), (7, _), (6, _), (14, _), (0, _), (1, _)]) ⟨rfl, rfl, rfl, rfl, rfl, rfl, rfl, rfl, rfl, rfl, rfl, rfl, rfl, rfl, trivial⟩ <| hthen <| hret <| hthen_ret <| ?_
            exact hret2 trivial rfl rfl rfl [0] rfl [] rfl ⟨_, rfl, rfl, rfl, w2⟩
          · refine hcskip <| hthen <| hseq <| hseq <| hreg <| hy (fun _ => y_move rfl) <| ?_
            refine hx (xh_call rfl Tryz.call77 (dsyncC w1) [0] rfl [] rfl ?_)
            rintro _ _ _ ⟨st13, rfl, rfl, rfl, w2⟩
            refine hy (fun _ => y_assign rfl) <| hend <| hsub (ρ' := [(11, _), (47, _), (10, _), (39, _), (9, _), (30, _), (8, _), (21, _), (7, _), (6, _), (14, _), (5, _), (4, _), (0, _), (1, _)]) ⟨rfl, rfl, rfl, rfl, rfl, rfl, rfl, rfl, rfl, rfl, rfl, rfl, rfl, rfl, rfl, trivial⟩ <| hmemQ (X' := [_, _]) (S' := [_]) (fun _ m => m) <| hthen <| hseq <| hreg <| hy (fun _ => y_move rfl) <| hy (fun _ => y_neq rfl rfl) <| hend <| hsub (ρ' := [(52, _), (11, _), (47, _), (10, _), (39, _), (9, _), (30, _), (8, _), (21, _), (7, _), (6, _), (14, _), (5, _), (4, _), (0, _), (1, _)]) ⟨rfl, rfl, rfl, rfl, rfl, rfl, rfl, rfl, rfl, rfl, rfl, rfl, rfl, rfl, rfl, rfl, trivial⟩ <| hthen <| ?_
            refine hif rfl (fun xb => ?_) (fun xb => ?_)
            · rw [hS, RD.stage2, if_neg xa, if_pos xb]
              have w3 := (ds_nosync w2 xb).le (show kk + 2 + 1 ≤ kk + 3 by omega)
              refine hseq <| hreg <| hy (fun _ => y_move rfl) <| hy (fun _ => y_assign rfl) <| hy (fun _ => y_assign rfl) <| hend <| hsub (ρ' := [(5, _), (4, _), (52, _), (11, _), (47, _), (10, _), (39, _), (9, _), (30, _), (8, _), (21, _), (7, _), (6, _), (14, _), (0, _), (1, _)]) ⟨rfl, rfl, rfl, rfl, rfl, rfl, rfl, rfl, rfl, rfl, rfl, rfl, rfl, rfl, rfl, rfl, trivial⟩ <| hthen <| hret <| hthen_ret <| ?_
              exact hret2 trivial rfl rfl rfl [0] rfl [] rfl ⟨_, rfl, rfl, rfl, w3⟩
            · rw [hS, RD.stage2, if_neg xa, if_neg xb]
              refine hcskip <| hthen <| hseq <| hreg <| hy (fun _ => y_move rfl) <| hy (fun _ => y_assign rfl) <| hy (fun _ => y_assign rfl) <| hend <| hsub (ρ' := [(5, _), (4, _), (52, _), (11, _), (47, _), (10, _), (39, _), (9, _), (30, _), (8, _), (21, _), (7, _), (6, _), (14, _), (0, _), (1, _)]) ⟨rfl, rfl, rfl, rfl, rfl, rfl, rfl, rfl, rfl, rfl, rfl, rfl, rfl, rfl, rfl, rfl, trivial⟩ <| hthen <| hret <| ?_
              exact hret2 trivial rfl rfl rfl [0] rfl [] rfl ⟨_, rfl, rfl, rfl, w2.le (show kk + 2 + 1 ≤ kk + 3 by omega)⟩
      · have hS := hfree hf
        refine hcskip <| hthen <| hseq <| hseq <| hreg <| hy (fun _ => y_move rfl) <| hy (fun _ => y_move rfl) <| ?_
        refine hx (xh_call rfl Tryz.call124 (fileC ho) [] rfl [] rfl ?_)
        rintro _ _ _ ⟨rfl, rfl, rfl⟩
        refine hy (fun _ => y_move rfl) <| ?_
        refine hx (xh_call rfl Tryz.call41 (dwriteC (hD.le (show kk ≤ kk + 2 by omega)) (by omega) hl (by omega) (p := (nSlot i)) (l := bb)) [1] rfl [0] rfl ?_)
        rintro _ _ _ ⟨st1, rfl, rfl, rfl, w1⟩
        refine hy (fun _ => y_assign rfl) <| hend <| hsub (ρ' := [(10, _), (30, _), (8, _), (21, _), (7, _), (6, _), (14, _), (5, _), (4, _), (0, _), (1, _)]) ⟨rfl, rfl, rfl, rfl, rfl, rfl, rfl, rfl, rfl, rfl, rfl, trivial⟩ <| hmemQ (X' := [_, _]) (S' := [_]) (fun _ m => m) <| hthen <| hseq <| hreg <| hy (fun _ => y_move rfl) <| hy (fun _ => y_neq rfl rfl) <| hend <| hsub (ρ' := [(47, _), (10, _), (30, _), (8, _), (21, _), (7, _), (6, _), (14, _), (5, _), (4, _), (0, _), (1, _)]) ⟨rfl, rfl, rfl, rfl, rfl, rfl, rfl, rfl, rfl, rfl, rfl, rfl, trivial⟩ <| hthen <| ?_
        refine hif rfl (fun ya => ?_) (fun ya => ?_)
        · rw [hS, RD.stage2, if_pos ya]
          have w2 := (ds_nowrite w1 ya).le (show kk + 2 + 1 ≤ kk + 3 by omega)
          refine hseq <| hreg <| hy (fun _ => y_move rfl) <| hy (fun _ => y_assign rfl) <| hy (fun _ => y_assign rfl) <| hend <| hsub (ρ' := [(5, _), (4, _), (47, _), (10, _), (30, _), (8, _), (21, _), (7, _), (6, _), (14, _), (0, _), (1, _)]) ⟨rfl, rfl, rfl, rfl, rfl, rfl, rfl, rfl, rfl, rfl, rfl, rfl, trivial⟩ <| hthen <| hret <| hthen_ret <| ?_
          exact hret2 trivial rfl rfl rfl [0] rfl [] rfl ⟨_, rfl, rfl, rfl, w2⟩
        · refine hcskip <| hthen <| hseq <| hseq <| hreg <| hy (fun _ => y_move rfl) <| ?_
          refine hx (xh_call rfl Tryz.call77 (dsyncC w1) [0] rfl [] rfl ?_)
          rintro _ _ _ ⟨st12, rfl, rfl, rfl, w2⟩
          refine hy (fun _ => y_assign rfl) <| hend <| hsub (ρ' := [(11, _), (47, _), (10, _), (30, _), (8, _), (21, _), (7, _), (6, _), (14, _), (5, _), (4, _), (0, _), (1, _)]) ⟨rfl, rfl, rfl, rfl, rfl, rfl, rfl, rfl, rfl, rfl, rfl, rfl, rfl, trivial⟩ <| hmemQ (X' := [_, _]) (S' := [_]) (fun _ m => m) <| hthen <| hseq <| hreg <| hy (fun _ => y_move rfl) <| hy (fun _ => y_neq rfl rfl) <| hend <| hsub (ρ' := [(52, _), (11, _), (47, _), (10, _), (30, _), (8, _), (21, _), (7, _), (6, _), (14, _), (5, _), (4, _), (0, _), (1, _)]) ⟨rfl, rfl, rfl, rfl, rfl, rfl, rfl, rfl, rfl, rfl, rfl, rfl, rfl, rfl, trivial⟩ <| hthen <| ?_
          refine hif rfl (fun yb => ?_) (fun yb => ?_)
          · rw [hS, RD.stage2, if_neg ya, if_pos yb]
            have w3 := (ds_nosync w2 yb).le (show kk + 2 + 1 ≤ kk + 3 by omega)
            refine hseq <| hreg <| hy (fun _ => y_move rfl) <| hy (fun _ => y_assign rfl) <| hy (fun _ => y_assign rfl) <| hend <| hsub (ρ' := [(5, _), (4, _), (52, _), (11, _), (47, _), (10, _), (30, _), (8, _), (21, _), (7, _), (6, _), (14, _), (0, _), (1, _)]) ⟨rfl, rfl, rfl, rfl, rfl, rfl, rfl, rfl, rfl, rfl, rfl, rfl, rfl, rfl, trivial⟩ <| hthen <| hret <| hthen_ret <| ?_
            exact hret2 trivial rfl rfl rfl [0] rfl [] rfl ⟨_, rfl, rfl, rfl, w3⟩
          · rw [hS, RD.stage2, if_neg ya, if_neg yb]
            refine hcskip <| hthen <| hseq <| hreg <| hy (fun _ => y_move rfl) <| hy (fun _ => y_assign rfl) <| hy (fun _ => y_assign rfl) <| hend <| hsub (ρ' := [(5, _), (4, _), (52, _), (11, _), (47, _), (10, _), (30, _), (8, _), (21, _), (7, _), (6, _), (14, _), (0, _), (1, _)]) ⟨rfl, rfl, rfl, rfl, rfl, rfl, rfl, rfl, rfl, rfl, rfl, rfl, rfl, rfl, trivial⟩ <| hthen <| hret <| ?_
            exact hret2 trivial rfl rfl rfl [0] rfl [] rfl ⟨_, rfl, rfl, rfl, w2.le (show kk + 2 + 1 ≤ kk + 3 by omega)⟩
end Go.Proofs.YtfikjheicjamhaaGreatDoor
end
section
/- Slots over plain disks that are up: Save, Stage, Flip, Back, Active do what they should. No program. -/
set_option linter.unusedVariables false
set_option linter.unusedSimpArgs false
namespace Go.Proofs.YtfikjheicjamhaaGreatDoor
open Go.Eng Go.Hx
theorem nm_sup : Named nSup := by decide
theorem nm_new : Named nNew := by decide
theorem nm_slot (i : Nat) : Named (nSlot i) := by unfold nSlot; split <;> decide
theorem sup_ne_slot (i : Nat) : nSlot i ≠ nSup := by unfold nSlot; split <;> decide
theorem new_ne_slot (i : Nat) : nSlot i ≠ nNew := by unfold nSlot; split <;> decide
theorem slot_inj {i j : Nat} (hi : i < 2) (hj : j < 2) (h : nSlot i = nSlot j) : i = j := by
  match i, j, hi, hj with
  | 0, 0, _, _ => rfl
  | 1, 1, _, _ => rfl
  | 0, 1, _, _ => exact absurd h (by decide)
  | 1, 0, _, _ => exact absurd h (by decide)
/-- a superblock lies on a disk that is up, and files in the slots -/
structure Sst (d : RD) (s : Sup) (f : Nat → Option (List UInt8)) (T : Nat) (room : Int) : Prop where
  at_ : ∃ F, At d F T room ∧ F nSup = some s.bytes ∧ ∀ i, i < 2 → F (nSlot i) = f i
  wf : s.wf
  may : s.may
/-- Save, of bytes -/
theorem At.saveS {d : RD} {F : List UInt8 → Option (List UInt8)} {T : Nat} {room : Int} (h : At d F T room) {l : List UInt8} (hr : (T : Int) + (l.length : Nat) ≤ room) :
    ∃ d' F', d.saveS nNew nSup l = (d', 0) ∧ At d' F' (T + l.length) room ∧ F' nSup = some l ∧ ∀ i, F' (nSlot i) = F (nSlot i) := by
  have h1 := h.write nm_new hr
  have h2 := h1.sync
  have hx : fup F nNew (some l) nNew = some l := if_pos rfl
  have h3 := h2.rename nm_sup hx
  refine ⟨_, _, ?_, h3.sync, if_pos rfl, fun i => ?_⟩
  · rw [RD.saveS, if_neg (by rw [h.writeE nm_new hr]; decide), if_neg (by rw [h1.syncE]; decide), if_neg (by rw [h2.renameE nm_sup hx]; decide), h3.syncE]
  · show (if nSlot i = nSup then _ else if nSlot i = nNew then _ else if nSlot i = nNew then _ else F (nSlot i)) = _
    rw [if_neg (sup_ne_slot i), if_neg (new_ne_slot i), if_neg (new_ne_slot i)]
theorem Sst.save {d : RD} {s : Sup} {f : Nat → Option (List UInt8)} {T : Nat} {room : Int} (h : Sst d s f T room) {t : Sup} (hw : t.wf) (hm : t.may) (hr : (T : Int) + 87 ≤ room) :
    ∃ d', d.saveSup t = (d', 0) ∧ Sst d' t f (T + 87) room := by
  obtain ⟨F, ha, h1, h2⟩ := h.at_
  have hl := Sup.bytes_len hw
  obtain ⟨d', F', e1, e2, e3, e4⟩ := ha.saveS (l := t.bytes) (by omega)
  rw [hl] at e2
  exact ⟨d', by rw [RD.saveSup, if_pos hm, e1], ⟨F', e2, e3, fun i hi => by rw [e4, h2 i hi]⟩, hw, hm⟩
theorem Sst.le {d : RD} {s : Sup} {f : Nat → Option (List UInt8)} {T T' : Nat} {room : Int} (h : Sst d s f T room) (hT : T ≤ T') : Sst d s f T' room := by
  obtain ⟨F, ha, h1, h2⟩ := h.at_
  exact ⟨⟨F, ⟨ha.pw, ha.room, ha.look, Nat.le_trans ha.tot hT⟩, h1, h2⟩, h.wf, h.may⟩
theorem Sst.load {d : RD} {s : Sup} {f : Nat → Option (List UInt8)} {T : Nat} {room : Int} (h : Sst d s f T room) : d.loadS = (s, 0) := by
  obtain ⟨F, ha, h1, h2⟩ := h.at_
  rw [RD.loadS, if_neg (by rw [ha.readE, if_neg (by rw [h1]; simp)]; decide), ha.readB, h1]
  exact rdSup_bytes h.wf h.may
/-- a new disk, formatted -/
theorem Sst.fresh {room : Int} (hr : 87 ≤ room) : ∃ d', (RD.new room).saveSup Sup.zero = (d', 0) ∧ Sst d' Sup.zero (fun _ => none) 87 room := by
  have ha : At (RD.new room) (fun _ => none) 0 room := ⟨rfl, rfl, fun p => rfl, Nat.le_refl _⟩
  have hl := Sup.bytes_len Sup.zero_wf
  obtain ⟨d', F', e1, e2, e3, e4⟩ := ha.saveS (l := Sup.zero.bytes) (by rw [hl]; simpa using hr)
  rw [hl] at e2
  exact ⟨d', by rw [RD.saveSup, if_pos Sup.zero_may, e1], ⟨F', by simpa using e2, e3, fun i hi => e4 i⟩, Sup.zero_wf, Sup.zero_may⟩
theorem Sst.image {d : RD} {s : Sup} {f : Nat → Option (List UInt8)} {T : Nat} {room : Int} (h : Sst d s f T room) {i : Nat} (hi : i < 2) {q : List UInt8} (hf : (s.at i).full = true) (hq : f i = some q) (hz : (q.length : Int) = (s.at i).size) (hs : shaL q = (s.at i).image) : d.imageS s i = (q, 0) := by
  obtain ⟨F, ha, h1, h2⟩ := h.at_
  have e : d.readB (nSlot i) = q := by rw [ha.readB, h2 i hi, hq]; rfl
  rw [RD.imageS, if_neg (by rw [hf]; decide), if_neg (by rw [ha.readE, if_neg (by rw [h2 i hi, hq]; simp)]; decide), e, if_neg (fun hh => hh.elim (fun h => h hz) (fun h => h hs))]
theorem Sst.active {d : RD} {s : Sup} {f : Nat → Option (List UInt8)} {T : Nat} {room : Int} (h : Sst d s f T room) : d.activeS = d.imageS s s.active.toNat := by
  rw [RD.activeS, h.load, if_neg (fun hh => hh rfl)]
theorem Sup.may_put {s : Sup} (hm : s.may) {i : Nat} {x : Sl} (hx : x.may) : (s.put i x).may := by
  obtain ⟨h1, h2, h3, h4, h5⟩ := hm
  unfold Sup.put
  split
  · exact ⟨h1, h2, h3, hx, h5⟩
  · exact ⟨h1, h2, h3, h4, hx⟩
theorem put_gen (s : Sup) (i : Nat) (x : Sl) : (s.put i x).gen = s.gen ∧ (s.put i x).active = s.active := by
  unfold Sup.put
  split <;> exact ⟨rfl, rfl⟩
theorem put_at {s : Sup} {i j : Nat} (hi : i < 2) (hj : j < 2) (x : Sl) : (s.put i x).at j = if j = i then x else s.at j := by
  match i, j, hi, hj with
  | 0, 0, _, _ => rfl
  | 0, 1, _, _ => rfl
  | 1, 0, _, _ => rfl
  | 1, 1, _, _ => rfl
theorem turned_may {s : Sup} (hm : s.may) (hg : s.gen < 2147483647) : s.turned.may := by
  obtain ⟨h1, h2, h3, h4, h5⟩ := hm
  exact ⟨by show 1 - s.active = 0 ∨ 1 - s.active = 1; omega, by show 0 ≤ s.gen + 1; omega, by show s.gen + 1 ≤ _; omega, h4, h5⟩
theorem turned_wf0 {s : Sup} (h : s.wf) (hm : s.may) (hg : s.gen < 2147483647) : s.turned.wf := by
  have := h.g0
  have := hm.1
  exact ⟨by show _ ≤ 1 - s.active; omega, by show 1 - s.active ≤ _; omega, by show _ ≤ s.gen + 1; omega, by show s.gen + 1 ≤ _; omega, h.w0, h.w1⟩
theorem Sst.turn {d : RD} {s : Sup} {f : Nat → Option (List UInt8)} {T : Nat} {room : Int} (h : Sst d s f T room) {t : Sup} (hw : t.wf) (hm : t.may) (hg : t.gen < 2147483647) (hr : (T : Int) + 87 ≤ room) :
    ∃ d', d.turnS t = (d', t.gen + 1, 0) ∧ Sst d' t.turned f (T + 87) room := by
  obtain ⟨d', e1, e2⟩ := h.save (turned_wf0 hw hm hg) (turned_may hm hg) hr
  refine ⟨d', ?_, e2⟩
  rw [RD.turnS, if_neg (by omega), e1]
  exact if_neg (fun hh => hh rfl)
def fset (f : Nat → Option (List UInt8)) (i : Nat) (v : List UInt8) : Nat → Option (List UInt8) := fun j => if j = i then some v else f j
/-- Stage: what was in the other slot is given up, and the image lies there -/
def Sup.freed (s : Sup) : Sup := if (s.at s.other).full then s.put s.other Sl.zero else s
theorem Sst.stage {d : RD} {s : Sup} {f : Nat → Option (List UInt8)} {T : Nat} {room : Int} (h : Sst d s f T room) {bb : List UInt8} (hb : bb.length ≤ 65536) (hr : (T : Int) + 87 + (bb.length : Nat) ≤ room) :
    ∃ d', d.stageS bb = (d', (s.other : Int), 0) ∧ Sst d' (Sup.freed s) (fset f s.other bb) (T + 87 + bb.length) room := by
  obtain ⟨ho, ho2, ha, ha2⟩ := Sup.may_other h.may
  have key : ∀ {d1 : RD} {t : Sup}, Sst d1 t f (T + 87) room → d1.writeE (nSlot s.other) bb = 0 ∧ (d1.write (nSlot s.other) bb).syncE = 0 ∧ Sst (d1.write (nSlot s.other) bb).sync t (fset f s.other bb) (T + 87 + bb.length) room := by
    intro d1 t h1
    obtain ⟨F, hF, e1, e2⟩ := h1.at_
    have hr' : ((T + 87 : Nat) : Int) + (bb.length : Nat) ≤ room := by omega
    have hW := hF.write (nm_slot s.other) (l := bb) hr'
    refine ⟨hF.writeE (nm_slot s.other) hr', hW.syncE, ⟨_, hW.sync, ?_, fun i hi => ?_⟩, h1.wf, h1.may⟩
    · show (if nSup = nSlot s.other then _ else F nSup) = _
      rw [if_neg (fun h => sup_ne_slot _ h.symm), e1]
    · show (if nSlot i = nSlot s.other then some bb else F (nSlot i)) = if i = s.other then some bb else f i
      by_cases hi2 : i = s.other
      · rw [if_pos (by rw [hi2]), if_pos hi2]
      · rw [if_neg (fun h => hi2 (slot_inj hi ho h)), if_neg hi2, e2 i hi]
  unfold RD.stageS
  rw [if_neg (by omega), h.load, if_neg (fun hh => hh rfl)]
  unfold Sup.freed
  by_cases hf : (s.at s.other).full = true
  · obtain ⟨d1, e1, e2⟩ := h.save (t := s.put s.other Sl.zero) (Sup.put_wf h.wf Sl.zero_wf) (Sup.may_put h.may (by decide)) (by omega)
    obtain ⟨k1, k2, k3⟩ := key e2
    refine ⟨_, ?_, by rw [if_pos hf]; exact k3⟩
    simp only [hf, if_true, e1]
    rw [if_neg (by decide), if_neg (by rw [k1]; decide), if_neg (by rw [k2]; decide)]
  · obtain ⟨k1, k2, k3⟩ := key (h.le (show T ≤ T + 87 by omega))
    refine ⟨_, ?_, by rw [if_neg hf]; exact k3⟩
    simp only [hf, Bool.false_eq_true, if_false]
    rw [if_neg (by decide), if_neg (by rw [k1]; decide), if_neg (by rw [k2]; decide)]
/-- the superblock behind a Flip -/
def Sup.flipped (s : Sup) (im : List UInt8) (n : Nat) : Sup := (s.put s.other ⟨true, im, (n : Int)⟩).turned
theorem Sst.flip {d : RD} {s : Sup} {f : Nat → Option (List UInt8)} {T : Nat} {room : Int} (h : Sst d s f T room) {q im : List UInt8} (hq : f s.other = some q) (hl : q.length ≤ 65536) (hs : shaL q = im) (hg : s.gen < 2147483647) (hr : (T : Int) + 87 ≤ room) :
    ∃ d', d.flipS im = (d', s.gen + 1, 0) ∧ Sst d' (Sup.flipped s im q.length) f (T + 87) room := by
  obtain ⟨ho, ho2, ha, ha2⟩ := Sup.may_other h.may
  obtain ⟨F, hF, e1, e2⟩ := h.at_
  have hi : im.length = 32 := by rw [← hs]; exact shaL_length _
  have hw : (s.put s.other ⟨true, im, (q.length : Int)⟩).wf := Sup.put_wf h.wf ⟨hi, by show _ ≤ ((q.length : Nat) : Int); omega, by show ((q.length : Nat) : Int) ≤ _; omega⟩
  have hm : (s.put s.other ⟨true, im, (q.length : Int)⟩).may := Sup.may_put h.may ⟨by show (0 : Int) ≤ ((q.length : Nat) : Int); omega, by show ((q.length : Nat) : Int) ≤ _; omega, fun h => by cases h⟩
  obtain ⟨d', k1, k2⟩ := h.turn hw hm (by rw [(put_gen _ _ _).1]; exact hg) hr
  have hE : d.readE (nSlot s.other) = 0 := by rw [hF.readE, if_neg (by rw [e2 _ ho, hq]; simp)]
  have hB : d.readB (nSlot s.other) = q := by rw [hF.readB, e2 _ ho, hq]; rfl
  refine ⟨d', ?_, k2⟩
  unfold RD.flipS
  rw [h.load, if_neg (fun hh => hh rfl)]
  simp only [hE, hB]
  rw [if_neg (by decide), if_neg (by omega), if_neg (by rw [hs]; simp), k1, (put_gen _ _ _).1]
theorem Sst.back {d : RD} {s : Sup} {f : Nat → Option (List UInt8)} {T : Nat} {room : Int} (h : Sst d s f T room) {q : List UInt8} (hf : (s.at s.other).full = true) (hq : f s.other = some q) (hz : (q.length : Int) = (s.at s.other).size) (hs : shaL q = (s.at s.other).image) (hg : s.gen < 2147483647) (hr : (T : Int) + 87 ≤ room) :
    ∃ d', d.backS = (d', s.gen + 1, 0) ∧ Sst d' s.turned f (T + 87) room := by
  obtain ⟨ho, ho2, ha, ha2⟩ := Sup.may_other h.may
  obtain ⟨d', k1, k2⟩ := h.turn h.wf h.may hg hr
  refine ⟨d', ?_, k2⟩
  unfold RD.backS
  rw [h.load, if_neg (fun hh => hh rfl)]
  simp only [h.image ho hf hq hz hs]
  rw [if_neg (by decide), k1]
end Go.Proofs.YtfikjheicjamhaaGreatDoor
end
