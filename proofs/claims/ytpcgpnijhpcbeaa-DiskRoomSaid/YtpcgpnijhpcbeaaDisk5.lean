/- The law DiskRoom, computed. -/
import Derived.Test.YtpcgpnijhpcbeaaDisk4
import Derived.Test.YtpcgpnijhpcbeaaCells
set_option linter.unusedVariables false
set_option linter.unusedSimpArgs false
set_option maxRecDepth 20000
namespace Go.Proofs.Ytpcgpnijhpcbeaa
open Go.Eng Go.Hx
/-- what is done to a disk, in cells -/
theorem ty_O {xs : List Cell} (h : Ty Try.prog 44 xs) : ∃ (a p t n : Int) (B : Option Addr) (m c : Nat) (ys : List Cell) (l : List UInt8) (B2 : Option Addr) (m2 c2 : Nat) (zs : List Cell), xs = [.v (.int .i64 a), .v (.int .i64 p), .v (.int .i64 t), .v (.int .i64 n), .s 1 B m c ys, .s 1 B2 m2 c2 zs] ∧
    (-9223372036854775808 ≤ a ∧ a ≤ 9223372036854775807) ∧ (-9223372036854775808 ≤ p ∧ p ≤ 9223372036854775807) ∧ (-9223372036854775808 ≤ t ∧ t ≤ 9223372036854775807) ∧ (-9223372036854775808 ≤ n ∧ n ≤ 9223372036854775807) ∧ m ≤ c ∧ m ≤ 140737488351232 ∧ ys.map Cell.val = b8s l ∧ l.length = m ∧ m2 ≤ c2 ∧ Ty Try.prog 42 [.s 1 B2 m2 c2 zs] := by
  obtain ⟨hl, hf⟩ := ty_struct Try.underlying44 h
  have hl6 : xs.length = 6 := hl.trans (by kernel_rfl)
  match xs, hl6 with
  | [x0, x1, x2, x3, x4, x5], _ =>
    obtain ⟨a, e0, h0⟩ := ty_i64 Try.underlying3 (hf 0 _ rfl)
    obtain ⟨p, e1, h1⟩ := ty_i64 Try.underlying3 (hf 1 _ rfl)
    obtain ⟨t, e2, h2⟩ := ty_i64 Try.underlying3 (hf 2 _ rfl)
    obtain ⟨n, e3, h3⟩ := ty_i64 Try.underlying3 (hf 3 _ rfl)
    obtain ⟨B, m, c, ys, l, e4, h4, h5, h6, h7⟩ := ty_bytes Try.underlying29 Try.underlying5 (by kernel_rfl) (by kernel_rfl) (hf 4 _ rfl)
    have h8 := hf 5 _ rfl
    obtain ⟨B2, m2, c2, zs, e5, h9, _⟩ := ty_slice Try.underlying42 h8
    have c1 : Try.prog.cellsOf 4 = 1 := by kernel_rfl
    rw [c1] at e5
    have d0 : x0 = .v (.int .i64 a) := List.singleton_inj.1 e0
    have d1 : x1 = .v (.int .i64 p) := List.singleton_inj.1 e1
    have d2 : x2 = .v (.int .i64 t) := List.singleton_inj.1 e2
    have d3 : x3 = .v (.int .i64 n) := List.singleton_inj.1 e3
    have d4 : x4 = .s 1 B m c ys := List.singleton_inj.1 e4
    have d5 : x5 = .s 1 B2 m2 c2 zs := List.singleton_inj.1 e5
    subst d0 d1 d2 d3 d4 d5
    rw [e5] at h8
    exact ⟨a, p, t, n, B, m, c, ys, l, B2, m2, c2, zs, rfl, h0, h1, h2, h3, h4, h5, h6, h7, h9, h8⟩
def ints (l : List Nat) : List Value := l.map fun n => Value.int .i64 (n : Nat)
theorem ints_get {l : List Nat} {k : Nat} (h : k < l.length) : (ints l)[k]? = some (.int .i64 (l.getD k 0 : Nat)) := by simp [ints, List.getElem?_map, List.getElem?_eq_getElem h, List.getD]
theorem tot_aput : ∀ (l : Files) (p : List UInt8) (r : BRow), tot (aput l p r) + ((aget l p).map (·.n)).getD 0 = tot l + r.n
  | [], p, r => by simp [aput, aget, tot]
  | (k, u) :: q, p, r => by
    have := tot_aput q p r
    simp only [aput, aget]
    split
    · simp [tot]; omega
    · simp only [tot, List.map_cons, List.sum_cons] at this ⊢
      omega
def sz (st : DSt) (k : Nat) : Nat := ((aget st.seen [UInt8.ofNat (97 + k)]).map (·.n)).getD 0
/-- the sizes that were noted are the files' -/
def Noted (st : DSt) (zs : List Nat) : Prop := zs.length = 3 ∧ (∀ k, k < 3 → sz st k = zs.getD k 0) ∧ tot st.seen = zs.getD 0 0 + zs.getD 1 0 + zs.getD 2 0
theorem Noted.put {st : DSt} {zs : List Nat} (h : Noted st zs) {k : Nat} (hk : k < 3) {r : BRow} {A : Option Addr} {c : Nat} : Noted (st.wrote [UInt8.ofNat (97 + k)] r A c) (zs.set k r.n) := by
  obtain ⟨h1, h2, h3⟩ := h
  refine ⟨by rw [List.length_set, h1], fun j hj => ?_, ?_⟩
  · have hne : (UInt8.ofNat (97 + k) = UInt8.ofNat (97 + j)) ↔ k = j := by
      constructor
      · intro e
        have := congrArg UInt8.toNat e
        rw [UInt8.toNat_ofNat', UInt8.toNat_ofNat'] at this
        omega
      · rintro rfl; rfl
    show ((aget (aput st.seen [UInt8.ofNat (97 + k)] r) [UInt8.ofNat (97 + j)]).map (·.n)).getD 0 = _
    rw [aget_aput]
    by_cases hkj : k = j
    · subst hkj
      simp [List.getD, h1, hk]
    · have h4 := h2 j hj
      unfold sz at h4
      rw [if_neg (fun e => hkj (hne.1 (List.singleton_inj.1 e))), h4]
      simp [List.getD, List.getElem?_set, hkj]
  · show tot (aput st.seen [UInt8.ofNat (97 + k)] r) = _
    have h4 := tot_aput st.seen [UInt8.ofNat (97 + k)] r
    have h5 := h2 k hk
    unfold sz at h5
    rw [h5, h3] at h4
    match zs, h1, k, hk with
    | [a, b, d], _, 0, _ => simp at h4 ⊢; omega
    | [a, b, d], _, 1, _ => simp at h4 ⊢; omega
    | [a, b, d], _, 2, _ => simp at h4 ⊢; omega
theorem named_k {k : Nat} (hk : k < 3) : Named [UInt8.ofNat (97 + k)] := named1 (fun e => by
  have := congrArg UInt8.toNat e
  rw [UInt8.toNat_ofNat'] at this
  simp at this
  omega)
theorem letter_k {k : Nat} (hk : k < 3) : IntKind.u8.wrap (97 + (k : Int)) = ((UInt8.ofNat (97 + k)).toNat : Int) := by
  rw [UInt8.toNat_ofNat']
  simp [IntKind.wrap, IntKind.signed, IntKind.bits]
theorem diskRoomC {z : Int} {A : Option Addr} {n c : Nat} {xs : List Cell} (hz : -9223372036854775808 ≤ z ∧ z ≤ 9223372036854775807) (hT : Ty Try.prog 36 [.s 6 A n c xs]) : Con Try.prog 4 [.int .i64 z, .slice A n c] [] [RCell (.s 6 A n c xs)] (fun v_ X_ S_ => v_ = (.bool true) ∧ X_ = [] ∧ S_ = []) := by
  obtain ⟨_, _, _, _, e6, hnc, hnb, hxl, hel⟩ := ty_slice Try.underlying36 hT
  have c6 : Try.prog.cellsOf 44 = 6 := by kernel_rfl
  have b6 : Try.prog.bytesOf 44 = 80 := by kernel_rfl
  rw [c6] at e6 hel hxl
  rw [b6] at hnb
  cases e6
  obtain ⟨ar0, ar1⟩ := around_lt z 60 (by decide)
  refine henter (N := 135) Try.func4 rfl rfl (by simp) fun b => ?_
  refine hfactC (fun m => cellF (m.sres 0 rfl)) ?_
  rintro ⟨hl_r, hA_r, hc_r⟩
  refine hseq <| hreg <| hy (fun _ => y_assign rfl) <| hend <| hthen <| hseq <| hreg <| hy (fun _ => y_move rfl) <| ?_
  refine hx (xh_call rfl Try.call13 (aroundC (by omega) (by omega) (by omega)) [] rfl [] rfl ?_)
  rintro _ _ _ ⟨rfl, rfl, rfl⟩
  generalize around z 60 = N0 at ar0 ar1 ⊢
  refine hy (fun _ => y_add rfl rfl (w64 (by omega) (by omega))) <| hy (fun _ => y_assign rfl) <| hend <| hsub (ρ' := [(5, _), (4, _), (0, _), (1, _)]) ⟨rfl, rfl, rfl, rfl, trivial⟩ <| hmemQ (X' := []) (S' := [_]) (fun _ m => m) <| hthen <| hseq <| hreg <| hy (fun _ => y_move rfl) <| ?_
  refine hx (xh_call rfl Try.call16 (newC (by omega) (by omega)) [] rfl [] rfl ?_)
  rintro _ _ _ ⟨g, gs, gl, rfl, rfl, rfl⟩
  refine hy (fun _ => y_move rfl) <| hy (fun _ => y_extract rfl rfl) <| hy (fun _ => y_extract rfl rfl) <| hy (fun _ => y_assign rfl) <| hy (fun _ => y_assign rfl) <| hend <| hsub (ρ' := [(7, _), (6, _), (5, _), (4, _), (0, _), (1, _)]) ⟨rfl, rfl, rfl, rfl, rfl, rfl, trivial⟩ <| hmemQ (X' := [_]) (S' := [_]) (fun _ m => m) <| hthen <| hseq <| hseq <| hreg <| hy (fun _ => y_move rfl) <| hy (fun _ => y_eqPn rfl rfl (by kernel_rfl)) <| hy (fun _ => y_move rfl) <| ?_
  refine hyg (o := _) rfl rfl rfl (fun _ => y_move rfl) <| hyg (o := _) rfl rfl rfl (fun _ => y_neq rfl rfl) <| hy (fun _ => y_pickF rfl rfl) <| hend <| hsub (ρ' := [(29, _), (7, _), (6, _), (5, _), (4, _), (0, _), (1, _)]) ⟨rfl, rfl, rfl, rfl, rfl, rfl, rfl, trivial⟩ <| hthen <| ?_
  refine hiff rfl ((by decide)) ?_
  refine hcskip <| hthen <| hseq <| hreg <| ?_
  refine hx (xh_bsl Try.underlying41 ti3 rfl rfl rfl (by simp [Value.cells]) (by decide) (by decide) (fun g30 => ?_))
  have hA_b30 : 0 < 3 → (some (⟨g30, 0, none⟩ : Addr)) ≠ none := fun _ h => by cases h
  refine hmemL (fun w m => m.eqX 0 rfl (show _ = ROwn 3 1 (.slice (some ⟨g30, 0, none⟩) 3 3) 3 (ints [0, 0, 0]) from rfl)) ?_
  have ok0 := DOk.init (n := 1 + N0) (gs := gs) (gl := gl) (by omega)
  have no0 : Noted (dinit (1 + N0) gs gl) [0, 0, 0] := ⟨rfl, fun k hk => by
    match k, hk with
    | 0, _ => rfl
    | 1, _ => rfl
    | 2, _ => rfl, rfl⟩
  refine hy (fun _ => y_assign rfl) <| hend <| hsub (ρ' := [(8, _), (29, _), (7, _), (6, _), (5, _), (4, _), (0, _), (1, _)]) ⟨rfl, rfl, rfl, rfl, rfl, rfl, rfl, rfl, trivial⟩ <| hmemQ (X' := [_, _]) (S' := [_]) (fun _ m => m) <| hthen <| hseq <| hseq <| hreg <| hy (fun _ => y_assign rfl) <| hend <| hthen <| hblock <| ?_
  refine hloop3 (fun i st zs => n - i) (fun i st zs => [(9, .int .i64 (i : Nat))]) (fun i st zs => [RDisk g st, ROwn 3 1 (.slice (some ⟨g30, 0, none⟩) 3 3) 3 (ints zs)]) (fun i st zs => []) (fun i st zs => i ≤ 12 ∧ i ≤ n ∧ DOk st i ∧ st.room = 1 + N0 ∧ st.power = -1 ∧ Noted st zs) 0 (dinit (1 + N0) gs gl) [0, 0, 0] [(8, _), (29, _), (7, _), (6, _), (5, _), (0, _), (1, _)] ⟨rfl, rfl, rfl, rfl, rfl, rfl, rfl, trivial⟩ [1, 0] rfl [] rfl (⟨by decide, Nat.zero_le _, ok0, rfl, rfl, no0⟩) ⟨rfl, trivial⟩ (fun i st zs ⟨h12, hin, ok, hroom, hpow, hno⟩ => ?_)
  have htot := ok.tot
  have htot2 := hno.2.2
  refine hseq <| hseq <| hreg <| hy (fun _ => y_move rfl) <| hy (fun _ => y_move rfl) <| hy (fun _ => y_lenS rfl Try.underlying36) <| hy (fun _ => y_lss rfl rfl) <| hy (fun _ => y_move rfl) <| ?_
  refine hsplit 35 rfl (fun h1 => ?_) (fun h1 => ?_)
  · refine hyg (o := _) rfl rfl rfl (fun _ => y_move rfl) <| hyg (o := _) rfl rfl rfl (fun _ => y_lss rfl rfl) <| hy (fun _ => y_pickT rfl rfl) <| hend <| hsub (ρ' := [(38, _), (9, _), (8, _), (29, _), (7, _), (6, _), (5, _), (0, _), (1, _)]) ⟨rfl, rfl, rfl, rfl, rfl, rfl, rfl, rfl, rfl, trivial⟩ <| hthen <| ?_
    refine hif rfl (fun h2 => ?_) (fun h2 => ?_)
    · obtain ⟨oa, op, ot, on, Bo, mb, mc, ys, lb, B2, m2, mc2, zs2, he, _, hp1, _, _, hmc, hmn, hys, hlb, _, _⟩ := ty_O (hel i (by omega))
      refine hmemC (fun w m => m.asV 0 rfl (View.cellRow (piece_get he (o := 4) rfl) hys)) ?_
      refine hfactC (fun m => rdB (m.rd 0 rfl)) ?_
      rintro ⟨hl_rb, hA_rb⟩
      refine hcskip <| hthen <| hseq <| hblock <| hseq <| hreg <| hy (fun _ => y_move rfl) <| hy (fun _ => y_move rfl) <| hy (fun _ => y_idxS rfl rfl Try.underlying36 sz44 hA_r rfl (by omega)) <| hy (fun _ => y_fld rfl fa44_1 (by decide)) <| hy (fun m => yV (y_ld1 rfl ag3 (rd_fld (View.row0.ok.1 _ (m.sres 1 rfl)) (cell_val (piece_get he (o := 1) rfl)))) ((rfl : _ = Value.int .i64 op))) <| ?_
      refine hx (xh_call rfl Try.call13 (aroundC (by omega) (by omega) (by omega)) [] rfl [] rfl ?_)
      rintro _ _ _ ⟨rfl, rfl, rfl⟩
      obtain ⟨k, hk, hk3⟩ : ∃ k : Nat, around op 3 = (k : Int) ∧ k < 3 := by
        have := around_lt op 3 (by decide)
        exact ⟨(around op 3).toNat, by omega, by omega⟩
      rw [hk]
      refine hy (fun _ => y_assign rfl) <| hend <| hsub (ρ' := [(10, _), (38, _), (9, _), (8, _), (29, _), (7, _), (6, _), (5, _), (0, _), (1, _)]) ⟨rfl, rfl, rfl, rfl, rfl, rfl, rfl, rfl, rfl, rfl, trivial⟩ <| hmemQ (X' := [_, _]) (S' := [_, _]) (fun _ m => m) <| hthen <| hseq <| hreg <| hy (fun _ => y_move rfl) <| hy (fun _ => y_move rfl) <| hy (fun _ => y_idxS rfl rfl Try.underlying36 sz44 hA_r rfl (by omega)) <| hy (fun _ => y_fld rfl fa44_4 (by decide)) <| hy (fun m => yV (y_ld1 rfl ag29 (rd_fld (View.row0.ok.1 _ (m.sres 1 rfl)) (cell_val (piece_get he (o := 4) rfl)))) ((rfl : _ = Value.slice Bo mb mc))) <| ?_
      refine hx (xh_call rfl Try.call17 (fewC (by omega) (by omega) (m := 30)) [] rfl [0] rfl ?_)
      rintro _ _ _ ⟨v, rfl, rfl, rfl⟩
      refine hfactL (fun m => (m.own 0 rfl).slice) ?_
      rintro ⟨A_x, c_x, rfl, hc_x⟩
      refine hfactL (fun m => (m.ord 0 rfl).2.1) fun hA_x => ?_
      have hq30 : min mb 30 ≤ 30 := Nat.min_le_right _ _
      have hql : (lb.take 30).length = min mb 30 := by rw [List.length_take]; omega
      generalize min mb 30 = q at hq30 hql hA_x hc_x ⊢
      generalize lb.take 30 = bb at hql ⊢
      have h3 := hno.1
      have hsk := hno.2.1 k hk3
      have hold : zs.getD k 0 ≤ zs.getD 0 0 + zs.getD 1 0 + zs.getD 2 0 := by
        match k, hk3 with
        | 0, _ => omega
        | 1, _ => omega
        | 2, _ => omega
      refine hy (fun _ => y_assign rfl) <| hend <| hsub (ρ' := [(11, _), (10, _), (38, _), (9, _), (8, _), (29, _), (7, _), (6, _), (5, _), (0, _), (1, _)]) ⟨rfl, rfl, rfl, rfl, rfl, rfl, rfl, rfl, rfl, rfl, rfl, trivial⟩ <| hmemQ (X' := [_, _, _]) (S' := [_, _]) (fun _ m => m) <| hthen <| hseq <| hdrw [] [(0, some 0), (1, some 0), (2, some 0), (3, some 0), (4, some 0), (5, some 0), (6, some 0), (7, some 0), (8, some 0), (9, some 0), (10, some 0), (11, some 0), (12, some 0), (13, some 0), (14, some 0), (15, some 0), (16, some 0), (17, some 0), (18, some 0), (19, some 0)] (by kernel_rfl) (by kernel_rfl) rfl 99 <| htyU (y_move rfl) <| htyU (y_idxS1 rfl rfl Try.underlying41 sz3 hA_b30 (show ((0 : Nat) : Int) = 0 from rfl) (by omega)) <| hty (fun m => y_ld1 rfl ag3 ((m.ord 2 rfl).cell (j := 0) (ints_get (by omega)))) <| htyU (y_move rfl) <| htyU (y_idxS1 rfl rfl Try.underlying41 sz3 hA_b30 (show ((1 : Nat) : Int) = 1 from rfl) (by omega)) <| hty (fun m => y_ld1 rfl ag3 ((m.ord 2 rfl).cell (j := 1) (ints_get (by omega)))) <| htyU (y_add rfl rfl (w64 (by omega) (by omega))) <| htyU (y_move rfl) <| htyU (y_idxS1 rfl rfl Try.underlying41 sz3 hA_b30 (show ((2 : Nat) : Int) = 2 from rfl) (by omega)) <| hty (fun m => y_ld1 rfl ag3 ((m.ord 2 rfl).cell (j := 2) (ints_get (by omega)))) <| htyU (y_add rfl rfl (w64 (by omega) (by omega))) <| htyU (y_move rfl) <| htyU (y_move rfl) <| htyU (y_idxS1 rfl rfl Try.underlying41 sz3 hA_b30 rfl (by omega)) <| hty (fun m => y_ld1 rfl ag3 ((m.ord 2 rfl).cell (j := k) (ints_get (by omega)))) <| htyU (y_sub rfl rfl (w64 (by omega) (by omega))) <| htyU (y_move rfl) <| htyU (y_lenS rfl Try.underlying29) <| htyU (y_add rfl rfl (w64 (by omega) (by omega))) <| htyU (y_assign rfl) <| htend <| hsub (ρ' := [(12, _), (11, _), (10, _), (38, _), (9, _), (8, _), (29, _), (7, _), (6, _), (5, _), (0, _), (1, _)]) ⟨rfl, rfl, rfl, rfl, rfl, rfl, rfl, rfl, rfl, rfl, rfl, rfl, trivial⟩ <| hthen <| hseq <| hreg <| hy (fun _ => y_move rfl) <| hy (fun _ => y_move rfl) <| hy (fun _ => y_add rfl rfl (w64 (by omega) (by omega))) <| hy (fun _ => y_conv rfl Try.underlying3 Try.underlying5 (letter_k hk3)) <| ?_
      refine hx (xh_bsl Try.underlying29 ti5 rfl rfl rfl (by simp [Value.cells, B8]) (by decide) (by decide) (fun g76 => ?_))
      have hA_b76 : 0 < 1 → (some (⟨g76, 0, none⟩ : Addr)) ≠ none := fun _ h => by cases h
      refine hmemL (fun w m => m.eqX 0 rfl (show _ = ROwn 5 1 (.slice (some ⟨g76, 0, none⟩) 1 1) 1 (b8s [UInt8.ofNat (97 + k)]) from rfl)) ?_
      have hE : writeE st [UInt8.ofNat (97 + k)] q = if st.room < (tot st.seen : Int) - (sz st k : Nat) + q then 5 else 0 := by
        rw [writeE, if_neg (not_not_intro (named_k hk3)), if_neg (by omega)]
        rfl
      refine hy (fun m => y_b2s rfl Try.underlying29 Try.underlying5 Try.underlying9 (m.ord 0 rfl)) <| hy (fun _ => y_move rfl) <| ?_
      refine hx (xh_calll rfl Try.call18 (writeC ok (by omega) (by omega)) [2] rfl (.x 1 rfl .own .nil) ?_)
      rintro _ _ _ ⟨st1, B, c1, A1, c2, rfl, rfl, rfl, hp⟩
      refine ⟨rfl, ?_⟩
      by_cases hw : st.room < (tot st.seen : Int) - (sz st k : Nat) + q
      · rw [if_pos hw] at hE
        rw [hE] at hp ⊢
        have hst := (hp.resolve_right (fun h => absurd h.1 (by decide))).2.symm
        subst hst
        refine hy (fun _ => y_assign rfl) <| hend <| hsub (ρ' := [(13, _), (12, _), (11, _), (10, _), (38, _), (9, _), (8, _), (29, _), (7, _), (6, _), (5, _), (0, _), (1, _)]) ⟨rfl, rfl, rfl, rfl, rfl, rfl, rfl, rfl, rfl, rfl, rfl, rfl, rfl, trivial⟩ <| hmemQ (X' := [_, _, _, _]) (S' := [_, _]) (fun _ m => m) <| hthen <| hseq <| hseq <| hreg <| hy (fun _ => y_move rfl) <| hy (fun _ => y_eql rfl rfl) <| hy (fun _ => y_move rfl) <| hy (fun _ => y_move rfl) <| hy (fun _ => yF (y_leq rfl rfl) ((decide_eq_false (by omega)))) <| hy (fun _ => y_bne Try.underlying4 rfl rfl) <| hy (fun _ => y_move rfl) <| hyg (o := _) rfl rfl rfl (fun _ => y_move rfl) <| hyg (o := _) rfl rfl rfl (fun _ => y_neq rfl rfl) <| hyg (o := _) rfl rfl rfl (fun _ => y_move rfl) <| hyg (o := _) rfl rfl rfl (fun _ => y_move rfl) <| hyg (o := _) rfl rfl rfl (fun _ => y_neq rfl rfl) <| hyg (o := _) rfl rfl rfl (fun _ => y_pickT rfl rfl) <| hy (fun _ => y_pickF rfl rfl) <| hend <| hsub (ρ' := [(93, _), (13, _), (12, _), (11, _), (10, _), (38, _), (9, _), (8, _), (29, _), (7, _), (6, _), (5, _), (0, _), (1, _)]) ⟨rfl, rfl, rfl, rfl, rfl, rfl, rfl, rfl, rfl, rfl, rfl, rfl, rfl, rfl, trivial⟩ <| hthen <| ?_
        refine hiff rfl (rfl) ?_
        refine hcskip <| hthen <| hseq <| hseq <| hreg <| hy (fun _ => y_move rfl) <| hy (fun _ => y_eql rfl rfl) <| hend <| hsub (ρ' := [(95, _), (93, _), (13, _), (12, _), (11, _), (10, _), (38, _), (9, _), (8, _), (29, _), (7, _), (6, _), (5, _), (0, _), (1, _)]) ⟨rfl, rfl, rfl, rfl, rfl, rfl, rfl, rfl, rfl, rfl, rfl, rfl, rfl, rfl, rfl, trivial⟩ <| hthen <| ?_
        refine hiff rfl (rfl) ?_
        refine hcskip <| hthen <| hseq <| hdrw [1] [(0, some 0), (2, some 1), (3, some 1), (4, some 1), (5, some 1), (6, some 1), (7, some 1), (8, some 1), (9, some 1), (10, some 1), (11, some 1), (12, some 1), (1, none), (13, some 1)] (by kernel_rfl) (by kernel_rfl) rfl 99 <| htyU (y_move rfl) <| htyU (y_move rfl) <| htyU (y_idxS1 rfl rfl Try.underlying41 sz3 hA_b30 (show ((0 : Nat) : Int) = 0 from rfl) (by omega)) <| hty (fun m => y_ld1 rfl ag3 ((m.ord 3 rfl).cell (j := 0) (ints_get (by omega)))) <| htyU (y_move rfl) <| htyU (y_idxS1 rfl rfl Try.underlying41 sz3 hA_b30 (show ((1 : Nat) : Int) = 1 from rfl) (by omega)) <| hty (fun m => y_ld1 rfl ag3 ((m.ord 3 rfl).cell (j := 1) (ints_get (by omega)))) <| htyU (y_add rfl rfl (w64 (by omega) (by omega))) <| htyU (y_move rfl) <| htyU (y_idxS1 rfl rfl Try.underlying41 sz3 hA_b30 (show ((2 : Nat) : Int) = 2 from rfl) (by omega)) <| hty (fun m => y_ld1 rfl ag3 ((m.ord 3 rfl).cell (j := 2) (ints_get (by omega)))) <| htyU (y_add rfl rfl (w64 (by omega) (by omega))) <| ?_
        refine htx (xh_call rfl Try.call19 (usedC (by omega)) [0] rfl [] rfl ?_)
        rintro _ _ _ ⟨rfl, rfl, rfl⟩
        refine ⟨(fun _ => wk [0, 0, 0, 0] [0, 1] rfl rfl), ?_⟩
        refine htyU (y_neq rfl rfl) <| htend <| hsub (ρ' := [(114, _), (95, _), (93, _), (13, _), (12, _), (11, _), (10, _), (38, _), (9, _), (8, _), (29, _), (7, _), (6, _), (5, _), (0, _), (1, _)]) ⟨rfl, rfl, rfl, rfl, rfl, rfl, rfl, rfl, rfl, rfl, rfl, rfl, rfl, rfl, rfl, rfl, trivial⟩ <| hmemQ (X' := [_, _, _, _]) (S' := [_, _]) (fun _ m => m) <| hthen <| ?_
        refine hiff rfl (decide_eq_false (by omega)) ?_
        refine hcskip <| hqblock <| hthen <| hreg <| hy (fun _ => y_move rfl) <| hy (fun _ => y_add rfl rfl (w64 (by omega) (by omega))) <| hy (fun _ => y_assign rfl) <| hend <| hsub (ρ' := [(9, _), (114, _), (95, _), (93, _), (13, _), (12, _), (11, _), (10, _), (38, _), (8, _), (29, _), (7, _), (6, _), (5, _), (0, _), (1, _)]) ⟨rfl, rfl, rfl, rfl, rfl, rfl, rfl, rfl, rfl, rfl, rfl, rfl, rfl, rfl, rfl, rfl, trivial⟩ <| ?_
        refine hnext3 (i + 1) st zs ⟨rfl, rfl, rfl, rfl, rfl, rfl, rfl, rfl, trivial⟩ [0, 2] rfl [1] rfl (⟨by omega, by omega, ok.le (by omega), hroom, hpow, hno⟩) (by omega)
      · rw [if_neg hw] at hE
        rw [hE] at hp ⊢
        have hst := (hp.resolve_left (fun h => absurd rfl h.1)).2
        subst hst
        have ok1 := ok.wrote (p := [UInt8.ofNat (97 + k)]) (r := ⟨B, q, c1, bb⟩) (show q ≤ 1048576 by omega) A1 c2
        have hno1 : Noted (st.wrote [UInt8.ofNat (97 + k)] ⟨B, q, c1, bb⟩ A1 c2) (zs.set k q) := hno.put hk3
        have htot3 := ok1.tot
        have htot4 := hno1.2.2
        have hzl : (zs.set k q).length = 3 := hno1.1
        refine hy (fun _ => y_assign rfl) <| hend <| hsub (ρ' := [(13, _), (12, _), (11, _), (10, _), (38, _), (9, _), (8, _), (29, _), (7, _), (6, _), (5, _), (0, _), (1, _)]) ⟨rfl, rfl, rfl, rfl, rfl, rfl, rfl, rfl, rfl, rfl, rfl, rfl, rfl, trivial⟩ <| hthen <| hseq <| hseq <| hreg <| hy (fun _ => y_move rfl) <| hy (fun _ => y_eql rfl rfl) <| hy (fun _ => y_move rfl) <| hy (fun _ => y_move rfl) <| hy (fun _ => yT (y_leq rfl rfl) ((decide_eq_true (by omega)))) <| hy (fun _ => y_bne Try.underlying4 rfl rfl) <| hy (fun _ => y_move rfl) <| hyg (o := _) rfl rfl rfl (fun _ => y_move rfl) <| hyg (o := _) rfl rfl rfl (fun _ => y_neq rfl rfl) <| hyg (o := _) rfl rfl rfl (fun _ => y_move rfl) <| hskip rfl rfl rfl (by decide) <| hskip rfl rfl rfl (by decide) <| hyg (o := _) rfl rfl rfl (fun _ => y_pickF rfl rfl) <| hy (fun _ => y_pickF rfl rfl) <| hend <| hsub (ρ' := [(93, _), (13, _), (12, _), (11, _), (10, _), (38, _), (9, _), (8, _), (29, _), (7, _), (6, _), (5, _), (0, _), (1, _)]) ⟨rfl, rfl, rfl, rfl, rfl, rfl, rfl, rfl, rfl, rfl, rfl, rfl, rfl, rfl, trivial⟩ <| hthen <| ?_
        refine hiff rfl (rfl) ?_
        refine hcskip <| hthen <| hseq <| hseq <| hreg <| hy (fun _ => y_move rfl) <| hy (fun _ => y_eql rfl rfl) <| hend <| hsub (ρ' := [(95, _), (93, _), (13, _), (12, _), (11, _), (10, _), (38, _), (9, _), (8, _), (29, _), (7, _), (6, _), (5, _), (0, _), (1, _)]) ⟨rfl, rfl, rfl, rfl, rfl, rfl, rfl, rfl, rfl, rfl, rfl, rfl, rfl, rfl, rfl, trivial⟩ <| hthen <| ?_
        refine hift rfl (rfl) ?_
        refine hreg <| hy (fun _ => y_move rfl) <| hy (fun _ => y_move rfl) <| hy (fun _ => y_move rfl) <| hy (fun _ => y_lenS rfl Try.underlying29) <| hy (fun _ => y_idxS1 rfl rfl Try.underlying41 sz3 hA_b30 rfl (by omega)) <| ?_
        refine hx0 (xh_stO 3 rfl rfl rfl sz3 rfl (by omega) ?_)
        refine hmemL (fun w m => m.eqX 0 rfl (show _ = ROwn 3 1 (.slice (some ⟨g30, 0, none⟩) 3 3) 3 (ints (zs.set k q)) from by simp [ints, List.map_set])) ?_
        refine hend <| hsub (ρ' := [(95, _), (93, _), (13, _), (12, _), (11, _), (10, _), (38, _), (9, _), (8, _), (29, _), (7, _), (6, _), (5, _), (0, _), (1, _)]) ⟨rfl, rfl, rfl, rfl, rfl, rfl, rfl, rfl, rfl, rfl, rfl, rfl, rfl, rfl, rfl, trivial⟩ <| hmemQ (X' := [_, _, _, _]) (S' := [_, _]) (fun _ m => m) <| hthen <| hseq <| hdrw [1] [(0, some 0), (2, some 1), (3, some 1), (4, some 1), (5, some 1), (6, some 1), (7, some 1), (8, some 1), (9, some 1), (10, some 1), (11, some 1), (12, some 1), (1, none), (13, some 1)] (by kernel_rfl) (by kernel_rfl) rfl 99 <| htyU (y_move rfl) <| htyU (y_move rfl) <| htyU (y_idxS1 rfl rfl Try.underlying41 sz3 hA_b30 (show ((0 : Nat) : Int) = 0 from rfl) (by omega)) <| hty (fun m => y_ld1 rfl ag3 ((m.ord 0 rfl).cell (j := 0) (ints_get (by omega)))) <| htyU (y_move rfl) <| htyU (y_idxS1 rfl rfl Try.underlying41 sz3 hA_b30 (show ((1 : Nat) : Int) = 1 from rfl) (by omega)) <| hty (fun m => y_ld1 rfl ag3 ((m.ord 0 rfl).cell (j := 1) (ints_get (by omega)))) <| htyU (y_add rfl rfl (w64 (by omega) (by omega))) <| htyU (y_move rfl) <| htyU (y_idxS1 rfl rfl Try.underlying41 sz3 hA_b30 (show ((2 : Nat) : Int) = 2 from rfl) (by omega)) <| hty (fun m => y_ld1 rfl ag3 ((m.ord 0 rfl).cell (j := 2) (ints_get (by omega)))) <| htyU (y_add rfl rfl (w64 (by omega) (by omega))) <| ?_
        refine htx (xh_call rfl Try.call19 (usedC (by omega)) [1] rfl [] rfl ?_)
        rintro _ _ _ ⟨rfl, rfl, rfl⟩
        refine ⟨(fun _ => wk [1, 0, 0, 0] [0, 1] rfl rfl), ?_⟩
        refine htyU (y_neq rfl rfl) <| htend <| hsub (ρ' := [(114, _), (95, _), (93, _), (13, _), (12, _), (11, _), (10, _), (38, _), (9, _), (8, _), (29, _), (7, _), (6, _), (5, _), (0, _), (1, _)]) ⟨rfl, rfl, rfl, rfl, rfl, rfl, rfl, rfl, rfl, rfl, rfl, rfl, rfl, rfl, rfl, rfl, trivial⟩ <| hmemQ (X' := [_, _, _, _]) (S' := [_, _]) (fun _ m => m) <| hthen <| ?_
        refine hiff rfl (decide_eq_false (by omega)) ?_
        refine hcskip <| hqblock <| hthen <| hreg <| hy (fun _ => y_move rfl) <| hy (fun _ => y_add rfl rfl (w64 (by omega) (by omega))) <| hy (fun _ => y_assign rfl) <| hend <| hsub (ρ' := [(9, _), (114, _), (95, _), (93, _), (13, _), (12, _), (11, _), (10, _), (38, _), (8, _), (29, _), (7, _), (6, _), (5, _), (0, _), (1, _)]) ⟨rfl, rfl, rfl, rfl, rfl, rfl, rfl, rfl, rfl, rfl, rfl, rfl, rfl, rfl, rfl, rfl, trivial⟩ <| ?_
        refine hnext3 (i + 1) (st.wrote [UInt8.ofNat (97 + k)] ⟨B, q, c1, bb⟩ A1 c2) (zs.set k q) ⟨rfl, rfl, rfl, rfl, rfl, rfl, rfl, rfl, trivial⟩ [0, 0] rfl [1] rfl (⟨by omega, by omega, ok1, hroom, by show DSt.power (DSt.spent st) = -1; simp [DSt.spent, hpow], hno1⟩) (by omega)
    · refine hexit <| hthen_exit <| hthen_exit <| hqblock_exit <| hthen <| hseq <| hreg <| hy (fun _ => y_move rfl) <| hy (fun _ => y_neg rfl rfl) <| ?_
      generalize hv : IntKind.i64.wrap (-z) = v
      by_cases hb : 1 ≤ v ∧ v ≤ 1048576
      · refine hx (xh_call rfl Try.call16 (newC hb.1 hb.2) [] rfl [] rfl ?_)
        rintro _ _ _ ⟨g2, gs2, gl2, rfl, rfl, rfl⟩
        refine hy (fun _ => y_move rfl) <| hy (fun _ => y_extract rfl rfl) <| hy (fun _ => y_extract rfl rfl) <| hy (fun _ => y_assign rfl) <| hy (fun _ => y_assign rfl) <| hend <| hsub (ρ' := [(15, _), (38, _), (9, _), (8, _), (29, _), (7, _), (6, _), (5, _), (0, _), (1, _)]) ⟨rfl, rfl, rfl, rfl, rfl, rfl, rfl, rfl, rfl, rfl, trivial⟩ <| hmemQ (X' := [_, _, _]) (S' := [_]) (fun _ m => m) <| hthen <| hseq <| hreg <| hy (fun _ => y_move rfl) <| hy (fun _ => y_eql rfl rfl) <| hy (fun _ => y_move rfl) <| hy (fun _ => yV (y_neg rfl rfl) ((show Value.int .i64 (IntKind.i64.wrap (-z)) = .int .i64 v by rw [hv]))) <| hy (fun _ => yT (y_geq rfl rfl) ((decide_eq_true (by omega)))) <| hy (fun _ => y_move rfl) <| hyg (o := _) rfl rfl rfl (fun _ => y_move rfl) <| hyg (o := _) rfl rfl rfl (fun _ => yV (y_neg rfl rfl) ((show Value.int .i64 (IntKind.i64.wrap (-z)) = .int .i64 v by rw [hv]))) <| hyg (o := _) rfl rfl rfl (fun _ => yT (y_leq rfl rfl) ((decide_eq_true (by omega)))) <| hy (fun _ => y_pickT rfl rfl) <| hy (fun _ => y_beq Try.underlying4 rfl rfl) <| hy (fun _ => y_move rfl) <| ?_
        refine hxg (o := _) rfl rfl rfl (xh_call rfl Try.call20 (lives12C) [] rfl [] rfl ?_)
        rintro _ _ _ ⟨rfl, rfl, rfl⟩
        refine hy (fun _ => y_pickT rfl rfl) <| hy (fun _ => y_assign rfl) <| hend <| hsub (ρ' := [(4, _), (15, _), (38, _), (9, _), (8, _), (29, _), (7, _), (6, _), (5, _), (0, _), (1, _)]) ⟨rfl, rfl, rfl, rfl, rfl, rfl, rfl, rfl, rfl, rfl, rfl, trivial⟩ <| hmemQ (X' := [_, _, _]) (S' := [_]) (fun _ m => m) <| hthen <| hret <| ?_
        exact hret1 trivial rfl rfl [] rfl [] rfl ⟨rfl, rfl, rfl⟩
      · by_cases hb2 : 1 ≤ v
        · refine hx (xh_call rfl Try.call16 (newBadC hb) [] rfl [] rfl ?_)
          rintro _ _ _ ⟨rfl, rfl, rfl⟩
          refine hy (fun _ => y_move rfl) <| hy (fun _ => y_extract rfl rfl) <| hy (fun _ => y_extract rfl rfl) <| hy (fun _ => y_assign rfl) <| hy (fun _ => y_assign rfl) <| hend <| hsub (ρ' := [(15, _), (38, _), (9, _), (8, _), (29, _), (7, _), (6, _), (5, _), (0, _), (1, _)]) ⟨rfl, rfl, rfl, rfl, rfl, rfl, rfl, rfl, rfl, rfl, trivial⟩ <| hmemQ (X' := [_, _]) (S' := [_]) (fun _ m => m) <| hthen <| hseq <| hreg <| hy (fun _ => y_move rfl) <| hy (fun _ => y_eql rfl rfl) <| hy (fun _ => y_move rfl) <| hy (fun _ => y_neg rfl rfl) <| hy (fun _ => yT (y_geq rfl rfl) ((decide_eq_true (by omega)))) <| hy (fun _ => y_move rfl) <| hyg (o := _) rfl rfl rfl (fun _ => y_move rfl) <| hyg (o := _) rfl rfl rfl (fun _ => y_neg rfl rfl) <| hyg (o := _) rfl rfl rfl (fun _ => yF (y_leq rfl rfl) ((decide_eq_false (by omega)))) <| hy (fun _ => y_pickT rfl rfl) <| hy (fun _ => y_beq Try.underlying4 rfl rfl) <| hy (fun _ => y_move rfl) <| ?_
          refine hxg (o := _) rfl rfl rfl (xh_call rfl Try.call20 (lives12C) [] rfl [] rfl ?_)
          rintro _ _ _ ⟨rfl, rfl, rfl⟩
          refine hy (fun _ => y_pickT rfl rfl) <| hy (fun _ => y_assign rfl) <| hend <| hsub (ρ' := [(4, _), (15, _), (38, _), (9, _), (8, _), (29, _), (7, _), (6, _), (5, _), (0, _), (1, _)]) ⟨rfl, rfl, rfl, rfl, rfl, rfl, rfl, rfl, rfl, rfl, rfl, trivial⟩ <| hmemQ (X' := [_, _]) (S' := [_]) (fun _ m => m) <| hthen <| hret <| ?_
          exact hret1 trivial rfl rfl [] rfl [] rfl ⟨rfl, rfl, rfl⟩
        · refine hx (xh_call rfl Try.call16 (newBadC hb) [] rfl [] rfl ?_)
          rintro _ _ _ ⟨rfl, rfl, rfl⟩
          refine hy (fun _ => y_move rfl) <| hy (fun _ => y_extract rfl rfl) <| hy (fun _ => y_extract rfl rfl) <| hy (fun _ => y_assign rfl) <| hy (fun _ => y_assign rfl) <| hend <| hsub (ρ' := [(15, _), (38, _), (9, _), (8, _), (29, _), (7, _), (6, _), (5, _), (0, _), (1, _)]) ⟨rfl, rfl, rfl, rfl, rfl, rfl, rfl, rfl, rfl, rfl, trivial⟩ <| hmemQ (X' := [_, _]) (S' := [_]) (fun _ m => m) <| hthen <| hseq <| hreg <| hy (fun _ => y_move rfl) <| hy (fun _ => y_eql rfl rfl) <| hy (fun _ => y_move rfl) <| hy (fun _ => y_neg rfl rfl) <| hy (fun _ => yF (y_geq rfl rfl) ((decide_eq_false (by omega)))) <| hy (fun _ => y_move rfl) <| hskip rfl rfl rfl (by decide) <| hskip rfl rfl rfl (by decide) <| hskip rfl rfl rfl (by decide) <| hy (fun _ => y_pickF rfl rfl) <| hy (fun _ => y_beq Try.underlying4 rfl rfl) <| hy (fun _ => y_move rfl) <| ?_
          refine hxg (o := _) rfl rfl rfl (xh_call rfl Try.call20 (lives12C) [] rfl [] rfl ?_)
          rintro _ _ _ ⟨rfl, rfl, rfl⟩
          refine hy (fun _ => y_pickT rfl rfl) <| hy (fun _ => y_assign rfl) <| hend <| hsub (ρ' := [(4, _), (15, _), (38, _), (9, _), (8, _), (29, _), (7, _), (6, _), (5, _), (0, _), (1, _)]) ⟨rfl, rfl, rfl, rfl, rfl, rfl, rfl, rfl, rfl, rfl, rfl, trivial⟩ <| hmemQ (X' := [_, _]) (S' := [_]) (fun _ m => m) <| hthen <| hret <| ?_
          exact hret1 trivial rfl rfl [] rfl [] rfl ⟨rfl, rfl, rfl⟩
  · refine hskip rfl rfl rfl (by decide) <| hskip rfl rfl rfl (by decide) <| hy (fun _ => y_pickF rfl rfl) <| hend <| hsub (ρ' := [(38, _), (9, _), (8, _), (29, _), (7, _), (6, _), (5, _), (0, _), (1, _)]) ⟨rfl, rfl, rfl, rfl, rfl, rfl, rfl, rfl, rfl, trivial⟩ <| hthen <| ?_
    refine hiff rfl (rfl) ?_
    refine hexit <| hthen_exit <| hthen_exit <| hqblock_exit <| hthen <| hseq <| hreg <| hy (fun _ => y_move rfl) <| hy (fun _ => y_neg rfl rfl) <| ?_
    generalize hv : IntKind.i64.wrap (-z) = v
    by_cases hb : 1 ≤ v ∧ v ≤ 1048576
    · refine hx (xh_call rfl Try.call16 (newC hb.1 hb.2) [] rfl [] rfl ?_)
      rintro _ _ _ ⟨g2, gs2, gl2, rfl, rfl, rfl⟩
      refine hy (fun _ => y_move rfl) <| hy (fun _ => y_extract rfl rfl) <| hy (fun _ => y_extract rfl rfl) <| hy (fun _ => y_assign rfl) <| hy (fun _ => y_assign rfl) <| hend <| hsub (ρ' := [(15, _), (38, _), (9, _), (8, _), (29, _), (7, _), (6, _), (5, _), (0, _), (1, _)]) ⟨rfl, rfl, rfl, rfl, rfl, rfl, rfl, rfl, rfl, rfl, trivial⟩ <| hmemQ (X' := [_, _, _]) (S' := [_]) (fun _ m => m) <| hthen <| hseq <| hreg <| hy (fun _ => y_move rfl) <| hy (fun _ => y_eql rfl rfl) <| hy (fun _ => y_move rfl) <| hy (fun _ => yV (y_neg rfl rfl) ((show Value.int .i64 (IntKind.i64.wrap (-z)) = .int .i64 v by rw [hv]))) <| hy (fun _ => yT (y_geq rfl rfl) ((decide_eq_true (by omega)))) <| hy (fun _ => y_move rfl) <| hyg (o := _) rfl rfl rfl (fun _ => y_move rfl) <| hyg (o := _) rfl rfl rfl (fun _ => yV (y_neg rfl rfl) ((show Value.int .i64 (IntKind.i64.wrap (-z)) = .int .i64 v by rw [hv]))) <| hyg (o := _) rfl rfl rfl (fun _ => yT (y_leq rfl rfl) ((decide_eq_true (by omega)))) <| hy (fun _ => y_pickT rfl rfl) <| hy (fun _ => y_beq Try.underlying4 rfl rfl) <| hy (fun _ => y_move rfl) <| ?_
      refine hxg (o := _) rfl rfl rfl (xh_call rfl Try.call20 (lives12C) [] rfl [] rfl ?_)
      rintro _ _ _ ⟨rfl, rfl, rfl⟩
      refine hy (fun _ => y_pickT rfl rfl) <| hy (fun _ => y_assign rfl) <| hend <| hsub (ρ' := [(4, _), (15, _), (38, _), (9, _), (8, _), (29, _), (7, _), (6, _), (5, _), (0, _), (1, _)]) ⟨rfl, rfl, rfl, rfl, rfl, rfl, rfl, rfl, rfl, rfl, rfl, trivial⟩ <| hmemQ (X' := [_, _, _]) (S' := [_]) (fun _ m => m) <| hthen <| hret <| ?_
      exact hret1 trivial rfl rfl [] rfl [] rfl ⟨rfl, rfl, rfl⟩
    · by_cases hb2 : 1 ≤ v
      · refine hx (xh_call rfl Try.call16 (newBadC hb) [] rfl [] rfl ?_)
        rintro _ _ _ ⟨rfl, rfl, rfl⟩
        refine hy (fun _ => y_move rfl) <| hy (fun _ => y_extract rfl rfl) <| hy (fun _ => y_extract rfl rfl) <| hy (fun _ => y_assign rfl) <| hy (fun _ => y_assign rfl) <| hend <| hsub (ρ' := [(15, _), (38, _), (9, _), (8, _), (29, _), (7, _), (6, _), (5, _), (0, _), (1, _)]) ⟨rfl, rfl, rfl, rfl, rfl, rfl, rfl, rfl, rfl, rfl, trivial⟩ <| hmemQ (X' := [_, _]) (S' := [_]) (fun _ m => m) <| hthen <| hseq <| hreg <| hy (fun _ => y_move rfl) <| hy (fun _ => y_eql rfl rfl) <| hy (fun _ => y_move rfl) <| hy (fun _ => y_neg rfl rfl) <| hy (fun _ => yT (y_geq rfl rfl) ((decide_eq_true (by omega)))) <| hy (fun _ => y_move rfl) <| hyg (o := _) rfl rfl rfl (fun _ => y_move rfl) <| hyg (o := _) rfl rfl rfl (fun _ => y_neg rfl rfl) <| hyg (o := _) rfl rfl rfl (fun _ => yF (y_leq rfl rfl) ((decide_eq_false (by omega)))) <| hy (fun _ => y_pickT rfl rfl) <| hy (fun _ => y_beq Try.underlying4 rfl rfl) <| hy (fun _ => y_move rfl) <| ?_
        refine hxg (o := _) rfl rfl rfl (xh_call rfl Try.call20 (lives12C) [] rfl [] rfl ?_)
        rintro _ _ _ ⟨rfl, rfl, rfl⟩
        refine hy (fun _ => y_pickT rfl rfl) <| hy (fun _ => y_assign rfl) <| hend <| hsub (ρ' := [(4, _), (15, _), (38, _), (9, _), (8, _), (29, _), (7, _), (6, _), (5, _), (0, _), (1, _)]) ⟨rfl, rfl, rfl, rfl, rfl, rfl, rfl, rfl, rfl, rfl, rfl, trivial⟩ <| hmemQ (X' := [_, _]) (S' := [_]) (fun _ m => m) <| hthen <| hret <| ?_
        exact hret1 trivial rfl rfl [] rfl [] rfl ⟨rfl, rfl, rfl⟩
      · refine hx (xh_call rfl Try.call16 (newBadC hb) [] rfl [] rfl ?_)
        rintro _ _ _ ⟨rfl, rfl, rfl⟩
        refine hy (fun _ => y_move rfl) <| hy (fun _ => y_extract rfl rfl) <| hy (fun _ => y_extract rfl rfl) <| hy (fun _ => y_assign rfl) <| hy (fun _ => y_assign rfl) <| hend <| hsub (ρ' := [(15, _), (38, _), (9, _), (8, _), (29, _), (7, _), (6, _), (5, _), (0, _), (1, _)]) ⟨rfl, rfl, rfl, rfl, rfl, rfl, rfl, rfl, rfl, rfl, trivial⟩ <| hmemQ (X' := [_, _]) (S' := [_]) (fun _ m => m) <| hthen <| hseq <| hreg <| hy (fun _ => y_move rfl) <| hy (fun _ => y_eql rfl rfl) <| hy (fun _ => y_move rfl) <| hy (fun _ => y_neg rfl rfl) <| hy (fun _ => yF (y_geq rfl rfl) ((decide_eq_false (by omega)))) <| hy (fun _ => y_move rfl) <| hskip rfl rfl rfl (by decide) <| hskip rfl rfl rfl (by decide) <| hskip rfl rfl rfl (by decide) <| hy (fun _ => y_pickF rfl rfl) <| hy (fun _ => y_beq Try.underlying4 rfl rfl) <| hy (fun _ => y_move rfl) <| ?_
        refine hxg (o := _) rfl rfl rfl (xh_call rfl Try.call20 (lives12C) [] rfl [] rfl ?_)
        rintro _ _ _ ⟨rfl, rfl, rfl⟩
        refine hy (fun _ => y_pickT rfl rfl) <| hy (fun _ => y_assign rfl) <| hend <| hsub (ρ' := [(4, _), (15, _), (38, _), (9, _), (8, _), (29, _), (7, _), (6, _), (5, _), (0, _), (1, _)]) ⟨rfl, rfl, rfl, rfl, rfl, rfl, rfl, rfl, rfl, rfl, rfl, trivial⟩ <| hmemQ (X' := [_, _]) (S' := [_]) (fun _ m => m) <| hthen <| hret <| ?_
        exact hret1 trivial rfl rfl [] rfl [] rfl ⟨rfl, rfl, rfl⟩
theorem diskRoom (z : Int) (A : Option Addr) (n c : Nat) (xs : List Cell) (W : World) (hz : -9223372036854775808 ≤ z ∧ z ≤ 9223372036854775807) (hr : (RCell (.s 6 A n c xs)).holds W) (hT : Ty Try.prog 36 [.s 6 A n c xs]) :
    Calls Try.prog 4 #[.int .i64 z, .slice A n c] W fun e w' => e = .returned (.bool true) ∧ Fr No W w' :=
  con_calls (diskRoomC hz hT) (by
    intro s hs
    obtain rfl := List.mem_singleton.1 hs
    exact hr)
end Go.Proofs.Ytpcgpnijhpcbeaa
