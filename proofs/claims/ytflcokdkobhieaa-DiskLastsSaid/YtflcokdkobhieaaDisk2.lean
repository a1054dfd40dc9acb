/- Contracts: a disk's Read, Write, Sync. -/
import Derived.Test.YtflcokdkobhieaaDisk1
set_option linter.unusedVariables false
set_option linter.unusedSimpArgs false
set_option maxRecDepth 20000
namespace Go.Proofs.Ytflcokdkobhieaa
open Go.Eng Go.Hx
theorem mem_seen {st : DSt} {p : List UInt8} {r : BRow} (h : aget st.seen p = some r) : r ∈ rowsOf st := by
  unfold rowsOf
  refine List.mem_append_left _ (List.mem_append_left _ ?_)
  exact List.mem_map.2 ⟨_, aget_mem h, rfl⟩
/-- what is read -/
def readB (st : DSt) (p : List UInt8) : List UInt8 := if foundE st p = 0 then ((aget st.seen p).map (·.l)).getD [] else []
theorem readB_no {st : DSt} {p : List UInt8} (h : foundE st p ≠ 0) : readB st p = [] := by rw [readB, if_neg h]
theorem readB_ok {st : DSt} {p : List UInt8} {r : BRow} (h : foundE st p = 0) (hr : aget st.seen p = some r) : readB st p = r.l := by rw [readB, if_pos h, hr]; rfl
theorem found_ok {st : DSt} {p : List UInt8} (h : foundE st p = 0) : ∃ r, aget st.seen p = some r := by
  unfold foundE at h
  split at h
  · omega
  · split at h
    · omega
    · rename_i h2
      cases hq : aget st.seen p with
      | none => exact absurd hq h2
      | some r => exact ⟨r, rfl⟩
def Small (st : DSt) : Prop := ∀ r ∈ rowsOf st, r.n ≤ 1000000000
theorem readC {g : Nat} {st : DSt} {p : List UInt8} (hs : Small st) : Con Try.prog 32 [.pointer (some ⟨g, 0, none⟩), .string (strOf p)] [RDisk g st] [] (fun v_ X_ S_ => ∃ v, v_ = (.tuple #[v, .int .i64 (foundE st p)]) ∧ X_ = [RDisk g st, ROwn 5 1 v (readB st p).length (b8s (readB st p))] ∧ S_ = []) := by
  refine henter (N := 20) Try.func32 rfl rfl (by simp) fun b => ?_
  refine hseq <| hreg <| hy (fun _ => y_assign rfl) <| hy (fun _ => y_assign rfl) <| hend <| hthen <| hseq <| hseq <| hreg <| hy (fun _ => y_move rfl) <| hy (fun _ => y_move rfl) <| ?_
  refine hx (xh_call rfl Try.call63 (foundC) [0] rfl [] rfl ?_)
  rintro _ _ _ ⟨rfl, rfl, rfl⟩
  refine hy (fun _ => y_assign rfl) <| hend <| hsub (ρ' := [(6, _), (5, _), (4, _), (0, _), (1, _)]) ⟨rfl, rfl, rfl, rfl, rfl, trivial⟩ <| hmemQ (X' := [_]) (S' := []) (fun _ m => m) <| hthen <| hseq <| hreg <| hy (fun _ => y_move rfl) <| hy (fun _ => y_neq rfl rfl) <| hend <| hsub (ρ' := [(11, _), (6, _), (5, _), (4, _), (0, _), (1, _)]) ⟨rfl, rfl, rfl, rfl, rfl, rfl, trivial⟩ <| hthen <| ?_
  refine hif rfl (fun h => ?_) (fun h => ?_)
  · rw [readB_no h]
    refine hseq <| hreg <| hy (fun _ => y_move rfl) <| hy (fun _ => y_assign rfl) <| hy (fun _ => y_assign rfl) <| hend <| hsub (ρ' := [(5, _), (4, _), (11, _), (6, _), (0, _), (1, _)]) ⟨rfl, rfl, rfl, rfl, rfl, rfl, trivial⟩ <| hthen <| hret <| hthen_ret <| ?_
    refine hmemQ (fun w m => m.addX (r' := ROwn 5 1 (.slice none 0 0) 0 []) (.refl _ _) (Own.nil _ _ _ _) (fun k hk => hk.elim)) ?_
    exact hret2 trivial rfl rfl rfl [1, 0] rfl [] rfl ⟨_, rfl, rfl, rfl⟩
  · have h0 := Decidable.not_not.1 h
    obtain ⟨r, hr⟩ := found_ok h0
    have hv : aget (vals st.seen) p = some r.val := by rw [vals_get, hr]; rfl
    rw [readB_ok h0 hr, h0]
    have hmem := mem_seen hr
    obtain ⟨i, hi⟩ := List.mem_iff_getElem?.1 hmem
    have hsm := hs r hmem
    refine hmemC (fun w m => (m.perm (takeR_perm [0] _ [_] _ rfl)).unpack) ?_
    refine hfactC (fun m => rdB ((View.ok (View.row hi)).1 _ (m.xres 4 rfl))) fun hrl => ?_
    have hrl := hrl.1
    refine hcskip <| hthen <| hseq <| hreg <| hy (fun _ => y_move rfl) <| hy (fun _ => y_nilp rfl) <| hy (fun _ => y_fld rfl fa91_1 (by decide)) <| hy (fun m => y_ld1 rfl ag88 (ld_blk (m.blk 0 rfl) rfl)) <| hy (fun _ => y_move rfl) <| hy (fun m => yV (y_lookM (enc := SV) rfl rfl Try.underlying88 ti44 (strKey Try.underlying9) (m.mapX 1 rfl)) ((show lookVal false (.slice none 0 0) (aget (vals st.seen) p) = .slice r.A r.n r.c by rw [hv]; rfl))) <| ?_
    refine hx (xh_calll rfl Try.call59 (cloneC (by omega)) [] rfl (.x 4 rfl (View.row hi) .nil) ?_)
    rintro _ _ _ ⟨v, rfl, rfl, rfl⟩
    refine ⟨rfl, ?_⟩
    refine hfactL (fun m => (m.own 0 rfl).slice) ?_
    rintro ⟨A_x, c_x, rfl, hc_x⟩
    refine hfactL (fun m => (m.ord 0 rfl).2.1) fun hA_x => ?_
    refine hy (fun _ => y_assign rfl) <| hy (fun _ => y_assign rfl) <| hend <| hsub (ρ' := [(5, _), (4, _), (11, _), (6, _), (0, _), (1, _)]) ⟨rfl, rfl, rfl, rfl, rfl, rfl, trivial⟩ <| hmemQ (X' := [_, _, _, _, _, _]) (S' := []) (fun _ m => m) <| hthen <| hret <| ?_
    refine hmemQ (X' := RDisk g st :: _) (fun w m => (m.perm (takeR_perm [1, 1, 1, 1, 1] _ [_, _, _, _, _] _ rfl)).pack) ?_
    exact hret2 trivial rfl rfl rfl [0, 0] rfl [] rfl ⟨_, rfl, (by rw [hrl]), rfl⟩
theorem wmakeC {g : Nat} {l : List (List UInt8 × Value)} {p : List UInt8} {r : BRow} : Con Try.prog 48 [.agg [SV p, r.val].toArray, .map (some g)] [RMap SV g l] [] (fun v_ X_ S_ => v_ = (.tuple #[]) ∧ X_ = [RMap SV g (aput l p r.val)] ∧ S_ = []) := by
  refine henter (N := 9) Try.func48 rfl rfl (by simp) fun b => ?_
  refine hseq <| hreg <| ?_
  refine hx (xh_box rfl (fun g2 => ?_))
  refine hend <| hmemQ (X' := [_, _]) (S' := []) (fun _ m => m) <| hthen <| hreg <| hy (fun _ => y_move rfl) <| hy (fun _ => y_fld rfl fa95_0 (by decide)) <| hy (fun m => y_ld1 rfl ag9 (ld_blk (m.blk 0 rfl) rfl)) <| hy (fun _ => y_fld rfl fa95_1 (by decide)) <| hy (fun m => y_ld1 rfl ag44 (ld_blk (m.blk 0 rfl) rfl)) <| ?_
  refine hx0 (xh_mapup (enc := SV) 1 rfl rfl rfl rfl Try.underlying88 (strKey Try.underlying9) ?_)
  refine hend <| hsub (ρ' := [(2, _), (0, _), (1, _)]) ⟨rfl, rfl, rfl, trivial⟩ <| hmemQ (X' := [_, _]) (S' := []) (fun _ m => m) <| ?_
  exact hret0 trivial rfl [0] rfl [] rfl ⟨rfl, rfl, rfl⟩
theorem aput_vals {l : Files} {p : List UInt8} {r x : BRow} (h : x ∈ (aput l p r).map (·.2)) : x ∈ l.map (·.2) ∨ x = r := by
  induction l with
  | nil => simp only [aput, List.map_cons, List.map_nil, List.mem_singleton] at h; exact .inr h
  | cons a q ih =>
    obtain ⟨k, u⟩ := a
    simp only [aput] at h
    split at h
    · simp only [List.map_cons, List.mem_cons] at h ⊢
      rcases h with rfl | h
      · exact .inr rfl
      · exact .inl (.inr h)
    · simp only [List.map_cons, List.mem_cons] at h ⊢
      rcases h with rfl | h
      · exact .inl (.inl rfl)
      · rcases ih h with h | h
        · exact .inl (.inr h)
        · exact .inr h
/-- behind a change: a file that is written -/
def DSt.wrote (st : DSt) (p : List UInt8) (r : BRow) (A : Option Addr) (c : Nat) : DSt := { st.spent with seen := aput st.seen p r, waits := st.waits ++ [.written p r], wA := A, wc := c }
theorem rows_wrote {st : DSt} {p : List UInt8} {r : BRow} {A : Option Addr} {c : Nat} : ∀ x ∈ rowsOf (st.wrote p r A c), x ∈ rowsOf st ∨ x = r := by
  intro x hx
  unfold rowsOf DSt.wrote at hx
  simp only [DSt.spent, List.mem_append, List.filterMap_append] at hx
  unfold rowsOf
  simp only [List.mem_append]
  rcases hx with (h | h) | h | h
  · rcases aput_vals h with h | h
    · exact .inl (.inl (.inl h))
    · exact .inr h
  · exact .inl (.inl (.inr h))
  · exact .inl (.inr h)
  · simp [Chg.row] at h
    exact .inr h
theorem rows_spent (st : DSt) : rowsOf st.spent = rowsOf st := rfl
theorem doWC {g : Nat} {st : DSt} {p : List UInt8} {r : BRow} {e : TypeId} (hp : st.power ≤ 1000000000000) (hw : st.waits.length ≤ 1000000) : Con Try.prog 58 [.pointer (some ⟨g, 0, none⟩), (Chg.written p r).val] [RDisk g st, ROwn e 1 (.slice r.A r.n r.c) r.n (b8s r.l)] [] (fun v_ X_ S_ => ∃ A c, v_ = (.tuple #[]) ∧ X_ = [RDisk g (st.wrote p r A c)] ∧ S_ = []) := by
  have hsw : st.spent.waits.length = st.waits.length := rfl
  refine henter (N := 25) Try.func58 rfl rfl (by simp) fun b => ?_
  refine hseq <| hreg <| hy (fun _ => y_move rfl) <| ?_
  refine hx (xh_call rfl Try.call70 (spendC (by omega)) [0] rfl [] rfl ?_)
  rintro _ _ _ ⟨rfl, rfl, rfl⟩
  refine hmemL (fun w m => (m.perm (takeR_perm [0] _ [_] _ rfl)).unpack) ?_
  refine hend <| hsub (ρ' := [(0, _), (1, _)]) ⟨rfl, rfl, trivial⟩ <| hmemQ (X' := [_, _, _, _, _, _]) (S' := []) (fun _ m => m) <| hthen <| hseq <| hdrw [8] [(0, some 0), (1, some 0), (2, some 0), (3, some 0), (4, some 0), (5, some 0), (6, some 0), (7, some 0), (8, none)] (by kernel_rfl) (by kernel_rfl) rfl 0 <| htyU (y_move rfl) <| htyU (y_move rfl) <| htyU (y_nilp rfl) <| htyU (y_fld rfl fa91_1 (by decide)) <| hty (fun m => y_ld1 rfl ag88 (ld_blk (m.blk 0 rfl) rfl)) <| htyU (y_mkf rfl rfl) <| htyU (y_nilm rfl (by kernel_rfl)) <| htyU (y_move rfl) <| ?_
  refine htx (xh_inv rfl rfl (fun w => by kernel_rfl) Try.call48 (wmakeC) [1] rfl [] rfl ?_)
  rintro _ _ _ ⟨rfl, rfl, rfl⟩
  refine ⟨(fun h => absurd h (by decide)), ?_⟩
  refine htend <| hsub (ρ' := [(0, _), (1, _)]) ⟨rfl, rfl, trivial⟩ <| hmemQ (X' := [_, _, _, _, _, _]) (S' := []) (fun _ m => m) <| hthen <| hreg <| hy (fun _ => y_move rfl) <| hy (fun _ => y_move rfl) <| hy (fun _ => y_nilp rfl) <| hy (fun _ => y_fld rfl fa91_3 (by decide)) <| hy (fun m => y_ld1 rfl ag89 (ld_blk (m.blk 1 rfl) rfl)) <| hy (fun _ => y_move rfl) <| ?_
  refine hx (xh_bsl Try.underlying89 ti93 rfl rfl rfl (by simp [Value.cells, Chg.val]) (by decide) (by decide) (fun g21 => ?_))
  have hA_b21 : 0 < 1 → (some (⟨g21, 0, none⟩ : Addr)) ≠ none := fun _ h => by cases h
  refine hmemL (fun w m => m.eqX 0 rfl (show _ = ROwn 93 1 (.slice (some ⟨g21, 0, none⟩) 1 1) 1 [(Chg.written p r).val] from rfl)) ?_
  refine hx (xh_app 4 rfl rfl rfl Try.underlying89 Try.underlying89 (by exact .inl rfl) ti93 rfl (fun m => Src.of_rd (m.ord 0 rfl)) (by simp [Chg.val, Value.oneCell']) (by unfold maxLen; omega) (by omega) (fun u => ?_))
  refine hfactL (fun m => (m.own 0 rfl).slice) ?_
  rintro ⟨A_d3, c_d3, rfl, hc_d3⟩
  refine hfactL (fun m => (m.ord 0 rfl).2.1) fun hA_d3 => ?_
  refine hy (fun _ => y_nilp rfl) <| hy (fun _ => y_fld rfl fa91_3 (by decide)) <| ?_
  refine hx0 (xh_st1a 3 rfl rfl rfl sz89 rfl (by first | exact Nat.le_of_ble_eq_true rfl | simp) ?_)
  refine hend <| hsub (ρ' := [(0, _), (1, _)]) ⟨rfl, rfl, trivial⟩ <| hmemQ (X' := [_, _, _, _, _, _, _]) (S' := []) (fun _ m => m) <| ?_
  refine hmemQ (fun w m => m.eqX 0 rfl (show _ = RBlk g 91 (dcells (st.wrote p r A_d3 c_d3)) from by simp [dcells, DSt.wrote, DSt.spent])) ?_
  refine hmemQ (fun w m => m.eqX 3 rfl (show _ = RMap SV st.gs (vals (st.wrote p r A_d3 c_d3).seen) from congrArg (RMap SV st.gs) (vals_put _ _ _))) ?_
  refine hmemQ (fun w m => m.eqX 2 rfl (show _ = ROwn 93 1 (.slice A_d3 (st.wrote p r A_d3 c_d3).waits.length c_d3) (st.wrote p r A_d3 c_d3).waits.length ((st.wrote p r A_d3 c_d3).waits.map Chg.val) from by simp [DSt.wrote, DSt.spent])) ?_
  refine hmemQ (X' := RRows (rowsOf (st.wrote p r A_d3 c_d3)) :: _) (fun w m => (m.perm (takeR_perm [5, 5] _ [_, _] _ rfl)).rowAdd (rows_wrote)) ?_
  refine hmemQ (X' := RDisk g (st.wrote p r A_d3 c_d3) :: _) (fun w m => (m.perm (takeR_perm [3, 2, 3, 1, 0] _ [_, _, _, _, _] _ rfl)).pack) ?_
  exact hret0 trivial rfl [0] rfl [] rfl ⟨_, _, rfl, rfl, rfl⟩
/-- what is told of a Write -/
def writeE (st : DSt) (p : List UInt8) (n : Nat) : Int := if ¬ Named p then 1 else if st.power = 0 then 6 else if st.room < (tot st.seen : Int) - (((aget st.seen p).map (·.n)).getD 0 : Nat) + n then 5 else 0
theorem tot_le : ∀ {l : Files} {m : Nat}, (∀ x ∈ l, x.2.n ≤ m) → tot l ≤ l.length * m
  | [], m, h => by simp [tot]
  | a :: q, m, h => by
    have := tot_le (l := q) (m := m) (fun x hx => h x (List.mem_cons_of_mem _ hx))
    have h1 := h a (List.mem_cons_self ..)
    simp only [tot, List.map_cons, List.sum_cons, List.length_cons, Nat.add_mul] at this ⊢
    omega
/-- what a disk is, in numbers -/
structure DOk (st : DSt) (k : Nat) : Prop where
  power : st.power ≤ 1000000000000
  room : st.room ≤ 1048576
  seen : st.seen.length ≤ k
  rest : st.lasts.length + st.waits.length ≤ k
  small : ∀ r ∈ rowsOf st, r.n ≤ 1048576
theorem DOk.le {st : DSt} {k k' : Nat} (h : DOk st k) (hk : k ≤ k') : DOk st k' := ⟨h.power, h.room, Nat.le_trans h.seen hk, Nat.le_trans h.rest hk, h.small⟩
theorem DOk.tot {st : DSt} {k : Nat} (h : DOk st k) : tot st.seen ≤ k * 1048576 := Nat.le_trans (tot_le (m := 1048576) (fun x hx => h.small _ (by unfold rowsOf; exact List.mem_append_left _ (List.mem_append_left _ (List.mem_map.2 ⟨x, hx, rfl⟩))))) (Nat.mul_le_mul_right _ h.seen)
theorem DOk.sm {st : DSt} {k : Nat} (h : DOk st k) : Small st := fun r hr => Nat.le_trans (h.small r hr) (by decide)
theorem DOk.init {n : Int} {gs gl : Nat} (h : n ≤ 1048576) : DOk (dinit n gs gl) 0 := ⟨by simp [dinit], h, Nat.le_refl _, Nat.le_refl _, fun r hr => by simp [rowsOf, dinit] at hr⟩
theorem aput_len (l : Files) (p : List UInt8) (r : BRow) : (aput l p r).length ≤ l.length + 1 := by
  induction l with
  | nil => simp [aput]
  | cons a q ih =>
    obtain ⟨k, u⟩ := a
    simp only [aput]
    split <;> simp only [List.length_cons] <;> omega
theorem adel_len (l : Files) (p : List UInt8) : (adel l p).length ≤ l.length := by
  induction l with
  | nil => simp [adel]
  | cons a q ih =>
    obtain ⟨k, u⟩ := a
    simp only [adel]
    split <;> simp only [List.length_cons] <;> omega
theorem spent_power {st : DSt} (h : st.power ≤ 1000000000000) : st.spent.power ≤ 1000000000000 := by
  simp only [DSt.spent]
  split <;> omega
theorem DOk.wrote {st : DSt} {k : Nat} (h : DOk st k) {p : List UInt8} {r : BRow} (hr : r.n ≤ 1048576) (A : Option Addr) (c : Nat) : DOk (st.wrote p r A c) (k + 1) := by
  refine ⟨spent_power h.power, h.room, ?_, ?_, fun x hx => ?_⟩
  · have := aput_len st.seen p r
    have := h.seen
    show (aput st.seen p r).length ≤ k + 1
    omega
  · have := h.rest
    show st.lasts.length + (st.waits ++ [Chg.written p r]).length ≤ k + 1
    simp only [List.length_append, List.length_cons, List.length_nil]
    omega
  · rcases rows_wrote x hx with h' | rfl
    · exact h.small x h'
    · exact hr
theorem writeC {g : Nat} {st : DSt} {p : List UInt8} {A : Option Addr} {n c : Nat} {l : List UInt8} {k : Nat} (ok : DOk st k) (hk : k ≤ 100000) (hn : n ≤ 1048576) : Con Try.prog 25 [.pointer (some ⟨g, 0, none⟩), .string (strOf p), .slice A n c] [RDisk g st] [RRd 1 A n (b8s l)] (fun v_ X_ S_ => ∃ st1 B c1 A1 c2, v_ = (.int .i64 (writeE st p n)) ∧ X_ = [RDisk g st1] ∧ S_ = [] ∧ ((writeE st p n ≠ 0 ∧ st1 = st) ∨ (writeE st p n = 0 ∧ st1 = st.wrote p ⟨B, n, c1, l⟩ A1 c2))) := by
  have hp := ok.power
  have hw : st.waits.length ≤ 1000000 := by have := ok.rest; omega
  have ht : tot st.seen ≤ 1000000000000 := by have := ok.tot; omega
  have hs := ok.sm
  refine henter (N := 41) Try.func25 rfl rfl (by simp) fun b => ?_
  refine hfactC (fun m => rdB (m.rd 0 rfl)) ?_
  rintro ⟨hl_r, hA_r⟩
  refine hseq <| hreg <| hy (fun _ => y_assign rfl) <| hend <| hthen <| hseq <| hblock <| hseq <| hreg <| hy (fun _ => y_move rfl) <| ?_
  refine hx (xh_call rfl Try.call57 (namedC) [] rfl [] rfl ?_)
  rintro _ _ _ ⟨rfl, rfl, rfl⟩
  refine hy (fun _ => y_notp rfl) <| hy (fun _ => y_assign rfl) <| hend <| hsub (ρ' := [(7, _), (6, _), (0, _), (1, _), (2, _)]) ⟨rfl, rfl, rfl, rfl, rfl, trivial⟩ <| hmemQ (X' := [_]) (S' := [_]) (fun _ m => m) <| hthen <| ?_
  refine hif rfl (fun h1 => ?_) (fun h1 => ?_)
  · have e : writeE st p n = 1 := by rw [writeE, if_pos h1]
    rw [e]
    refine hseq <| hreg <| hy (fun _ => y_assign rfl) <| hend <| hthen <| hret <| hqblock_ret <| hthen_ret <| ?_
    exact hret1 trivial rfl rfl [0] rfl [] rfl ⟨_, none, 0, none, 0, rfl, rfl, rfl, .inl ⟨by decide, rfl⟩⟩
  · refine hseq <| hreg <| hy (fun _ => y_move rfl) <| ?_
    refine hx (xh_call rfl Try.call31 (upC) [0] rfl [] rfl ?_)
    rintro _ _ _ ⟨rfl, rfl, rfl⟩
    refine hy (fun _ => y_notp rfl) <| hy (fun _ => y_assign rfl) <| hend <| hsub (ρ' := [(11, _), (7, _), (6, _), (0, _), (1, _), (2, _)]) ⟨rfl, rfl, rfl, rfl, rfl, rfl, trivial⟩ <| hmemQ (X' := [_]) (S' := [_]) (fun _ m => m) <| hthen <| ?_
    refine hif rfl (fun h2 => ?_) (fun h2 => ?_)
    · have e : writeE st p n = 6 := by rw [writeE, if_neg h1, if_pos (by omega)]
      rw [e]
      refine hseq <| hreg <| hy (fun _ => y_assign rfl) <| hend <| hthen <| hret <| hqblock_ret <| hthen_ret <| ?_
      exact hret1 trivial rfl rfl [0] rfl [] rfl ⟨_, none, 0, none, 0, rfl, rfl, rfl, .inl ⟨by decide, rfl⟩⟩
    · have hwe : writeE st p n = if st.room < (tot st.seen : Int) - (((aget st.seen p).map (·.n)).getD 0 : Nat) + n then 5 else 0 := by rw [writeE, if_neg h1, if_neg (by omega)]
      have hv : ∃ B m c0, lookVal false (.slice none 0 0) (aget (vals st.seen) p) = .slice B m c0 ∧ m = ((aget st.seen p).map (·.n)).getD 0 ∧ m ≤ 1000000000 := by
        rw [vals_get]
        cases hq : aget st.seen p with
        | none => exact ⟨none, 0, 0, rfl, rfl, by decide⟩
        | some r => exact ⟨r.A, r.n, r.c, rfl, rfl, hs r (mem_seen hq)⟩
      obtain ⟨B, m, c0, hv1, hv2, hv3⟩ := hv
      rw [← hv2] at hwe
      refine hseq <| hdrw [1] [(0, some 0), (2, some 1), (3, some 1), (4, some 1), (5, some 1), (6, some 1), (7, some 1), (8, some 1), (10, some 1), (11, some 1), (13, some 1), (14, some 1), (15, some 1), (16, some 1), (1, none), (9, some 1), (12, some 1), (17, some 1), (18, some 1)] (by kernel_rfl) (by kernel_rfl) rfl 99 <| htyU (y_move rfl) <| htyU (y_move rfl) <| htyU (y_nilp rfl) <| htyU (y_fld rfl fa91_1 (by decide)) <| hty (fun m => y_ld1 rfl ag88 (ld_blk (show Blk _ _ _ _ from m.inP 0 rfl 0 rfl) rfl)) <| htyU (y_move rfl) <| hty (fun m => yV (y_lookM (enc := SV) rfl rfl Try.underlying88 ti44 (strKey Try.underlying9) (show MapAt _ _ _ _ from m.inP 0 rfl 1 rfl)) (hv1)) <| htyU (y_lenS rfl Try.underlying44) <| htyU (y_move rfl) <| htyU (y_lenS rfl Try.underlying44) <| htyU (y_move rfl) <| htyU (y_nilp rfl) <| htyU (y_fld rfl fa91_0 (by decide)) <| hty (fun m => y_ld1 rfl ag3 (ld_blk (show Blk _ _ _ _ from m.inP 0 rfl 0 rfl) rfl)) <| ?_
      refine htx (xh_call rfl Try.call37 (usedC (by omega)) [0] rfl [] rfl ?_)
      rintro _ _ _ ⟨rfl, rfl, rfl⟩
      refine ⟨(fun _ => wk [0] [0] rfl rfl), ?_⟩
      refine htyU (y_sub rfl rfl (w64 (by omega) (by omega))) <| htyU (y_add rfl rfl (w64 (by omega) (by omega))) <| htyU (y_gtr rfl rfl) <| htyU (y_assign rfl) <| htend <| hsub (ρ' := [(15, _), (11, _), (7, _), (6, _), (0, _), (1, _), (2, _)]) ⟨rfl, rfl, rfl, rfl, rfl, rfl, rfl, trivial⟩ <| hmemQ (X' := [_]) (S' := [_]) (fun _ m => m) <| hthen <| ?_
      refine hif rfl (fun h3 => ?_) (fun h3 => ?_)
      · rw [if_pos (by omega)] at hwe
        rw [hwe]
        refine hseq <| hreg <| hy (fun _ => y_assign rfl) <| hend <| hthen <| hret <| hqblock_ret <| hthen_ret <| ?_
        exact hret1 trivial rfl rfl [0] rfl [] rfl ⟨_, none, 0, none, 0, rfl, rfl, rfl, .inl ⟨by decide, rfl⟩⟩
      · rw [if_neg (by omega)] at hwe
        rw [hwe]
        refine hcskip <| hqblock <| hthen <| hseq <| hreg <| hy (fun _ => y_move rfl) <| hy (fun _ => y_move rfl) <| hy (fun _ => y_move rfl) <| ?_
        refine hx (xh_call rfl Try.call59 (cloneC (by omega)) [] rfl [0] rfl ?_)
        rintro _ _ _ ⟨v, rfl, rfl, rfl⟩
        refine hfactL (fun m => (m.own 0 rfl).slice) ?_
        rintro ⟨A_x, c_x, rfl, hc_x⟩
        refine hfactL (fun m => (m.ord 0 rfl).2.1) fun hA_x => ?_
        refine hy (fun _ => yV (y_build ti95 rfl rfl (by kernel_rfl) (.cons (o := 0) (sz := 1) (by kernel_rfl) rfl rfl (Nat.le_of_ble_eq_true rfl) (.cons (o := 1) (sz := 1) (by kernel_rfl) rfl rfl (Nat.le_of_ble_eq_true rfl) .nil))) ((rfl : _ = Value.agg [SV p, Value.slice A_x n c_x].toArray))) <| hy (fun _ => y_mki rfl Try.underlying95 (fun _ h => by cases h)) <| ?_
        refine hx (xh_call rfl Try.call58 (doWC (by omega) (by omega) (r := ⟨A_x, n, c_x, l⟩)) [1, 0] rfl [] rfl ?_)
        rintro _ _ _ ⟨A2, c2, rfl, rfl, rfl⟩
        refine hend <| hsub (ρ' := [(15, _), (11, _), (7, _), (6, _), (0, _), (1, _), (2, _)]) ⟨rfl, rfl, rfl, rfl, rfl, rfl, rfl, trivial⟩ <| hmemQ (X' := [_]) (S' := [_]) (fun _ m => m) <| hthen <| hseq <| hreg <| hy (fun _ => y_assign rfl) <| hend <| hthen <| hret <| ?_
        exact hret1 trivial rfl rfl [0] rfl [] rfl ⟨_, _, _, _, _, rfl, rfl, rfl, .inr ⟨rfl, rfl⟩⟩
theorem mcloneC {g : Nat} {l : List (List UInt8 × Value)} : Con Try.prog 49 [.map (some g)] [RMap SV g l] [] (fun v_ X_ S_ => ∃ g1, v_ = (.map (some g1)) ∧ X_ = [RMap SV g l, RMap SV g1 l] ∧ S_ = []) := by
  refine henter (N := 9) Try.func49 rfl rfl (by simp) fun b => ?_
  refine hseq <| hreg <| hy (fun _ => y_assign rfl) <| hend <| hthen <| hseq <| hseq <| hreg <| hy (fun _ => y_move rfl) <| hy (fun _ => y_eqMn rfl rfl Try.underlying88) <| hend <| hsub (ρ' := [(4, _), (2, _), (0, _)]) ⟨rfl, rfl, rfl, trivial⟩ <| hthen <| ?_
  refine hiff rfl (rfl) ?_
  refine hcskip <| hthen <| hseq <| hreg <| hy (fun _ => y_move rfl) <| hy (fun _ => y_mki rfl Try.underlying88 (fun _ h => by cases h)) <| ?_
  refine hx (xh_mclone 0 rfl rfl Try.func78 (by kernel_rfl) (by kernel_rfl) (by kernel_rfl) (by kernel_rfl) (fun g1 => ?_))
  refine hy (fun _ => y_tas rfl (show _ = Result.ok (Value.map (some g1)) _ by kernel_rfl)) <| hy (fun _ => y_assign rfl) <| hend <| hsub (ρ' := [(2, _), (4, _), (0, _)]) ⟨rfl, rfl, rfl, trivial⟩ <| hmemQ (X' := [_, _]) (S' := []) (fun _ m => m) <| hthen <| hret <| ?_
  exact hret1 trivial rfl rfl [1, 0] rfl [] rfl ⟨_, rfl, rfl, rfl⟩
/-- behind a Sync -/
def DSt.synced (st : DSt) (gl : Nat) : DSt := { st.spent with gl := gl, lasts := st.seen, waits := [], wA := none, wc := 0 }
def syncE (st : DSt) : Int := if st.power = 0 then 6 else 0
theorem rows_synced {st : DSt} {gl : Nat} : ∀ x ∈ rowsOf (st.synced gl), x ∈ rowsOf st := by
  intro x hx
  unfold rowsOf DSt.synced at hx
  simp only [DSt.spent, List.filterMap_nil, List.append_nil, List.mem_append, or_self] at hx
  unfold rowsOf
  exact List.mem_append_left _ (List.mem_append_left _ hx)
theorem DOk.synced {st : DSt} {k : Nat} (h : DOk st k) (gl : Nat) : DOk (st.synced gl) k :=
  ⟨spent_power h.power, h.room, h.seen, by show st.seen.length + 0 ≤ k; have := h.seen; omega, fun x hx => h.small x (rows_synced x hx)⟩
theorem syncC {g : Nat} {st : DSt} {k : Nat} (ok : DOk st k) : Con Try.prog 36 [.pointer (some ⟨g, 0, none⟩)] [RDisk g st] [] (fun v_ X_ S_ => ∃ st1 gl, v_ = (.int .i64 (syncE st)) ∧ X_ = [RDisk g st1] ∧ S_ = [] ∧ ((st.power = 0 ∧ st1 = st) ∨ (st.power ≠ 0 ∧ st1 = st.synced gl))) := by
  refine henter (N := 19) Try.func36 rfl rfl (by simp) fun b => ?_
  refine hseq <| hreg <| hy (fun _ => y_assign rfl) <| hend <| hthen <| hseq <| hseq <| hreg <| hy (fun _ => y_move rfl) <| ?_
  refine hx (xh_call rfl Try.call31 (upC) [0] rfl [] rfl ?_)
  rintro _ _ _ ⟨rfl, rfl, rfl⟩
  refine hy (fun _ => y_notp rfl) <| hend <| hsub (ρ' := [(5, _), (2, _), (0, _)]) ⟨rfl, rfl, rfl, trivial⟩ <| hmemQ (X' := [_]) (S' := []) (fun _ m => m) <| hthen <| ?_
  refine hif rfl (fun h1 => ?_) (fun h1 => ?_)
  · have h0 : st.power = 0 := Decidable.not_not.1 h1
    have e : syncE st = 6 := by rw [syncE, if_pos h0]
    rw [e]
    refine hseq <| hreg <| hy (fun _ => y_assign rfl) <| hend <| hthen <| hret <| hthen_ret <| ?_
    exact hret1 trivial rfl rfl [0] rfl [] rfl ⟨_, 0, rfl, rfl, rfl, .inl ⟨h0, rfl⟩⟩
  · have h0 : st.power ≠ 0 := fun e => h1 (fun h => h e)
    have e : syncE st = 0 := by rw [syncE, if_neg h0]
    rw [e]
    have hp := ok.power
    refine hcskip <| hthen <| hseq <| hreg <| hy (fun _ => y_move rfl) <| ?_
    refine hx (xh_call rfl Try.call70 (spendC (by omega)) [0] rfl [] rfl ?_)
    rintro _ _ _ ⟨rfl, rfl, rfl⟩
    refine hmemL (fun w m => (m.perm (takeR_perm [0] _ [_] _ rfl)).unpack) ?_
    refine hend <| hsub (ρ' := [(5, _), (2, _), (0, _)]) ⟨rfl, rfl, rfl, trivial⟩ <| hmemQ (X' := [_, _, _, _, _]) (S' := []) (fun _ m => m) <| hthen <| hseq <| hreg <| hy (fun _ => y_move rfl) <| hy (fun _ => y_move rfl) <| hy (fun _ => y_move rfl) <| hy (fun _ => y_nilp rfl) <| hy (fun _ => y_fld rfl fa91_1 (by decide)) <| hy (fun m => y_ld1 rfl ag88 (ld_blk (m.blk 0 rfl) rfl)) <| ?_
    refine hx (xh_call rfl Try.call49 (mcloneC) [1] rfl [] rfl ?_)
    rintro _ _ _ ⟨g1, rfl, rfl, rfl⟩
    refine hy (fun _ => y_nilp rfl) <| hy (fun _ => y_fld rfl fa91_2 (by decide)) <| ?_
    refine hx0 (xh_st1a 2 rfl rfl rfl sz88 rfl (by first | exact Nat.le_of_ble_eq_true rfl | simp) ?_)
    refine hy (fun _ => y_nilp rfl) <| hy (fun _ => y_fld rfl fa91_3 (by decide)) <| ?_
    refine hx0 (xh_st1a 0 rfl rfl rfl sz89 rfl (by first | exact Nat.le_of_ble_eq_true rfl | simp) ?_)
    refine hend <| hsub (ρ' := [(5, _), (2, _), (0, _)]) ⟨rfl, rfl, rfl, trivial⟩ <| hmemQ (X' := [_, _, _, _, _, _]) (S' := []) (fun _ m => m) <| hthen <| hseq <| hreg <| hy (fun _ => y_assign rfl) <| hend <| hthen <| hret <| ?_
    refine hmemQ (fun w m => m.addX (r' := ROwn 93 1 (.slice none 0 0) 0 []) (.refl _ _) (Own.nil _ _ _ _) (fun k hk => hk.elim)) ?_
    refine hmemQ (fun w m => Mem.dropX' (X := [_]) (m.perm (takeR_perm [4] _ [_] _ rfl))) ?_
    refine hmemQ (fun w m => Mem.dropX' (X := [_]) (m.perm (takeR_perm [4] _ [_] _ rfl))) ?_
    refine hmemQ (fun w m => m.eqX 1 rfl (show _ = RBlk g 91 (dcells (st.synced g1)) from rfl)) ?_
    refine hmemQ (X' := RRows (rowsOf (st.synced g1)) :: _) (fun w m => (m.perm (takeR_perm [4] _ [_] _ rfl)).rowSub (rows_synced)) ?_
    refine hmemQ (X' := RDisk g (st.synced g1) :: _) (fun w m => (m.perm (takeR_perm [1, 2, 2, 1, 0] _ [_, _, _, _, _] _ rfl)).pack) ?_
    exact hret1 trivial rfl rfl [0] rfl [] rfl ⟨_, _, rfl, rfl, rfl, .inr ⟨h0, rfl⟩⟩
end Go.Proofs.Ytflcokdkobhieaa
