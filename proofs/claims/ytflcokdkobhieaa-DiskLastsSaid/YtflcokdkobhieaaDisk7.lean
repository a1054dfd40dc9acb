/- Contracts: a disk's changes of every kind: Rename, Remove, Restart. -/
import Derived.Test.YtflcokdkobhieaaDisk6
set_option linter.unusedVariables false
set_option linter.unusedSimpArgs false
set_option maxRecDepth 20000
namespace Go.Proofs.Ytflcokdkobhieaa
open Go.Eng Go.Hx
/-- files behind a change -/
def apl (l : Files) : Chg → Files
  | .written p r => aput l p r
  | .renamed a c => match aget l a with
    | none => l
    | some r => aput (adel l a) c r
  | .removed p => adel l p
theorem nmakeC {g : Nat} {l : Files} {a c : List UInt8} : Con Try.prog 145 [.agg [SV a, SV c].toArray, .map (some g)] [RMap SV g (vals l)] [] (fun v_ X_ S_ => v_ = (.tuple #[]) ∧ X_ = [RMap SV g (vals (apl l (.renamed a c)))] ∧ S_ = []) := by
  refine henter (N := 21) Try.func145 rfl rfl (by simp) fun b => ?_
  refine hseq <| hreg <| ?_
  refine hx (xh_box rfl (fun g2 => ?_))
  refine hmemL (fun w m => m.eqX 0 rfl (show _ = RBlk g2 132 [SV a, SV c] from congrArg (RBlk _ _) (cells_agg _))) ?_
  rcases aget_split (l := l) a with ⟨h1, h2⟩ | ⟨r, h1, h2⟩
  · refine hend <| hmemQ (X' := [_, _]) (S' := []) (fun _ m => m) <| hthen <| hseq <| hreg <| hy (fun _ => y_move rfl) <| hy (fun _ => y_fld rfl fa132_0 (by decide)) <| hy (fun m => y_ld1 rfl ag9 (ld_blk (m.blk 0 rfl) (i := 0) rfl)) <| hy (fun m => yV (y_lookM (enc := SV) rfl rfl Try.underlying88 ti44 (strKey Try.underlying9) (m.mapX 1 rfl)) ((show lookVal true (.slice none 0 0) (aget (vals l) a) = .tuple #[.slice none 0 0, .bool false] by rw [h2]; rfl))) <| hy (fun _ => y_move rfl) <| hy (fun _ => y_extract rfl rfl) <| hy (fun _ => y_extract rfl rfl) <| hy (fun _ => y_assign rfl) <| hy (fun _ => y_assign rfl) <| hend <| hsub (ρ' := [(5, _), (4, _), (2, _), (0, _), (1, _)]) ⟨rfl, rfl, rfl, rfl, rfl, trivial⟩ <| hthen <| hseq <| hreg <| hy (fun _ => y_move rfl) <| hend <| hthen <| ?_
    refine hiff rfl (rfl) ?_
    refine hcskip <| ?_
    have e : apl l (.renamed a c) = l := by rw [apl, h1]
    rw [e]
    exact hret0 trivial rfl [1] rfl [] rfl ⟨rfl, rfl, rfl⟩
  · refine hend <| hthen <| hseq <| hreg <| hy (fun _ => y_move rfl) <| hy (fun _ => y_fld rfl fa132_0 (by decide)) <| hy (fun m => y_ld1 rfl ag9 (ld_blk (m.blk 0 rfl) rfl)) <| hy (fun m => yV (y_lookM (enc := SV) rfl rfl Try.underlying88 ti44 (strKey Try.underlying9) (m.mapX 1 rfl)) ((show lookVal true (.slice none 0 0) (aget (vals l) a) = .tuple #[r.val, .bool true] by rw [h2]; rfl))) <| hy (fun _ => y_move rfl) <| hy (fun _ => y_extract rfl rfl) <| hy (fun _ => y_extract rfl rfl) <| hy (fun _ => y_assign rfl) <| hy (fun _ => y_assign rfl) <| hend <| hsub (ρ' := [(5, _), (4, _), (2, _), (0, _), (1, _)]) ⟨rfl, rfl, rfl, rfl, rfl, trivial⟩ <| hthen <| hseq <| hreg <| hy (fun _ => y_move rfl) <| hend <| hthen <| ?_
    refine hift rfl (rfl) ?_
    refine hseq <| hreg <| hy (fun _ => y_move rfl) <| hy (fun _ => y_fld rfl fa132_0 (by decide)) <| hy (fun m => y_ld1 rfl ag9 (ld_blk (m.blk 0 rfl) (i := 0) rfl)) <| ?_
    refine hx0 (xh_mapdel (enc := SV) 1 rfl rfl rfl Try.underlying88 (strKey Try.underlying9) ?_)
    refine hend <| hsub (ρ' := [(13, _), (5, _), (4, _), (2, _), (0, _), (1, _)]) ⟨rfl, rfl, rfl, rfl, rfl, rfl, trivial⟩ <| hmemQ (X' := [_, _]) (S' := []) (fun _ m => m) <| hthen <| hreg <| hy (fun _ => y_move rfl) <| hy (fun _ => y_fld rfl fa132_1 (by decide)) <| hy (fun m => y_ld1 rfl ag9 (ld_blk (m.blk 1 rfl) (i := 1) rfl)) <| hy (fun _ => y_move rfl) <| ?_
    refine hx0 (xh_mapup (enc := SV) 0 rfl rfl rfl rfl Try.underlying88 (strKey Try.underlying9) ?_)
    refine hend <| hsub (ρ' := [(13, _), (5, _), (4, _), (2, _), (0, _), (1, _)]) ⟨rfl, rfl, rfl, rfl, rfl, rfl, trivial⟩ <| hmemQ (X' := [_, _]) (S' := []) (fun _ m => m) <| ?_
    have e : aput (adel (vals l) a) c r.val = vals (apl l (.renamed a c)) := by rw [apl, h1, vals_del, vals_put]
    refine hmemQ (fun w m => m.eqX 0 rfl (show _ = RMap SV g (vals (apl l (.renamed a c))) from congrArg (RMap SV g) e)) ?_
    exact hret0 trivial rfl [0] rfl [] rfl ⟨rfl, rfl, rfl⟩
theorem vmakeC {g : Nat} {l : Files} {p : List UInt8} : Con Try.prog 144 [.agg [SV p].toArray, .map (some g)] [RMap SV g (vals l)] [] (fun v_ X_ S_ => v_ = (.tuple #[]) ∧ X_ = [RMap SV g (vals (apl l (.removed p)))] ∧ S_ = []) := by
  refine henter (N := 7) Try.func144 rfl rfl (by simp) fun b => ?_
  refine hseq <| hreg <| ?_
  refine hx (xh_box rfl (fun g2 => ?_))
  refine hmemL (fun w m => m.eqX 0 rfl (show _ = RBlk g2 113 [SV p] from congrArg (RBlk _ _) (cells_agg _))) ?_
  refine hend <| hmemQ (X' := [_, _]) (S' := []) (fun _ m => m) <| hthen <| hreg <| hy (fun _ => y_move rfl) <| hy (fun _ => y_fld rfl fa113_0 (by decide)) <| hy (fun m => y_ld1 rfl ag9 (ld_blk (m.blk 0 rfl) (i := 0) rfl)) <| ?_
  refine hx0 (xh_mapdel (enc := SV) 1 rfl rfl rfl Try.underlying88 (strKey Try.underlying9) ?_)
  refine hend <| hsub (ρ' := [(2, _), (0, _), (1, _)]) ⟨rfl, rfl, rfl, trivial⟩ <| hmemQ (X' := [_, _]) (S' := []) (fun _ m => m) <| ?_
  rw [vals_del]
  exact hret0 trivial rfl [0] rfl [] rfl ⟨rfl, rfl, rfl⟩
/-- behind a change -/
def DSt.did (st : DSt) (c : Chg) (A : Option Addr) (k : Nat) : DSt := { st.spent with seen := apl st.seen c, waits := st.waits ++ [c], wA := A, wc := k }
theorem adel_vals {l : Files} {p : List UInt8} {x : BRow} (h : x ∈ (adel l p).map (·.2)) : x ∈ l.map (·.2) := by
  induction l with
  | nil => exact h
  | cons a q ih =>
    obtain ⟨k, u⟩ := a
    simp only [adel] at h
    split at h
    · exact List.mem_cons_of_mem _ h
    · simp only [List.map_cons, List.mem_cons] at h ⊢
      rcases h with rfl | h
      · exact .inl rfl
      · exact .inr (ih h)
theorem apl_rows {l : Files} {c : Chg} (hc : c.row = none) {x : BRow} (h : x ∈ (apl l c).map (·.2)) : x ∈ l.map (·.2) := by
  cases c with
  | written p r => cases hc
  | renamed a b =>
    simp only [apl] at h
    split at h
    · exact h
    · rename_i r hr
      rcases aput_vals h with h | h
      · exact adel_vals h
      · exact h ▸ List.mem_map.2 ⟨_, aget_mem hr, rfl⟩
  | removed p => exact adel_vals h
theorem apl_len (l : Files) (c : Chg) : (apl l c).length ≤ l.length + 1 := by
  cases c with
  | written p r => exact aput_len l p r
  | renamed a b =>
    simp only [apl]
    split
    · omega
    · rename_i r hr
      have h1 := aput_len (adel l a) b r
      have h2 := adel_len l a
      omega
  | removed p => have h2 := adel_len l p; show (adel l p).length ≤ _; omega
theorem rows_did {st : DSt} {c : Chg} {A : Option Addr} {k : Nat} (hc : c.row = none) : ∀ x ∈ rowsOf (st.did c A k), x ∈ rowsOf st := by
  intro x hx
  unfold rowsOf DSt.did at hx
  simp only [DSt.spent, List.mem_append, List.filterMap_append] at hx
  unfold rowsOf
  simp only [List.mem_append]
  rcases hx with (h | h) | h | h
  · exact .inl (.inl (apl_rows hc h))
  · exact .inl (.inr h)
  · exact .inr h
  · simp [hc] at h
theorem DOk.did {st : DSt} {k : Nat} (h : DOk st k) {c : Chg} (hc : c.row = none) (A : Option Addr) (j : Nat) : DOk (st.did c A j) (k + 1) := by
  refine ⟨spent_power h.power, h.room, ?_, ?_, fun x hx => h.small x (rows_did hc x hx)⟩
  · have := apl_len st.seen c
    have := h.seen
    show (apl st.seen c).length ≤ k + 1
    omega
  · have := h.rest
    show st.lasts.length + (st.waits ++ [c]).length ≤ k + 1
    simp only [List.length_append, List.length_cons, List.length_nil]
    omega
theorem doNC {g : Nat} {st : DSt} {a c : List UInt8} (hp : st.power ≤ 1000000000000) (hw : st.waits.length ≤ 1000000) : Con Try.prog 58 [.pointer (some ⟨g, 0, none⟩), (Chg.renamed a c).val] [RDisk g st] [] (fun v_ X_ S_ => ∃ A k, v_ = (.tuple #[]) ∧ X_ = [RDisk g (st.did (.renamed a c) A k)] ∧ S_ = []) := by
  have hsw : st.spent.waits.length = st.waits.length := rfl
  refine henter (N := 25) Try.func58 rfl rfl (by simp) fun b => ?_
  refine hseq <| hreg <| hy (fun _ => y_move rfl) <| ?_
  refine hx (xh_call rfl Try.call70 (spendC (by omega)) [0] rfl [] rfl ?_)
  rintro _ _ _ ⟨rfl, rfl, rfl⟩
  refine hmemL (fun w m => (m.perm (takeR_perm [0] _ [_] _ rfl)).unpack) ?_
  refine hend <| hsub (ρ' := [(0, _), (1, _)]) ⟨rfl, rfl, trivial⟩ <| hmemQ (X' := [_, _, _, _, _]) (S' := []) (fun _ m => m) <| hthen <| hseq <| hdrw [8] [(0, some 0), (1, some 0), (2, some 0), (3, some 0), (4, some 0), (5, some 0), (6, some 0), (7, some 0), (8, none)] (by kernel_rfl) (by kernel_rfl) rfl 0 <| htyU (y_move rfl) <| htyU (y_move rfl) <| htyU (y_nilp rfl) <| htyU (y_fld rfl fa91_1 (by decide)) <| hty (fun m => y_ld1 rfl ag88 (ld_blk (m.blk 0 rfl) rfl)) <| htyU (y_mkf rfl rfl) <| htyU (y_nilm rfl (by kernel_rfl)) <| htyU (y_move rfl) <| ?_
  refine htx (xh_inv rfl rfl (fun w => by kernel_rfl) Try.call145 (nmakeC) [1] rfl [] rfl ?_)
  rintro _ _ _ ⟨rfl, rfl, rfl⟩
  refine ⟨(fun h => absurd h (by decide)), ?_⟩
  refine htend <| hsub (ρ' := [(0, _), (1, _)]) ⟨rfl, rfl, trivial⟩ <| hmemQ (X' := [_, _, _, _, _]) (S' := []) (fun _ m => m) <| hthen <| hreg <| hy (fun _ => y_move rfl) <| hy (fun _ => y_move rfl) <| hy (fun _ => y_nilp rfl) <| hy (fun _ => y_fld rfl fa91_3 (by decide)) <| hy (fun m => y_ld1 rfl ag89 (ld_blk (m.blk 1 rfl) rfl)) <| hy (fun _ => y_move rfl) <| ?_
  refine hx (xh_bsl Try.underlying89 ti93 rfl rfl rfl (by simp [Value.cells, Chg.val]) (by decide) (by decide) (fun g21 => ?_))
  have hA_b21 : 0 < 1 → (some (⟨g21, 0, none⟩ : Addr)) ≠ none := fun _ h => by cases h
  refine hmemL (fun w m => m.eqX 0 rfl (show _ = ROwn 93 1 (.slice (some ⟨g21, 0, none⟩) 1 1) 1 [((Chg.renamed a c)).val] from rfl)) ?_
  refine hx (xh_app 4 rfl rfl rfl Try.underlying89 Try.underlying89 (by exact .inl rfl) ti93 rfl (fun m => Src.of_rd (m.ord 0 rfl)) (by simp [Chg.val, Value.oneCell']) (by unfold maxLen; omega) (by omega) (fun u => ?_))
  refine hfactL (fun m => (m.own 0 rfl).slice) ?_
  rintro ⟨A_d3, c_d3, rfl, hc_d3⟩
  refine hfactL (fun m => (m.ord 0 rfl).2.1) fun hA_d3 => ?_
  refine hy (fun _ => y_nilp rfl) <| hy (fun _ => y_fld rfl fa91_3 (by decide)) <| ?_
  refine hx0 (xh_st1a 3 rfl rfl rfl sz89 rfl (by first | exact Nat.le_of_ble_eq_true rfl | simp) ?_)
  refine hend <| hsub (ρ' := [(0, _), (1, _)]) ⟨rfl, rfl, trivial⟩ <| hmemQ (X' := [_, _, _, _, _, _]) (S' := []) (fun _ m => m) <| ?_
  refine hmemQ (fun w m => m.eqX 0 rfl (show _ = RBlk g 91 (dcells (st.did ((Chg.renamed a c)) A_d3 c_d3)) from by simp [dcells, DSt.did, DSt.spent])) ?_
  refine hmemQ (fun w m => m.eqX 3 rfl (show _ = RMap SV st.gs (vals (st.did ((Chg.renamed a c)) A_d3 c_d3).seen) from rfl)) ?_
  refine hmemQ (fun w m => m.eqX 2 rfl (show _ = ROwn 93 1 (.slice A_d3 (st.did ((Chg.renamed a c)) A_d3 c_d3).waits.length c_d3) (st.did ((Chg.renamed a c)) A_d3 c_d3).waits.length ((st.did ((Chg.renamed a c)) A_d3 c_d3).waits.map Chg.val) from by simp [DSt.did, DSt.spent])) ?_
  refine hmemQ (X' := RRows (rowsOf (st.did ((Chg.renamed a c)) A_d3 c_d3)) :: _) (fun w m => (m.perm (takeR_perm [5] _ [_] _ rfl)).rowSub ((rows_did rfl))) ?_
  refine hmemQ (X' := RDisk g (st.did ((Chg.renamed a c)) A_d3 c_d3) :: _) (fun w m => (m.perm (takeR_perm [3, 2, 3, 1, 0] _ [_, _, _, _, _] _ rfl)).pack) ?_
  exact hret0 trivial rfl [0] rfl [] rfl ⟨_, _, rfl, rfl, rfl⟩
theorem doVC {g : Nat} {st : DSt} {p : List UInt8} (hp : st.power ≤ 1000000000000) (hw : st.waits.length ≤ 1000000) : Con Try.prog 58 [.pointer (some ⟨g, 0, none⟩), (Chg.removed p).val] [RDisk g st] [] (fun v_ X_ S_ => ∃ A k, v_ = (.tuple #[]) ∧ X_ = [RDisk g (st.did (.removed p) A k)] ∧ S_ = []) := by
  have hsw : st.spent.waits.length = st.waits.length := rfl
  refine henter (N := 25) Try.func58 rfl rfl (by simp) fun b => ?_
  refine hseq <| hreg <| hy (fun _ => y_move rfl) <| ?_
  refine hx (xh_call rfl Try.call70 (spendC (by omega)) [0] rfl [] rfl ?_)
  rintro _ _ _ ⟨rfl, rfl, rfl⟩
  refine hmemL (fun w m => (m.perm (takeR_perm [0] _ [_] _ rfl)).unpack) ?_
  refine hend <| hsub (ρ' := [(0, _), (1, _)]) ⟨rfl, rfl, trivial⟩ <| hmemQ (X' := [_, _, _, _, _]) (S' := []) (fun _ m => m) <| hthen <| hseq <| hdrw [8] [(0, some 0), (1, some 0), (2, some 0), (3, some 0), (4, some 0), (5, some 0), (6, some 0), (7, some 0), (8, none)] (by kernel_rfl) (by kernel_rfl) rfl 0 <| htyU (y_move rfl) <| htyU (y_move rfl) <| htyU (y_nilp rfl) <| htyU (y_fld rfl fa91_1 (by decide)) <| hty (fun m => y_ld1 rfl ag88 (ld_blk (m.blk 0 rfl) rfl)) <| htyU (y_mkf rfl rfl) <| htyU (y_nilm rfl (by kernel_rfl)) <| htyU (y_move rfl) <| ?_
  refine htx (xh_inv rfl rfl (fun w => by kernel_rfl) Try.call144 (vmakeC) [1] rfl [] rfl ?_)
  rintro _ _ _ ⟨rfl, rfl, rfl⟩
  refine ⟨(fun h => absurd h (by decide)), ?_⟩
  refine htend <| hsub (ρ' := [(0, _), (1, _)]) ⟨rfl, rfl, trivial⟩ <| hmemQ (X' := [_, _, _, _, _]) (S' := []) (fun _ m => m) <| hthen <| hreg <| hy (fun _ => y_move rfl) <| hy (fun _ => y_move rfl) <| hy (fun _ => y_nilp rfl) <| hy (fun _ => y_fld rfl fa91_3 (by decide)) <| hy (fun m => y_ld1 rfl ag89 (ld_blk (m.blk 1 rfl) rfl)) <| hy (fun _ => y_move rfl) <| ?_
  refine hx (xh_bsl Try.underlying89 ti93 rfl rfl rfl (by simp [Value.cells, Chg.val]) (by decide) (by decide) (fun g21 => ?_))
  have hA_b21 : 0 < 1 → (some (⟨g21, 0, none⟩ : Addr)) ≠ none := fun _ h => by cases h
  refine hmemL (fun w m => m.eqX 0 rfl (show _ = ROwn 93 1 (.slice (some ⟨g21, 0, none⟩) 1 1) 1 [((Chg.removed p)).val] from rfl)) ?_
  refine hx (xh_app 4 rfl rfl rfl Try.underlying89 Try.underlying89 (by exact .inl rfl) ti93 rfl (fun m => Src.of_rd (m.ord 0 rfl)) (by simp [Chg.val, Value.oneCell']) (by unfold maxLen; omega) (by omega) (fun u => ?_))
  refine hfactL (fun m => (m.own 0 rfl).slice) ?_
  rintro ⟨A_d3, c_d3, rfl, hc_d3⟩
  refine hfactL (fun m => (m.ord 0 rfl).2.1) fun hA_d3 => ?_
  refine hy (fun _ => y_nilp rfl) <| hy (fun _ => y_fld rfl fa91_3 (by decide)) <| ?_
  refine hx0 (xh_st1a 3 rfl rfl rfl sz89 rfl (by first | exact Nat.le_of_ble_eq_true rfl | simp) ?_)
  refine hend <| hsub (ρ' := [(0, _), (1, _)]) ⟨rfl, rfl, trivial⟩ <| hmemQ (X' := [_, _, _, _, _, _]) (S' := []) (fun _ m => m) <| ?_
  refine hmemQ (fun w m => m.eqX 0 rfl (show _ = RBlk g 91 (dcells (st.did ((Chg.removed p)) A_d3 c_d3)) from by simp [dcells, DSt.did, DSt.spent])) ?_
  refine hmemQ (fun w m => m.eqX 3 rfl (show _ = RMap SV st.gs (vals (st.did ((Chg.removed p)) A_d3 c_d3).seen) from rfl)) ?_
  refine hmemQ (fun w m => m.eqX 2 rfl (show _ = ROwn 93 1 (.slice A_d3 (st.did ((Chg.removed p)) A_d3 c_d3).waits.length c_d3) (st.did ((Chg.removed p)) A_d3 c_d3).waits.length ((st.did ((Chg.removed p)) A_d3 c_d3).waits.map Chg.val) from by simp [DSt.did, DSt.spent])) ?_
  refine hmemQ (X' := RRows (rowsOf (st.did ((Chg.removed p)) A_d3 c_d3)) :: _) (fun w m => (m.perm (takeR_perm [5] _ [_] _ rfl)).rowSub ((rows_did rfl))) ?_
  refine hmemQ (X' := RDisk g (st.did ((Chg.removed p)) A_d3 c_d3) :: _) (fun w m => (m.perm (takeR_perm [3, 2, 3, 1, 0] _ [_, _, _, _, _] _ rfl)).pack) ?_
  exact hret0 trivial rfl [0] rfl [] rfl ⟨_, _, rfl, rfl, rfl⟩
theorem bad_found {st : DSt} {p : List UInt8} : foundE st p = 0 ∨ foundE st p = 4 ∨ foundE st p = 6 := by
  unfold foundE
  split
  · exact .inr (.inr rfl)
  · split
    · exact .inr (.inl rfl)
    · exact .inl rfl
/-- what is told of a Rename -/
def renameE (st : DSt) (a c : List UInt8) : Int := if ¬ Named c then 1 else foundE st a
theorem renameC {g : Nat} {st : DSt} {a c : List UInt8} {k : Nat} (ok : DOk st k) (hk : k ≤ 100000) : Con Try.prog 46 [.pointer (some ⟨g, 0, none⟩), .string (strOf a), .string (strOf c)] [RDisk g st] [] (fun v_ X_ S_ => ∃ st1 A j, v_ = (.int .i64 (renameE st a c)) ∧ X_ = [RDisk g st1] ∧ S_ = [] ∧ ((renameE st a c ≠ 0 ∧ st1 = st) ∨ (renameE st a c = 0 ∧ st1 = st.did (.renamed a c) A j))) := by
  have hp := ok.power
  have hw : st.waits.length ≤ 1000000 := by have := ok.rest; omega
  refine henter (N := 23) Try.func46 rfl rfl (by simp) fun b => ?_
  refine hseq <| hreg <| hy (fun _ => y_assign rfl) <| hend <| hthen <| hseq <| hseq <| hreg <| hy (fun _ => y_move rfl) <| ?_
  refine hx (xh_call rfl Try.call57 (namedC) [] rfl [] rfl ?_)
  rintro _ _ _ ⟨rfl, rfl, rfl⟩
  refine hy (fun _ => y_notp rfl) <| hend <| hsub (ρ' := [(10, _), (6, _), (0, _), (1, _), (2, _)]) ⟨rfl, rfl, rfl, rfl, rfl, trivial⟩ <| hmemQ (X' := [_]) (S' := []) (fun _ m => m) <| hthen <| ?_
  refine hif rfl (fun h1 => ?_) (fun h1 => ?_)
  · have e : renameE st a c = 1 := by rw [renameE, if_pos h1]
    rw [e]
    refine hseq <| hreg <| hy (fun _ => y_assign rfl) <| hend <| hthen <| hret <| hthen_ret <| ?_
    exact hret1 trivial rfl rfl [0] rfl [] rfl ⟨_, none, 0, rfl, rfl, rfl, .inl ⟨by decide, rfl⟩⟩
  · have e : renameE st a c = foundE st a := by rw [renameE, if_neg h1]
    rw [e]
    refine hcskip <| hthen <| hseq <| hseq <| hreg <| hy (fun _ => y_move rfl) <| hy (fun _ => y_move rfl) <| ?_
    refine hx (xh_call rfl Try.call63 (foundC) [0] rfl [] rfl ?_)
    rintro _ _ _ ⟨rfl, rfl, rfl⟩
    refine hy (fun _ => y_assign rfl) <| hend <| hsub (ρ' := [(7, _), (10, _), (6, _), (0, _), (1, _), (2, _)]) ⟨rfl, rfl, rfl, rfl, rfl, rfl, trivial⟩ <| hmemQ (X' := [_]) (S' := []) (fun _ m => m) <| hthen <| hseq <| hreg <| hy (fun _ => y_move rfl) <| hy (fun _ => y_neq rfl rfl) <| hend <| hsub (ρ' := [(15, _), (7, _), (10, _), (6, _), (0, _), (1, _), (2, _)]) ⟨rfl, rfl, rfl, rfl, rfl, rfl, rfl, trivial⟩ <| hthen <| ?_
    refine hif rfl (fun h2 => ?_) (fun h2 => ?_)
    · refine hseq <| hreg <| hy (fun _ => y_move rfl) <| hy (fun _ => y_assign rfl) <| hend <| hsub (ρ' := [(6, _), (15, _), (7, _), (10, _), (0, _), (1, _), (2, _)]) ⟨rfl, rfl, rfl, rfl, rfl, rfl, rfl, trivial⟩ <| hthen <| hret <| hthen_ret <| ?_
      exact hret1 trivial rfl rfl [0] rfl [] rfl ⟨_, none, 0, rfl, rfl, rfl, .inl ⟨h2, rfl⟩⟩
    · have h0 := Decidable.not_not.1 h2
      rw [h0]
      refine hcskip <| hthen <| hseq <| hreg <| hy (fun _ => y_move rfl) <| hy (fun _ => y_move rfl) <| hy (fun _ => y_move rfl) <| hy (fun _ => yV (y_build ti132 rfl rfl (by kernel_rfl) (.cons (o := 0) (sz := 1) (by kernel_rfl) rfl rfl (Nat.le_of_ble_eq_true rfl) (.cons (o := 1) (sz := 1) (by kernel_rfl) rfl rfl (Nat.le_of_ble_eq_true rfl) .nil))) ((rfl : _ = Value.agg [SV a, SV c].toArray))) <| hy (fun _ => yV (y_mki rfl Try.underlying132 (fun _ h => by cases h)) ((rfl : _ = (Chg.renamed a c).val))) <| ?_
      refine hx (xh_call rfl Try.call58 (doNC (by omega) (by omega)) [0] rfl [] rfl ?_)
      rintro _ _ _ ⟨A, k2, rfl, rfl, rfl⟩
      refine hend <| hsub (ρ' := [(15, _), (7, _), (10, _), (6, _), (0, _), (1, _), (2, _)]) ⟨rfl, rfl, rfl, rfl, rfl, rfl, rfl, trivial⟩ <| hmemQ (X' := [_]) (S' := []) (fun _ m => m) <| hthen <| hseq <| hreg <| hy (fun _ => y_assign rfl) <| hend <| hthen <| hret <| ?_
      exact hret1 trivial rfl rfl [0] rfl [] rfl ⟨_, _, _, rfl, rfl, rfl, .inr ⟨rfl, rfl⟩⟩
theorem removeC {g : Nat} {st : DSt} {p : List UInt8} {k : Nat} (ok : DOk st k) (hk : k ≤ 100000) : Con Try.prog 33 [.pointer (some ⟨g, 0, none⟩), .string (strOf p)] [RDisk g st] [] (fun v_ X_ S_ => ∃ st1 A j, v_ = (.int .i64 (foundE st p)) ∧ X_ = [RDisk g st1] ∧ S_ = [] ∧ ((foundE st p ≠ 0 ∧ st1 = st) ∨ (foundE st p = 0 ∧ st1 = st.did (.removed p) A j))) := by
  have hp := ok.power
  have hw : st.waits.length ≤ 1000000 := by have := ok.rest; omega
  refine henter (N := 17) Try.func33 rfl rfl (by simp) fun b => ?_
  refine hseq <| hreg <| hy (fun _ => y_assign rfl) <| hend <| hthen <| hseq <| hseq <| hreg <| hy (fun _ => y_move rfl) <| hy (fun _ => y_move rfl) <| ?_
  refine hx (xh_call rfl Try.call63 (foundC) [0] rfl [] rfl ?_)
  rintro _ _ _ ⟨rfl, rfl, rfl⟩
  refine hy (fun _ => y_assign rfl) <| hend <| hsub (ρ' := [(5, _), (4, _), (0, _), (1, _)]) ⟨rfl, rfl, rfl, rfl, trivial⟩ <| hmemQ (X' := [_]) (S' := []) (fun _ m => m) <| hthen <| hseq <| hreg <| hy (fun _ => y_move rfl) <| hy (fun _ => y_neq rfl rfl) <| hend <| hsub (ρ' := [(10, _), (5, _), (4, _), (0, _), (1, _)]) ⟨rfl, rfl, rfl, rfl, rfl, trivial⟩ <| hthen <| ?_
  refine hif rfl (fun h2 => ?_) (fun h2 => ?_)
  · refine hseq <| hreg <| hy (fun _ => y_move rfl) <| hy (fun _ => y_assign rfl) <| hend <| hsub (ρ' := [(4, _), (10, _), (5, _), (0, _), (1, _)]) ⟨rfl, rfl, rfl, rfl, rfl, trivial⟩ <| hthen <| hret <| hthen_ret <| ?_
    exact hret1 trivial rfl rfl [0] rfl [] rfl ⟨_, none, 0, rfl, rfl, rfl, .inl ⟨h2, rfl⟩⟩
  · have h0 := Decidable.not_not.1 h2
    rw [h0]
    refine hcskip <| hthen <| hseq <| hreg <| hy (fun _ => y_move rfl) <| hy (fun _ => y_move rfl) <| hy (fun _ => yV (y_build ti113 rfl rfl (by kernel_rfl) (.cons (o := 0) (sz := 1) (by kernel_rfl) rfl rfl (Nat.le_of_ble_eq_true rfl) .nil)) ((rfl : _ = Value.agg [SV p].toArray))) <| hy (fun _ => yV (y_mki rfl Try.underlying113 (fun _ h => by cases h)) ((rfl : _ = (Chg.removed p).val))) <| ?_
    refine hx (xh_call rfl Try.call58 (doVC (by omega) (by omega)) [0] rfl [] rfl ?_)
    rintro _ _ _ ⟨A, k2, rfl, rfl, rfl⟩
    refine hend <| hsub (ρ' := [(10, _), (5, _), (4, _), (0, _), (1, _)]) ⟨rfl, rfl, rfl, rfl, rfl, trivial⟩ <| hmemQ (X' := [_]) (S' := []) (fun _ m => m) <| hthen <| hseq <| hreg <| hy (fun _ => y_assign rfl) <| hend <| hthen <| hret <| ?_
    exact hret1 trivial rfl rfl [0] rfl [] rfl ⟨_, _, _, rfl, rfl, rfl, .inr ⟨rfl, rfl⟩⟩
/-- a restart, whatever waits -/
theorem restartAC {g : Nat} {st : DSt} {A : Option Addr} {n c : Nat} {bs : List Bool} (hc : n ≤ c) (hs : Small st) (hw : st.waits.length ≤ 1000000) : Con Try.prog 13 [.pointer (some ⟨g, 0, none⟩), .slice A n c] [RDisk g st] [RRd 1 A n (bools bs)] (fun v_ X_ S_ => ∃ gs, v_ = (.tuple #[]) ∧ X_ = [RDisk g (st.started bs gs)] ∧ S_ = []) := by
  refine henter (N := 67) Try.func13 rfl rfl (by simp) fun b => ?_
  refine hfactC (fun m => rdX (m.rd 0 rfl)) ?_
  rintro ⟨hl_r, hA_r⟩
  refine hmemC (fun w m => (m.perm (takeR_perm [0] _ [_] _ rfl)).unpack) ?_
  refine hfactC (fun m => (m.ord 3 rfl).2.1) fun hwA => ?_
  refine hseq <| hreg <| ?_
  refine hx (xh_box rfl (fun g3 => ?_))
  refine hend <| hmemQ (X' := [_, _, _, _, _, _]) (S' := [_]) (fun _ m => m) <| hthen <| hseq <| hreg <| hy (fun _ => y_mkf rfl rfl) <| hy (fun _ => y_assign rfl) <| hend <| hsub (ρ' := [(4, _), (3, _), (0, _), (1, _)]) ⟨rfl, rfl, rfl, rfl, trivial⟩ <| hthen <| hseq <| hseq <| hreg <| hy (fun _ => y_move rfl) <| hy (fun _ => y_nilp rfl) <| hy (fun _ => y_fld rfl fa91_3 (by decide)) <| hy (fun m => y_ld1 rfl ag89 (ld_blk (m.blk 1 rfl) rfl)) <| hy (fun _ => y_lenS rfl Try.underlying89) <| hy (fun _ => y_move rfl) <| hend <| hsub (ρ' := [(15, _), (14, _), (13, _), (4, _), (3, _), (0, _), (1, _)]) ⟨rfl, rfl, rfl, rfl, rfl, rfl, rfl, trivial⟩ <| hthen <| hblock <| ?_
  refine hloop6 (fun i ks L A1 n1 c1 => st.waits.length - i) (fun i ks L A1 n1 c1 => [(15, .int .i64 (i : Nat))]) (fun i ks L A1 n1 c1 => [RBlk g3 27 [.slice A1 n1 c1], RMap SV st.gl (vals L)]) (fun i ks L A1 n1 c1 => [RRd 1 A1 n1 (bools ks)]) (fun i ks L A1 n1 c1 => n1 ≤ c1 ∧ i ≤ st.waits.length ∧ (ks, L) = rfold bs st i) 0 bs st.lasts A n c [(14, _), (13, _), (4, _), (3, _), (0, _), (1, _)] ⟨rfl, rfl, rfl, rfl, rfl, rfl, trivial⟩ [0, 2] rfl [0] rfl (⟨hc, Nat.zero_le _, by simp [rfold]⟩) ⟨rfl, trivial⟩ (fun i ks L A1 n1 c1 ⟨hc1, hi, hf⟩ => ?_)
  refine hseq <| hreg <| hy (fun _ => y_lss rfl rfl) <| hend <| hthen <| hseq <| ?_
  refine hif rfl (fun hlt => ?_) (fun hlt => ?_)
  · obtain ⟨cg, hcg⟩ : ∃ cg, st.waits[i]? = some cg := ⟨_, List.getElem?_eq_getElem (by omega)⟩
    have hfs := rfold_succ (keep := bs) hcg
    rw [← hf] at hfs
    refine hcskip <| hthen <| hseq <| hblock <| hseq <| hreg <| hy (fun _ => y_idxS1 rfl rfl Try.underlying89 sz93 hwA rfl (by omega)) <| hy (fun m => y_ld1 rfl ag93 ((m.ord 4 rfl).cell (j := i) (by rw [List.getElem?_map, hcg]; rfl))) <| hy (fun _ => y_assign rfl) <| hend <| hsub (ρ' := [(6, _), (16, _), (15, _), (14, _), (13, _), (4, _), (3, _), (0, _), (1, _)]) ⟨rfl, rfl, rfl, rfl, rfl, rfl, rfl, rfl, rfl, trivial⟩ <| hthen <| hseq <| hseq <| hreg <| hy (fun _ => y_move rfl) <| ?_
    refine hx (xh_callv rfl rfl Try.call47 (nextBitC (by omega)) [0] rfl [0] rfl ?_)
    rintro _ _ _ ⟨A12, n12, c12, rfl, rfl, rfl, hp⟩
    refine hfactL (fun m => rdX (m.rd 0 rfl)) ?_
    rintro ⟨hl_q, hA_q⟩
    refine hy (fun _ => (y_not rfl)) <| hend <| hsub (ρ' := [(21, _), (6, _), (16, _), (15, _), (14, _), (13, _), (4, _), (3, _), (0, _), (1, _)]) ⟨rfl, rfl, rfl, rfl, rfl, rfl, rfl, rfl, rfl, rfl, trivial⟩ <| hmemQ (X' := [_, _, _, _, _, _]) (S' := [_, _, _]) (fun _ m => m) <| hthen <| ?_
    refine hifb rfl (fun hb => ?_) (fun hb => ?_)
    · have hb' : ks.headD false = false := by simpa using hb
      refine hexit <| hthen_exit <| hqblock_exit <| hthen <| hreg <| hy (fun _ => y_add rfl rfl (w64 (by omega) (by omega))) <| hy (fun _ => y_move rfl) <| hend <| hsub (ρ' := [(15, _), (21, _), (6, _), (16, _), (14, _), (13, _), (4, _), (3, _), (0, _), (1, _)]) ⟨rfl, rfl, rfl, rfl, rfl, rfl, rfl, rfl, rfl, rfl, trivial⟩ <| ?_
      refine hnext6 (i + 1) ks.tail L A12 n12 c12 ⟨rfl, rfl, rfl, rfl, rfl, rfl, rfl, trivial⟩ [0, 0, 0, 0, 0, 0] rfl [0, 2] rfl (⟨hp, by omega, by rw [hfs]; unfold rstep; rw [if_neg (by rw [hb']; decide)]⟩) (by omega)
    · have hb' : ks.headD false = true := by simpa using hb
      rcases cg with ⟨p, r⟩ | ⟨a, c9⟩ | ⟨p⟩
      · have hrm : r ∈ rowsOf st := by
          unfold rowsOf
          exact List.mem_append_right _ (List.mem_filterMap.2 ⟨_, List.mem_of_getElem? hcg, rfl⟩)
        have hsr := hs r hrm
        obtain ⟨ri, hri⟩ := List.mem_iff_getElem?.1 hrm
        refine hfactC (fun m => rows_le (m.xres 5 rfl) hri) fun hrc => ?_
        refine hcskip <| hthen <| hseq <| hreg <| hy (fun _ => y_move rfl) <| hend <| hthen <| hblock <| hseq <| hreg <| hy (fun _ => y_tas rfl (show _ = Result.ok (Value.tuple #[.agg [SV p, r.val].toArray, .bool true]) _ by kernel_rfl)) <| hy (fun _ => y_extract rfl rfl) <| hy (fun _ => y_extract rfl rfl) <| hend <| hsub (ρ' := [(34, _), (33, _), (22, _), (21, _), (6, _), (16, _), (15, _), (14, _), (13, _), (4, _), (3, _), (0, _), (1, _)]) ⟨rfl, rfl, rfl, rfl, rfl, rfl, rfl, rfl, rfl, rfl, rfl, rfl, rfl, trivial⟩ <| hthen <| ?_
        refine hift rfl (rfl) ?_
        refine hseq <| hreg <| ?_
        refine hx (xh_alloc ti95 (fun g7 => ?_))
        refine hx0 (xh_stA 0 rfl rfl rfl sz95 rfl (by simp [SV, BRow.val, Value.oneCell']) rfl ?_)
        refine hend <| hmemQ (X' := [_, _, _, _, _, _, _]) (S' := [_, _, _]) (fun _ m => m) <| hthen <| hseq <| hseq <| hreg <| hy (fun _ => y_move rfl) <| ?_
        refine hx (xh_callv rfl rfl Try.call47 (nextBitC (by omega)) [1] rfl [0] rfl ?_)
        rintro _ _ _ ⟨A13, n13, c13, rfl, rfl, rfl, hp2⟩
        refine hfactL (fun m => rdX (m.rd 0 rfl)) ?_
        rintro ⟨hl_q2, hA_q2⟩
        refine hy (fun _ => (y_not rfl)) <| hend <| hsub (ρ' := [(37, _), (7, _), (34, _), (33, _), (22, _), (21, _), (6, _), (16, _), (15, _), (14, _), (13, _), (4, _), (3, _), (0, _), (1, _)]) ⟨rfl, rfl, rfl, rfl, rfl, rfl, rfl, rfl, rfl, rfl, rfl, rfl, rfl, rfl, rfl, trivial⟩ <| hmemQ (X' := [_, _, _, _, _, _, _]) (S' := [_, _, _, _]) (fun _ m => m) <| hthen <| ?_
        refine hifb rfl (fun hb2 => ?_) (fun hb2 => ?_)
        · have hb2' : ks.tail.headD false = false := by simpa using hb2
          refine hreg <| hy (fun _ => y_fld rfl fa95_1 (by decide)) <| hy (fun m => y_ld1 rfl ag44 (ld_blk (m.blk 1 rfl) rfl)) <| hy (fun _ => y_fld rfl fa95_1 (by decide)) <| hy (fun m => y_ld1 rfl ag44 (ld_blk (m.blk 1 rfl) rfl)) <| hy (fun _ => y_lenS rfl Try.underlying44) <| hy (fun _ => y_quo rfl rfl (by omega) (by omega) (w64 (by omega) (by omega))) <| hy (fun _ => y_slTo rfl rfl Try.underlying44 sz5 (show ((r.n / 2 : Nat) : Int) = _ by omega) (by omega)) <| hy (fun _ => y_fld rfl fa95_1 (by decide)) <| ?_
          refine hx0 (xh_st1a 1 rfl rfl rfl sz44 rfl (by first | exact Nat.le_of_ble_eq_true rfl | simp) ?_)
          refine hmemL (fun w m => m.eqX 0 rfl (show _ = RBlk g7 95 [SV p, r.half.val] from rfl)) ?_
          refine hend <| hsub (ρ' := [(37, _), (7, _), (34, _), (33, _), (22, _), (21, _), (6, _), (16, _), (15, _), (14, _), (13, _), (4, _), (3, _), (0, _), (1, _)]) ⟨rfl, rfl, rfl, rfl, rfl, rfl, rfl, rfl, rfl, rfl, rfl, rfl, rfl, rfl, rfl, trivial⟩ <| hmemQ (X' := [_, _, _, _, _, _, _]) (S' := [_, _, _, _]) (fun _ m => m) <| hthen <| hdrw [5] [(0, some 0), (1, some 0), (2, some 0), (3, some 0), (4, some 0), (5, none)] (by kernel_rfl) (by kernel_rfl) rfl 0 <| hty (fun m => y_ldN rfl ag95 sz95 (by simp) (m.blk 0 rfl).cells0) <| htyU (y_move rfl) <| htyU (y_nilp rfl) <| htyU (y_fld rfl fa91_2 (by decide)) <| hty (fun m => y_ld1 rfl ag88 (ld_blk (m.blk 3 rfl) rfl)) <| ?_
          refine htx (xh_call rfl Try.call48 (wmakeC) [2] rfl [] rfl ?_)
          rintro _ _ _ ⟨rfl, rfl, rfl⟩
          refine ⟨(fun h => absurd h (by decide)), ?_⟩
          refine htend <| hsub (ρ' := [(37, _), (7, _), (34, _), (33, _), (22, _), (21, _), (6, _), (16, _), (15, _), (14, _), (13, _), (4, _), (3, _), (0, _), (1, _)]) ⟨rfl, rfl, rfl, rfl, rfl, rfl, rfl, rfl, rfl, rfl, rfl, rfl, rfl, rfl, rfl, trivial⟩ <| hmemQ (X' := [_, _, _, _, _, _, _]) (S' := [_, _, _, _]) (fun _ m => m) <| hqblock <| hqblock <| hthen <| hreg <| hy (fun _ => y_add rfl rfl (w64 (by omega) (by omega))) <| hy (fun _ => y_move rfl) <| hend <| hsub (ρ' := [(15, _), (37, _), (7, _), (34, _), (33, _), (22, _), (21, _), (6, _), (16, _), (14, _), (13, _), (4, _), (3, _), (0, _), (1, _)]) ⟨rfl, rfl, rfl, rfl, rfl, rfl, rfl, rfl, rfl, rfl, rfl, rfl, rfl, rfl, rfl, trivial⟩ <| ?_
          refine hmemQ (fun w m => m.eqX 0 rfl (show _ = RMap SV st.gl (vals (aput L p r.half)) from congrArg (RMap SV st.gl) (vals_put _ _ _))) ?_
          refine hnext6 (i + 1) ks.tail.tail (aput L p r.half) A13 n13 c13 ⟨rfl, rfl, rfl, rfl, rfl, rfl, rfl, trivial⟩ [2, 0, 1, 1, 1, 1] rfl [0, 3] rfl (⟨hp2, by omega, by rw [hfs, rstep, if_pos hb', hb2']; rfl⟩) (by omega)
        · have hb2' : ks.tail.headD false = true := by simpa using hb2
          refine hcskip <| hthen <| hdrw [5] [(0, some 0), (1, some 0), (2, some 0), (3, some 0), (4, some 0), (5, none)] (by kernel_rfl) (by kernel_rfl) rfl 0 <| hty (fun m => y_ldN rfl ag95 sz95 (by simp) (m.blk 1 rfl).cells0) <| htyU (y_move rfl) <| htyU (y_nilp rfl) <| htyU (y_fld rfl fa91_2 (by decide)) <| hty (fun m => y_ld1 rfl ag88 (ld_blk (m.blk 3 rfl) rfl)) <| ?_
          refine htx (xh_call rfl Try.call48 (wmakeC) [2] rfl [] rfl ?_)
          rintro _ _ _ ⟨rfl, rfl, rfl⟩
          refine ⟨(fun h => absurd h (by decide)), ?_⟩
          refine htend <| hsub (ρ' := [(37, _), (7, _), (34, _), (33, _), (22, _), (21, _), (6, _), (16, _), (15, _), (14, _), (13, _), (4, _), (3, _), (0, _), (1, _)]) ⟨rfl, rfl, rfl, rfl, rfl, rfl, rfl, rfl, rfl, rfl, rfl, rfl, rfl, rfl, rfl, trivial⟩ <| hmemQ (X' := [_, _, _, _, _, _, _]) (S' := [_, _, _, _]) (fun _ m => m) <| hqblock <| hqblock <| hthen <| hreg <| hy (fun _ => y_add rfl rfl (w64 (by omega) (by omega))) <| hy (fun _ => y_move rfl) <| hend <| hsub (ρ' := [(15, _), (37, _), (7, _), (34, _), (33, _), (22, _), (21, _), (6, _), (16, _), (14, _), (13, _), (4, _), (3, _), (0, _), (1, _)]) ⟨rfl, rfl, rfl, rfl, rfl, rfl, rfl, rfl, rfl, rfl, rfl, rfl, rfl, rfl, rfl, trivial⟩ <| ?_
          refine hmemQ (fun w m => m.eqX 0 rfl (show _ = RMap SV st.gl (vals (aput L p r)) from congrArg (RMap SV st.gl) (vals_put _ _ _))) ?_
          refine hnext6 (i + 1) ks.tail.tail (aput L p r) A13 n13 c13 ⟨rfl, rfl, rfl, rfl, rfl, rfl, rfl, trivial⟩ [1, 0, 1, 1, 1, 1] rfl [0, 3] rfl (⟨hp2, by omega, by rw [hfs, rstep, if_pos hb', hb2']; rfl⟩) (by omega)
      · refine hcskip <| hthen <| hseq <| hreg <| hy (fun _ => y_move rfl) <| hend <| hthen <| hblock <| hseq <| hreg <| hy (fun _ => y_tas rfl (show _ = Result.ok (Value.tuple #[.agg [SV [], .slice none 0 0].toArray, .bool false]) _ by kernel_rfl)) <| hy (fun _ => y_extract rfl rfl) <| hy (fun _ => y_extract rfl rfl) <| hend <| hsub (ρ' := [(34, _), (33, _), (22, _), (21, _), (6, _), (16, _), (15, _), (14, _), (13, _), (4, _), (3, _), (0, _), (1, _)]) ⟨rfl, rfl, rfl, rfl, rfl, rfl, rfl, rfl, rfl, rfl, rfl, rfl, rfl, trivial⟩ <| hthen <| ?_
        refine hiff rfl (rfl) ?_
        refine hseq <| hreg <| hy (fun _ => y_assign rfl) <| hend <| hsub (ρ' := [(34, _), (33, _), (22, _), (21, _), (6, _), (16, _), (15, _), (14, _), (13, _), (4, _), (3, _), (0, _), (1, _)]) ⟨rfl, rfl, rfl, rfl, rfl, rfl, rfl, rfl, rfl, rfl, rfl, rfl, rfl, trivial⟩ <| hthen <| hdrw [8] [(0, some 0), (1, some 0), (2, some 0), (3, some 0), (4, some 0), (5, some 0), (6, some 0), (7, some 0), (8, none)] (by kernel_rfl) (by kernel_rfl) rfl 0 <| htyU (y_move rfl) <| htyU (y_move rfl) <| htyU (y_nilp rfl) <| htyU (y_fld rfl fa91_2 (by decide)) <| hty (fun m => y_ld1 rfl ag88 (ld_blk (m.blk 2 rfl) rfl)) <| htyU (y_mkf rfl rfl) <| htyU (y_nilm rfl (by kernel_rfl)) <| htyU (y_move rfl) <| ?_
        refine htx (xh_inv rfl rfl (fun w => by kernel_rfl) Try.call145 (nmakeC) [1] rfl [] rfl ?_)
        rintro _ _ _ ⟨rfl, rfl, rfl⟩
        refine ⟨(fun h => absurd h (by decide)), ?_⟩
        refine htend <| hsub (ρ' := [(34, _), (33, _), (22, _), (21, _), (6, _), (16, _), (15, _), (14, _), (13, _), (4, _), (3, _), (0, _), (1, _)]) ⟨rfl, rfl, rfl, rfl, rfl, rfl, rfl, rfl, rfl, rfl, rfl, rfl, rfl, trivial⟩ <| hmemQ (X' := [_, _, _, _, _, _]) (S' := [_, _, _]) (fun _ m => m) <| hqblock <| hqblock <| hthen <| hreg <| hy (fun _ => y_add rfl rfl (w64 (by omega) (by omega))) <| hy (fun _ => y_move rfl) <| hend <| hsub (ρ' := [(15, _), (34, _), (33, _), (22, _), (21, _), (6, _), (16, _), (14, _), (13, _), (4, _), (3, _), (0, _), (1, _)]) ⟨rfl, rfl, rfl, rfl, rfl, rfl, rfl, rfl, rfl, rfl, rfl, rfl, rfl, trivial⟩ <| ?_
        refine hnext6 (i + 1) ks.tail (apl L (.renamed a c9)) A12 n12 c12 ⟨rfl, rfl, rfl, rfl, rfl, rfl, rfl, trivial⟩ [1, 0, 0, 0, 0, 0] rfl [0, 2] rfl (⟨hp, by omega, by rw [hfs]; unfold rstep; rw [if_pos hb']; rfl⟩) (by omega)
      · refine hcskip <| hthen <| hseq <| hreg <| hy (fun _ => y_move rfl) <| hend <| hthen <| hblock <| hseq <| hreg <| hy (fun _ => y_tas rfl (show _ = Result.ok (Value.tuple #[.agg [SV [], .slice none 0 0].toArray, .bool false]) _ by kernel_rfl)) <| hy (fun _ => y_extract rfl rfl) <| hy (fun _ => y_extract rfl rfl) <| hend <| hsub (ρ' := [(34, _), (33, _), (22, _), (21, _), (6, _), (16, _), (15, _), (14, _), (13, _), (4, _), (3, _), (0, _), (1, _)]) ⟨rfl, rfl, rfl, rfl, rfl, rfl, rfl, rfl, rfl, rfl, rfl, rfl, rfl, trivial⟩ <| hthen <| ?_
        refine hiff rfl (rfl) ?_
        refine hseq <| hreg <| hy (fun _ => y_assign rfl) <| hend <| hsub (ρ' := [(34, _), (33, _), (22, _), (21, _), (6, _), (16, _), (15, _), (14, _), (13, _), (4, _), (3, _), (0, _), (1, _)]) ⟨rfl, rfl, rfl, rfl, rfl, rfl, rfl, rfl, rfl, rfl, rfl, rfl, rfl, trivial⟩ <| hthen <| hdrw [8] [(0, some 0), (1, some 0), (2, some 0), (3, some 0), (4, some 0), (5, some 0), (6, some 0), (7, some 0), (8, none)] (by kernel_rfl) (by kernel_rfl) rfl 0 <| htyU (y_move rfl) <| htyU (y_move rfl) <| htyU (y_nilp rfl) <| htyU (y_fld rfl fa91_2 (by decide)) <| hty (fun m => y_ld1 rfl ag88 (ld_blk (m.blk 2 rfl) rfl)) <| htyU (y_mkf rfl rfl) <| htyU (y_nilm rfl (by kernel_rfl)) <| htyU (y_move rfl) <| ?_
        refine htx (xh_inv rfl rfl (fun w => by kernel_rfl) Try.call144 (vmakeC) [1] rfl [] rfl ?_)
        rintro _ _ _ ⟨rfl, rfl, rfl⟩
        refine ⟨(fun h => absurd h (by decide)), ?_⟩
        refine htend <| hsub (ρ' := [(34, _), (33, _), (22, _), (21, _), (6, _), (16, _), (15, _), (14, _), (13, _), (4, _), (3, _), (0, _), (1, _)]) ⟨rfl, rfl, rfl, rfl, rfl, rfl, rfl, rfl, rfl, rfl, rfl, rfl, rfl, trivial⟩ <| hmemQ (X' := [_, _, _, _, _, _]) (S' := [_, _, _]) (fun _ m => m) <| hqblock <| hqblock <| hthen <| hreg <| hy (fun _ => y_add rfl rfl (w64 (by omega) (by omega))) <| hy (fun _ => y_move rfl) <| hend <| hsub (ρ' := [(15, _), (34, _), (33, _), (22, _), (21, _), (6, _), (16, _), (14, _), (13, _), (4, _), (3, _), (0, _), (1, _)]) ⟨rfl, rfl, rfl, rfl, rfl, rfl, rfl, rfl, rfl, rfl, rfl, rfl, rfl, trivial⟩ <| ?_
        refine hnext6 (i + 1) ks.tail (apl L (.removed p)) A12 n12 c12 ⟨rfl, rfl, rfl, rfl, rfl, rfl, rfl, trivial⟩ [1, 0, 0, 0, 0, 0] rfl [0, 2] rfl (⟨hp, by omega, by rw [hfs, rstep, if_pos hb']; rfl⟩) (by omega)
  · obtain rfl : i = st.waits.length := by omega
    have hL : L = (rfold bs st st.waits.length).2 := by rw [← hf]
    refine hexit <| hthen_exit <| hthen_exit <| hqblock_exit <| hthen <| hreg <| hy (fun _ => y_move rfl) <| hy (fun _ => y_move rfl) <| hy (fun _ => y_move rfl) <| hy (fun _ => y_move rfl) <| hy (fun _ => y_nilp rfl) <| hy (fun _ => y_fld rfl fa91_2 (by decide)) <| hy (fun m => y_ld1 rfl ag88 (ld_blk (m.blk 2 rfl) rfl)) <| ?_
    refine hx (xh_call rfl Try.call49 (mcloneC) [1] rfl [] rfl ?_)
    rintro _ _ _ ⟨g1, rfl, rfl, rfl⟩
    refine hy (fun _ => y_nilp rfl) <| hy (fun _ => y_fld rfl fa91_1 (by decide)) <| ?_
    refine hx0 (xh_st1a 3 rfl rfl rfl sz88 rfl (by first | exact Nat.le_of_ble_eq_true rfl | simp) ?_)
    refine hy (fun _ => y_nilp rfl) <| hy (fun _ => y_fld rfl fa91_3 (by decide)) <| ?_
    refine hx0 (xh_st1a 0 rfl rfl rfl sz89 rfl (by first | exact Nat.le_of_ble_eq_true rfl | simp) ?_)
    refine hy (fun _ => y_nilp rfl) <| hy (fun _ => y_fld rfl fa91_4 (by decide)) <| ?_
    refine hx0 (xh_st1a 0 rfl rfl rfl sz3 rfl (by first | exact Nat.le_of_ble_eq_true rfl | simp) ?_)
    refine hend <| hsub (ρ' := [(16, _), (15, _), (14, _), (13, _), (4, _), (3, _), (0, _), (1, _)]) ⟨rfl, rfl, rfl, rfl, rfl, rfl, rfl, rfl, trivial⟩ <| hmemQ (X' := [_, _, _, _, _, _, _]) (S' := [_, _]) (fun _ m => m) <| ?_
    refine hmemQ (fun w m => m.addX (r' := ROwn 93 1 (.slice none 0 0) 0 []) (.refl _ _) (Own.nil _ _ _ _) (fun k hk => hk.elim)) ?_
    have e : ∀ gs, st.started bs gs = { st with gs := gs, seen := L, lasts := L, waits := [], wA := none, wc := 0, power := -1 } := fun gs => by rw [hL]; rfl
    refine hmemQ (fun w m => m.eqX 1 rfl (show _ = RBlk g 91 (dcells (st.started bs g1)) from rfl)) ?_
    refine hmemQ (fun w m => m.eqX 3 rfl (show _ = RMap SV g1 (vals (st.started bs g1).seen) from by rw [hL]; rfl)) ?_
    refine hmemQ (fun w m => m.eqX 3 rfl (show _ = RMap SV st.gl (vals (st.started bs g1).lasts) from by rw [hL]; rfl)) ?_
    refine hmemQ (X' := RRows (rowsOf (st.started bs g1)) :: _) (fun w m => (m.perm (takeR_perm [7] _ [_] _ rfl)).rowHalf (rows_started g1)) ?_
    refine hmemQ (X' := RDisk g (st.started bs g1) :: _) (fun w m => (m.perm (takeR_perm [3, 2, 1, 1, 0] _ [_, _, _, _, _] _ rfl)).pack) ?_
    exact hret0 trivial rfl [0] rfl [] rfl ⟨_, rfl, rfl, rfl⟩
end Go.Proofs.Ytflcokdkobhieaa
