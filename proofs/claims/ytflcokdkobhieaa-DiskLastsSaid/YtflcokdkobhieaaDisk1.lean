/- Contracts: a disk. -/
import Derived.Test.YtflcokdkobhieaaStr1
import Derived.Test.YtflcokdkobhieaaMem5
set_option linter.unusedVariables false
set_option linter.unusedSimpArgs false
set_option maxRecDepth 20000
namespace Go.Proofs.Ytflcokdkobhieaa
open Go.Eng Go.Hx
abbrev Files := List (List UInt8 × BRow)
def vals (l : Files) : List (List UInt8 × Value) := l.map fun x => (x.1, x.2.val)
def tot (l : Files) : Nat := (l.map fun x => x.2.n).sum
theorem vals_get : ∀ (l : Files) (p : List UInt8), aget (vals l) p = (aget l p).map BRow.val
  | [], p => rfl
  | (k, r) :: q, p => by
    have := vals_get q p
    simp only [vals, List.map_cons, aget] at this ⊢
    split <;> simp_all
theorem vals_put : ∀ (l : Files) (p : List UInt8) (r : BRow), aput (vals l) p r.val = vals (aput l p r)
  | [], p, r => rfl
  | (k, u) :: q, p, r => by
    have := vals_put q p r
    simp only [vals, List.map_cons, aput] at this ⊢
    split <;> simp_all
theorem vals_del : ∀ (l : Files) (p : List UInt8), adel (vals l) p = vals (adel l p)
  | [], p => rfl
  | (k, u) :: q, p => by
    have := vals_del q p
    simp only [vals, List.map_cons, adel] at this ⊢
    split <;> simp_all
theorem vals_keys (l : Files) : akeys (vals l) = akeys l := by simp [akeys, vals]
theorem vals_at {l : Files} {j : Nat} {p : List UInt8 × Value} (h : (vals l)[j]? = some p) : ∃ r, l[j]? = some (p.1, r) ∧ p.2 = r.val := by
  simp only [vals, List.getElem?_map] at h
  cases hl : l[j]? with
  | none => rw [hl] at h; cases h
  | some x =>
    rw [hl] at h
    simp only [Option.map_some, Option.some.injEq] at h
    subst h
    exact ⟨x.2, rfl, rfl⟩
theorem vals_erase (l : Files) (j : Nat) : (vals l).eraseIdx j = vals (l.eraseIdx j) := (map_eraseIdx _ l j).symm
theorem tot_erase : ∀ {l : Files} {j : Nat} {x : List UInt8 × BRow}, l[j]? = some x → tot (l.eraseIdx j) + x.2.n = tot l
  | [], j, x, h => by simp at h
  | a :: q, 0, x, h => by
    simp only [List.getElem?_cons_zero, Option.some.injEq] at h
    subst h
    simp [tot]; omega
  | a :: q, j + 1, x, h => by
    simp only [List.getElem?_cons_succ] at h
    have := tot_erase h
    simp only [tot, List.eraseIdx_cons_succ, List.map_cons, List.sum_cons] at this ⊢
    omega
/-- a change that waits -/
inductive Chg
  | written (p : List UInt8) (r : BRow)
  | renamed (a b : List UInt8)
  | removed (p : List UInt8)
def Chg.row : Chg → Option BRow
  | .written _ r => some r
  | _ => none
def Chg.val : Chg → Value
  | .written p r => .iface 95 (.agg [SV p, r.val].toArray)
  | .renamed a b => .iface 132 (.agg [SV a, SV b].toArray)
  | .removed p => .iface 113 (.agg [SV p].toArray)
structure DSt where
  room : Int
  gs : Nat
  gl : Nat
  seen : Files
  lasts : Files
  waits : List Chg
  wA : Option Addr
  wc : Nat
  power : Int
def rowsOf (st : DSt) : List BRow := st.seen.map (·.2) ++ st.lasts.map (·.2) ++ st.waits.filterMap Chg.row
def dcells (st : DSt) : List Value := [.int .i64 st.room, .map (some st.gs), .map (some st.gl), .slice st.wA st.waits.length st.wc, .int .i64 st.power]
abbrev RDisk (g : Nat) (st : DSt) : Res := RPack [RBlk g 91 (dcells st), RMap SV st.gs (vals st.seen), RMap SV st.gl (vals st.lasts), ROwn 93 1 (.slice st.wA st.waits.length st.wc) st.waits.length (st.waits.map Chg.val), RRows (rowsOf st)]
def dinit (n : Int) (gs gl : Nat) : DSt := ⟨n, gs, gl, [], [], [], none, 0, -1⟩
theorem newC {n : Int} (h1 : 1 ≤ n) (h2 : n ≤ 1048576) : Con Try.prog 22 [.int .i64 n] [] [] (fun v_ X_ S_ => ∃ g gs gl, v_ = (.tuple #[.pointer (some ⟨g, 0, none⟩), .int .i64 0]) ∧ X_ = [RDisk g (dinit n gs gl)] ∧ S_ = []) := by
  refine henter (N := 15) Try.func22 rfl rfl (by simp) fun b => ?_
  refine hseq <| hreg <| hy (fun _ => y_assign rfl) <| hy (fun _ => y_assign rfl) <| hend <| hthen <| hseq <| hseq <| hreg <| hy (fun _ => y_move rfl) <| hy (fun _ => y_lss rfl rfl) <| hy (fun _ => y_move rfl) <| ?_
  refine hsplit 6 rfl (fun h => ?_) (fun h => ?_)
  · exact absurd h (by omega)
  · refine hyg (o := _) rfl rfl rfl (fun _ => y_move rfl) <| hyg (o := _) rfl rfl rfl (fun _ => y_gtr rfl rfl) <| hy (fun _ => y_pickF rfl rfl) <| hend <| hsub (ρ' := [(9, _), (3, _), (2, _), (0, _)]) ⟨rfl, rfl, rfl, rfl, trivial⟩ <| hthen <| ?_
    refine hiff rfl (decide_eq_false (by omega)) ?_
    refine hcskip <| hthen <| hseq <| hreg <| hy (fun _ => y_move rfl) <| ?_
    refine hx (xh_mkmap SV (fun g11 => ?_))
    refine hx (xh_mkmap SV (fun g12 => ?_))
    refine hy (fun _ => yV (y_build ti91 rfl rfl (by kernel_rfl) (.cons (o := 0) (sz := 1) (by kernel_rfl) rfl rfl (Nat.le_of_ble_eq_true rfl) (.cons (o := 1) (sz := 1) (by kernel_rfl) rfl rfl (Nat.le_of_ble_eq_true rfl) (.cons (o := 2) (sz := 1) (by kernel_rfl) rfl rfl (Nat.le_of_ble_eq_true rfl) (.cons (o := 4) (sz := 1) (by kernel_rfl) rfl rfl (Nat.le_of_ble_eq_true rfl) .nil))))) ((rfl : _ = Value.agg (dcells (dinit n g11 g12)).toArray))) <| ?_
    refine hx (xh_box rfl (fun g14 => ?_))
    refine hy (fun _ => y_assign rfl) <| hy (fun _ => y_assign rfl) <| hend <| hsub (ρ' := [(3, _), (2, _), (9, _), (0, _)]) ⟨rfl, rfl, rfl, rfl, trivial⟩ <| hmemQ (X' := [_, _, _]) (S' := []) (fun _ m => m) <| hthen <| hret <| ?_
    refine hmemQ (fun w m => m.addX (r' := ROwn 93 1 (.slice none 0 0) 0 []) (.refl _ _) (Own.nil _ _ _ _) (fun k hk => hk.elim)) ?_
    refine hmemQ (fun w m => m.noRows) ?_
    refine hmemQ (X' := RDisk g14 (dinit n g11 g12) :: _) (fun w m => (m.perm (takeR_perm [2, 3, 2, 1, 0] _ [_, _, _, _, _] _ rfl)).pack) ?_
    exact hret2 trivial rfl rfl rfl [0] rfl [] rfl ⟨_, _, _, rfl, rfl, rfl⟩
theorem newBadC {n : Int} (h1 : ¬ (1 ≤ n ∧ n ≤ 1048576)) : Con Try.prog 22 [.int .i64 n] [] [] (fun v_ X_ S_ => v_ = (.tuple #[.pointer none, .int .i64 1]) ∧ X_ = [] ∧ S_ = []) := by
  refine henter (N := 15) Try.func22 rfl rfl (by simp) fun b => ?_
  refine hseq <| hreg <| hy (fun _ => y_assign rfl) <| hy (fun _ => y_assign rfl) <| hend <| hthen <| hseq <| hseq <| hreg <| hy (fun _ => y_move rfl) <| hy (fun _ => y_lss rfl rfl) <| hy (fun _ => y_move rfl) <| ?_
  refine hsplit 6 rfl (fun h => ?_) (fun h => ?_)
  · refine hskip rfl rfl rfl (by decide) <| hskip rfl rfl rfl (by decide) <| hy (fun _ => y_pickT rfl rfl) <| hend <| hsub (ρ' := [(9, _), (3, _), (2, _), (0, _)]) ⟨rfl, rfl, rfl, rfl, trivial⟩ <| hthen <| ?_
    refine hift rfl (rfl) ?_
    refine hseq <| hreg <| hy (fun _ => y_assign rfl) <| hy (fun _ => y_assign rfl) <| hend <| hthen <| hret <| hthen_ret <| ?_
    exact hret2 trivial rfl rfl rfl [] rfl [] rfl ⟨rfl, rfl, rfl⟩
  · refine hyg (o := _) rfl rfl rfl (fun _ => y_move rfl) <| hyg (o := _) rfl rfl rfl (fun _ => y_gtr rfl rfl) <| hy (fun _ => y_pickF rfl rfl) <| hend <| hsub (ρ' := [(9, _), (3, _), (2, _), (0, _)]) ⟨rfl, rfl, rfl, rfl, trivial⟩ <| hthen <| ?_
    refine hift rfl (decide_eq_true (by omega)) ?_
    refine hseq <| hreg <| hy (fun _ => y_assign rfl) <| hy (fun _ => y_assign rfl) <| hend <| hthen <| hret <| hthen_ret <| ?_
    exact hret2 trivial rfl rfl rfl [] rfl [] rfl ⟨rfl, rfl, rfl⟩
theorem upC {g : Nat} {st : DSt} : Con Try.prog 31 [.pointer (some ⟨g, 0, none⟩)] [RDisk g st] [] (fun v_ X_ S_ => v_ = (.bool (decide (st.power ≠ 0))) ∧ X_ = [RDisk g st] ∧ S_ = []) := by
  refine henter (N := 8) Try.func31 rfl rfl (by simp) fun b => ?_
  refine hmemC (fun w m => (m.perm (takeR_perm [0] _ [_] _ rfl)).unpack) ?_
  refine hseq <| hreg <| hy (fun _ => y_assign rfl) <| hend <| hthen <| hseq <| hreg <| hy (fun _ => y_move rfl) <| hy (fun _ => y_nilp rfl) <| hy (fun _ => y_fld rfl fa91_4 (by decide)) <| hy (fun m => y_ld1 rfl ag3 (ld_blk (m.blk 0 rfl) rfl)) <| hy (fun _ => y_neq rfl rfl) <| hy (fun _ => y_assign rfl) <| hend <| hsub (ρ' := [(2, _), (0, _)]) ⟨rfl, rfl, trivial⟩ <| hthen <| hret <| ?_
  refine hmemQ (X' := RDisk g st :: _) (fun w m => (m.perm (takeR_perm [0, 0, 0, 0, 0] _ [_, _, _, _, _] _ rfl)).pack) ?_
  exact hret1 trivial rfl rfl [0] rfl [] rfl ⟨rfl, rfl, rfl⟩
/-- a call that is done -/
def DSt.spent (st : DSt) : DSt := { st with power := if 0 < st.power then st.power - 1 else st.power }
theorem spendC {g : Nat} {st : DSt} (hp : st.power ≤ 1000000000000) : Con Try.prog 70 [.pointer (some ⟨g, 0, none⟩)] [RDisk g st] [] (fun v_ X_ S_ => v_ = (.tuple #[]) ∧ X_ = [RDisk g st.spent] ∧ S_ = []) := by
  refine henter (N := 14) Try.func70 rfl rfl (by simp) fun b => ?_
  refine hmemC (fun w m => (m.perm (takeR_perm [0] _ [_] _ rfl)).unpack) ?_
  refine hseq <| hreg <| hy (fun _ => y_move rfl) <| hy (fun _ => y_nilp rfl) <| hy (fun _ => y_fld rfl fa91_4 (by decide)) <| hy (fun m => y_ld1 rfl ag3 (ld_blk (m.blk 0 rfl) rfl)) <| hy (fun _ => y_gtr rfl rfl) <| hend <| hsub (ρ' := [(6, _), (0, _)]) ⟨rfl, rfl, trivial⟩ <| hthen <| ?_
  refine hif rfl (fun h => ?_) (fun h => ?_)
  · have e : st.spent = { st with power := st.power - 1 } := by simp only [DSt.spent, if_pos h]
    rw [e]
    refine hreg <| hy (fun _ => y_move rfl) <| hy (fun _ => y_nilp rfl) <| hy (fun _ => y_fld rfl fa91_4 (by decide)) <| hy (fun m => y_ld1 rfl ag3 (ld_blk (m.blk 0 rfl) rfl)) <| hy (fun _ => y_sub rfl rfl (w64 (by omega) (by omega))) <| hy (fun _ => y_nilp rfl) <| hy (fun _ => y_fld rfl fa91_4 (by decide)) <| ?_
    refine hx0 (xh_st1a 0 rfl rfl rfl sz3 rfl (by first | exact Nat.le_of_ble_eq_true rfl | simp) ?_)
    refine hend <| hsub (ρ' := [(6, _), (0, _)]) ⟨rfl, rfl, trivial⟩ <| hmemQ (X' := [_, _, _, _, _]) (S' := []) (fun _ m => m) <| ?_
    refine hmemQ (X' := RDisk g { st with power := st.power - 1 } :: _) (fun w m => (m.perm (takeR_perm [0, 0, 0, 0, 0] _ [_, _, _, _, _] _ rfl)).pack) ?_
    exact hret0 trivial rfl [0] rfl [] rfl ⟨rfl, rfl, rfl⟩
  · have e : st.spent = st := by simp only [DSt.spent, if_neg h]
    rw [e]
    refine hcskip <| ?_
    refine hmemQ (X' := RDisk g st :: _) (fun w m => (m.perm (takeR_perm [0, 0, 0, 0, 0] _ [_, _, _, _, _] _ rfl)).pack) ?_
    exact hret0 trivial rfl [0] rfl [] rfl ⟨rfl, rfl, rfl⟩
theorem usedC {g : Nat} {st : DSt} (ht : tot st.seen ≤ 1000000000000) : Con Try.prog 37 [.pointer (some ⟨g, 0, none⟩)] [RDisk g st] [] (fun v_ X_ S_ => v_ = (.int .i64 (tot st.seen : Nat)) ∧ X_ = [RDisk g st] ∧ S_ = []) := by
  refine henter (N := 20) Try.func37 rfl rfl (by simp) fun b => ?_
  refine hmemC (fun w m => (m.perm (takeR_perm [0] _ [_] _ rfl)).unpack) ?_
  refine hseq <| hreg <| hy (fun _ => y_assign rfl) <| hend <| hthen <| hseq <| hreg <| hy (fun _ => y_assign rfl) <| hend <| hthen <| hseq <| hseq <| hreg <| hy (fun _ => y_move rfl) <| hy (fun _ => y_nilp rfl) <| hy (fun _ => y_fld rfl fa91_1 (by decide)) <| hy (fun m => y_ld1 rfl ag88 (ld_blk (m.blk 0 rfl) rfl)) <| ?_
  refine hx (xh_range 1 rfl rfl Try.underlying88 (fun r10 => ?_))
  refine hend <| hsub (ρ' := [(10, _), (3, _), (2, _), (0, _)]) ⟨rfl, rfl, rfl, rfl, trivial⟩ <| hmemQ (X' := [_, _, _, _, _]) (S' := []) (fun _ m => m) <| hthen <| hblock <| ?_
  refine hloop3 (fun left n cur => left.length) (fun left n cur => [(3, .int .i64 (n : Nat))]) (fun left n cur => [RRng SV r10 st.gs (vals st.seen) (vals left) cur]) (fun left n cur => []) (fun left n cur => n + tot left = tot st.seen) st.seen 0 none [(10, _), (2, _), (0, _)] ⟨rfl, rfl, rfl, trivial⟩ [0] rfl [] rfl (Nat.zero_add _) ⟨rfl, trivial⟩ (fun left n cur hI => ?_)
  refine hseq <| hreg <| ?_
  refine hx (xh_next 0 rfl rfl (fun h0 => ?_) (fun j p hp => ?_))
  · obtain rfl : left = [] := List.map_eq_nil_iff.1 h0
    have hn : n = tot st.seen := by simpa [tot] using hI
    subst hn
    refine hy (fun _ => y_extract rfl rfl) <| hend <| hsub (ρ' := [(12, _), (3, _), (10, _), (2, _), (0, _)]) ⟨rfl, rfl, rfl, rfl, rfl, trivial⟩ <| hthen <| hseq <| ?_
    refine hiff rfl (rfl) ?_
    refine hexit <| hthen_exit <| hthen_exit <| hqblock_exit <| hthen <| hseq <| hreg <| hy (fun _ => y_move rfl) <| hy (fun _ => y_assign rfl) <| hend <| hsub (ρ' := [(2, _), (12, _), (3, _), (10, _), (0, _)]) ⟨rfl, rfl, rfl, rfl, rfl, trivial⟩ <| hthen <| hret <| ?_
    refine hmemQ (fun w m => m.rngEnd 0 rfl) ?_
    refine hmemQ (X' := RDisk g st :: _) (fun w m => (m.perm (takeR_perm [1, 0, 0, 0, 0] _ [_, _, _, _, _] _ rfl)).pack) ?_
    exact hret1 trivial rfl rfl [0] rfl [] rfl ⟨rfl, rfl, rfl⟩
  · obtain ⟨k, v⟩ := p
    obtain ⟨r, hr, e⟩ := vals_at hp
    obtain rfl : v = r.val := e
    have ht := tot_erase hr
    have hlt := (List.getElem?_eq_some_iff.1 hr).1
    simp only at ht
    refine hy (fun _ => y_extract rfl rfl) <| hend <| hsub (ρ' := [(12, _), (3, _), (10, _), (2, _), (0, _)]) ⟨rfl, rfl, rfl, rfl, rfl, trivial⟩ <| hthen <| hseq <| ?_
    refine hift rfl (rfl) ?_
    refine hcskip <| hthen <| hblock <| hseq <| hreg <| hy (fun m => y_entryM rfl (m.rngX 0 rfl)) <| hy (fun _ => yV (y_extract rfl rfl) ((rfl : _ = Value.slice r.A r.n r.c))) <| hy (fun _ => y_assign rfl) <| hend <| hsub (ρ' := [(5, _), (12, _), (3, _), (10, _), (2, _), (0, _)]) ⟨rfl, rfl, rfl, rfl, rfl, rfl, trivial⟩ <| hthen <| hreg <| hy (fun _ => y_move rfl) <| hy (fun _ => y_move rfl) <| hy (fun _ => y_lenS rfl Try.underlying44) <| hy (fun _ => y_add rfl rfl (w64 (by omega) (by omega))) <| hy (fun _ => y_assign rfl) <| hend <| hsub (ρ' := [(3, _), (5, _), (12, _), (10, _), (2, _), (0, _)]) ⟨rfl, rfl, rfl, rfl, rfl, rfl, trivial⟩ <| hqblock <| ?_
    refine hmemQ (fun w m => m.eqX 0 rfl (show _ = RRng SV r10 st.gs (vals st.seen) (vals (left.eraseIdx j)) (some (k, r.val)) from congrArg (fun q => RRng SV r10 st.gs (vals st.seen) q (some (k, r.val))) (vals_erase left j))) ?_
    refine hnext3 (left.eraseIdx j) (n + r.n) (some (k, r.val)) ⟨rfl, rfl, rfl, rfl, trivial⟩ [0, 0, 0, 0, 0] rfl [] rfl (by omega) (by rw [List.length_eraseIdx, if_pos hlt]; omega)
theorem aget_split {l : Files} (p : List UInt8) : (aget l p = none ∧ aget (vals l) p = none) ∨ ∃ r, aget l p = some r ∧ aget (vals l) p = some r.val := by
  rw [vals_get]
  cases aget l p with
  | none => exact .inl ⟨rfl, rfl⟩
  | some r => exact .inr ⟨r, rfl, rfl⟩
/-- why a file is not found -/
def foundE (st : DSt) (p : List UInt8) : Int := if st.power = 0 then 6 else if aget st.seen p = none then 4 else 0
theorem foundC {g : Nat} {st : DSt} {p : List UInt8} : Con Try.prog 63 [.pointer (some ⟨g, 0, none⟩), .string (strOf p)] [RDisk g st] [] (fun v_ X_ S_ => v_ = (.int .i64 (foundE st p)) ∧ X_ = [RDisk g st] ∧ S_ = []) := by
  have hf : foundE st p = foundE st p := rfl
  refine henter (N := 23) Try.func63 rfl rfl (by simp) fun b => ?_
  refine hmemC (fun w m => (m.perm (takeR_perm [0] _ [_] _ rfl)).unpack) ?_
  have hh : (aget (vals st.seen) p).isSome = decide (aget st.seen p ≠ none) := by
    rcases aget_split (l := st.seen) p with ⟨h1, h2⟩ | ⟨r, h1, h2⟩ <;> simp [h1, h2]
  refine hseq <| hreg <| hy (fun _ => y_assign rfl) <| hend <| hthen <| hseq <| hreg <| hy (fun _ => y_move rfl) <| hy (fun _ => y_nilp rfl) <| hy (fun _ => y_fld rfl fa91_1 (by decide)) <| hy (fun m => y_ld1 rfl ag88 (ld_blk (m.blk 0 rfl) rfl)) <| hy (fun _ => y_move rfl) <| hy (fun m => y_lookM (enc := SV) rfl rfl Try.underlying88 ti44 (strKey Try.underlying9) (m.mapX 1 rfl)) <| hy (fun _ => y_move rfl) <| hy (fun _ => y_extract rfl rfl) <| hy (fun _ => yV (y_extract rfl rfl) ((show Value.bool (aget (vals st.seen) p).isSome = .bool (decide (aget st.seen p ≠ none)) by rw [hh]))) <| hy (fun _ => y_assign rfl) <| hy (fun _ => y_assign rfl) <| hend <| hsub (ρ' := [(6, _), (4, _), (0, _), (1, _)]) ⟨rfl, rfl, rfl, rfl, trivial⟩ <| hthen <| hseq <| hblock <| hseq <| hreg <| ?_
  refine hmemL (X' := RDisk g st :: _) (fun w m => (m.perm (takeR_perm [0, 0, 0, 0, 0] _ [_, _, _, _, _] _ rfl)).pack) ?_
  refine hy (fun _ => y_move rfl) <| ?_
  refine hx (xh_call rfl Try.call31 (upC) [0] rfl [] rfl ?_)
  rintro _ _ _ ⟨rfl, rfl, rfl⟩
  refine hy (fun _ => y_notp rfl) <| hy (fun _ => y_assign rfl) <| hend <| hsub (ρ' := [(16, _), (6, _), (4, _), (0, _), (1, _)]) ⟨rfl, rfl, rfl, rfl, rfl, trivial⟩ <| hmemQ (X' := [_]) (S' := []) (fun _ m => m) <| hthen <| ?_
  refine hif rfl (fun h1 => ?_) (fun h1 => ?_)
  · refine hseq <| hreg <| hy (fun _ => y_assign rfl) <| hend <| hthen <| hret <| hqblock_ret <| hthen_ret <| ?_
    exact hret1 trivial rfl rfl [0] rfl [] rfl ⟨(by rw [foundE, if_pos (by omega)]), rfl, rfl⟩
  · refine hseq <| hreg <| hy (fun _ => y_move rfl) <| hy (fun _ => y_notp rfl) <| hy (fun _ => y_assign rfl) <| hend <| hsub (ρ' := [(20, _), (16, _), (6, _), (4, _), (0, _), (1, _)]) ⟨rfl, rfl, rfl, rfl, rfl, rfl, trivial⟩ <| hthen <| ?_
    refine hif rfl (fun h2 => ?_) (fun h2 => ?_)
    · refine hseq <| hreg <| hy (fun _ => y_assign rfl) <| hend <| hthen <| hret <| hqblock_ret <| hthen_ret <| ?_
      exact hret1 trivial rfl rfl [0] rfl [] rfl ⟨(by rw [foundE, if_neg (by omega), if_pos (Decidable.not_not.1 h2)]), rfl, rfl⟩
    · refine hcskip <| hqblock <| hthen <| hseq <| hreg <| hy (fun _ => y_assign rfl) <| hend <| hthen <| hret <| ?_
      exact hret1 trivial rfl rfl [0] rfl [] rfl ⟨(by rw [foundE, if_neg (by omega), if_neg (fun e => h2 (fun h => h e))]), rfl, rfl⟩
end Go.Proofs.Ytflcokdkobhieaa
