import Derived.Test.YtfikjheicjamhaaDoorG4
import Derived.Test.YtfikjheicjamhaaDoorG2
import Derived.Test.YtfikjheicjamhaaDoorG3
section
/- Contracts: a disk. -/
set_option linter.unusedVariables false
set_option linter.unusedSimpArgs false
set_option maxRecDepth 20000
namespace Go.Proofs.YtfikjheicjamhaaDoor
open Go.Eng Go.Hx
abbrev Files := List (List UInt8 × BRow)
def vals (l : Files) : List (List UInt8 × Value) := l.map fun x => (x.1, x.2.val)
def tot (l : Files) : Nat := (l.map fun x => x.2.n).sum
theorem vals_get : ∀ (l : Files) (p : List UInt8), aget (vals l) p = (aget l p).map BRow.val
  | [], p => rfl
  | (k, r) :: q, p => by
    have := vals_get q p
    simp only [vals, List.map_cons, aget] at this ⊢
    split <;> simp_all
theorem vals_put : ∀ (l : Files) (p : List UInt8) (r : BRow), aput (vals l) p r.val = vals (aput l p r)
  | [], p, r => rfl
  | (k, u) :: q, p, r => by
    have := vals_put q p r
    simp only [vals, List.map_cons, aput] at this ⊢
    split <;> simp_all
theorem vals_del : ∀ (l : Files) (p : List UInt8), adel (vals l) p = vals (adel l p)
  | [], p => rfl
  | (k, u) :: q, p => by
    have := vals_del q p
    simp only [vals, List.map_cons, adel] at this ⊢
    split <;> simp_all
theorem vals_keys (l : Files) : akeys (vals l) = akeys l := by simp [akeys, vals]
theorem vals_at {l : Files} {j : Nat} {p : List UInt8 × Value} (h : (vals l)[j]? = some p) : ∃ r, l[j]? = some (p.1, r) ∧ p.2 = r.val := by
  simp only [vals, List.getElem?_map] at h
  cases hl : l[j]? with
  | none => rw [hl] at h; cases h
  | some x =>
    rw [hl] at h
    simp only [Option.map_some, Option.some.injEq] at h
    subst h
    exact ⟨x.2, rfl, rfl⟩
theorem vals_erase (l : Files) (j : Nat) : (vals l).eraseIdx j = vals (l.eraseIdx j) := (map_eraseIdx _ l j).symm
theorem tot_erase : ∀ {l : Files} {j : Nat} {x : List UInt8 × BRow}, l[j]? = some x → tot (l.eraseIdx j) + x.2.n = tot l
  | [], j, x, h => by simp at h
  | a :: q, 0, x, h => by
    simp only [List.getElem?_cons_zero, Option.some.injEq] at h
    subst h
    simp [tot]; omega
  | a :: q, j + 1, x, h => by
    simp only [List.getElem?_cons_succ] at h
    have := tot_erase h
    simp only [tot, List.eraseIdx_cons_succ, List.map_cons, List.sum_cons] at this ⊢
    omega
/-- a change that waits -/
inductive Chg
  | written (p : List UInt8) (r : BRow)
  | renamed (a b : List UInt8)
  | removed (p : List UInt8)
def Chg.row : Chg → Option BRow
  | .written _ r => some r
  | _ => none
def Chg.val : Chg → Value
  | .written p r => .iface 150 (.agg [SV p, r.val].toArray)
  | .renamed a b => .iface 206 (.agg [SV a, SV b].toArray)
  | .removed p => .iface 0 (.agg [SV p].toArray)
structure DSt where
  room : Int
  gs : Nat
  gl : Nat
  seen : Files
  lasts : Files
  waits : List Chg
  wA : Option Addr
  wc : Nat
  power : Int
def rowsOf (st : DSt) : List BRow := st.seen.map (·.2) ++ st.lasts.map (·.2) ++ st.waits.filterMap Chg.row
def dcells (st : DSt) : List Value := [.int .i64 st.room, .map (some st.gs), .map (some st.gl), .slice st.wA st.waits.length st.wc, .int .i64 st.power]
abbrev RDisk (g : Nat) (st : DSt) : Res := RPack [RBlk g 146 (dcells st), RMap SV st.gs (vals st.seen), RMap SV st.gl (vals st.lasts), ROwn 148 1 (.slice st.wA st.waits.length st.wc) st.waits.length (st.waits.map Chg.val), RRows (rowsOf st)]
def dinit (n : Int) (gs gl : Nat) : DSt := ⟨n, gs, gl, [], [], [], none, 0, -1⟩
theorem newC {n : Int} (h1 : 1 ≤ n) (h2 : n ≤ 1048576) : Con Tryd.prog 73 [.int .i64 n] [] [] (fun v_ X_ S_ => ∃ g gs gl, v_ = (.tuple #[.pointer (some ⟨g, 0, none⟩), .int .i64 0]) ∧ X_ = [RDisk g (dinit n gs gl)] ∧ S_ = []) := by
  refine henter (N := 15) Tryd.func73 rfl rfl (by simp) fun b => ?_
  refine hseq <| hreg <| hy (fun _ => y_assign rfl) <| hy (fun _ => y_assign rfl) <| hend <| hthen <| hseq <| hseq <| hreg <| hy (fun _ => y_move rfl) <| hy (fun _ => y_lss rfl rfl) <| hy (fun _ => y_move rfl) <| ?_
  refine hsplit 6 rfl (fun h => ?_) (fun h => ?_)
  · exact absurd h (by omega)
  · refine hyg (o := _) rfl rfl rfl (fun _ => y_move rfl) <| hyg (o := _) rfl rfl rfl (fun _ => y_gtr rfl rfl) <| hy (fun _ => y_pickF rfl rfl) <| hend <| hsub (ρ' := [(9, _), (3, _), (2, _), (0, _)]) ⟨rfl, rfl, rfl, rfl, trivial⟩ <| hthen <| ?_
    refine hiff rfl (decide_eq_false (by omega)) ?_
    refine hcskip <| hthen <| hseq <| hreg <| hy (fun _ => y_move rfl) <| ?_
    refine hx (xh_mkmap SV (fun g11 => ?_))
    refine hx (xh_mkmap SV (fun g12 => ?_))
    refine hy (fun _ => yV (y_build ti146 rfl rfl (by kernel_rfl) (.cons (o := 0) (sz := 1) (by kernel_rfl) rfl rfl (Nat.le_of_ble_eq_true rfl) (.cons (o := 1) (sz := 1) (by kernel_rfl) rfl rfl (Nat.le_of_ble_eq_true rfl) (.cons (o := 2) (sz := 1) (by kernel_rfl) rfl rfl (Nat.le_of_ble_eq_true rfl) (.cons (o := 4) (sz := 1) (by kernel_rfl) rfl rfl (Nat.le_of_ble_eq_true rfl) .nil))))) ((rfl : _ = Value.agg (dcells (dinit n g11 g12)).toArray))) <| ?_
    refine hx (xh_box rfl (fun g14 => ?_))
    refine hy (fun _ => y_assign rfl) <| hy (fun _ => y_assign rfl) <| hend <| hsub (ρ' := [(3, _), (2, _), (9, _), (0, _)]) ⟨rfl, rfl, rfl, rfl, trivial⟩ <| hmemQ (X' := [_, _, _]) (S' := []) (fun _ m => m) <| hthen <| hret <| ?_
    refine hmemQ (fun w m => m.addX (r' := ROwn 148 1 (.slice none 0 0) 0 []) (.refl _ _) (Own.nil _ _ _ _) (fun k hk => hk.elim)) ?_
    refine hmemQ (fun w m => m.noRows) ?_
    refine hmemQ (X' := RDisk g14 (dinit n g11 g12) :: _) (fun w m => (m.perm (takeR_perm [2, 3, 2, 1, 0] _ [_, _, _, _, _] _ rfl)).pack) ?_
    exact hret2 trivial rfl rfl rfl [0] rfl [] rfl ⟨_, _, _, rfl, rfl, rfl⟩
theorem newBadC {n : Int} (h1 : ¬ (1 ≤ n ∧ n ≤ 1048576)) : Con Tryd.prog 73 [.int .i64 n] [] [] (fun v_ X_ S_ => v_ = (.tuple #[.pointer none, .int .i64 1]) ∧ X_ = [] ∧ S_ = []) := by
  refine henter (N := 15) Tryd.func73 rfl rfl (by simp) fun b => ?_
  refine hseq <| hreg <| hy (fun _ => y_assign rfl) <| hy (fun _ => y_assign rfl) <| hend <| hthen <| hseq <| hseq <| hreg <| hy (fun _ => y_move rfl) <| hy (fun _ => y_lss rfl rfl) <| hy (fun _ => y_move rfl) <| ?_
  refine hsplit 6 rfl (fun h => ?_) (fun h => ?_)
  · refine hskip rfl rfl rfl (by decide) <| hskip rfl rfl rfl (by decide) <| hy (fun _ => y_pickT rfl rfl) <| hend <| hsub (ρ' := [(9, _), (3, _), (2, _), (0, _)]) ⟨rfl, rfl, rfl, rfl, trivial⟩ <| hthen <| ?_
    refine hift rfl (rfl) ?_
    refine hseq <| hreg <| hy (fun _ => y_assign rfl) <| hy (fun _ => y_assign rfl) <| hend <| hthen <| hret <| hthen_ret <| ?_
    exact hret2 trivial rfl rfl rfl [] rfl [] rfl ⟨rfl, rfl, rfl⟩
  · refine hyg (o := _) rfl rfl rfl (fun _ => y_move rfl) <| hyg (o := _) rfl rfl rfl (fun _ => y_gtr rfl rfl) <| hy (fun _ => y_pickF rfl rfl) <| hend <| hsub (ρ' := [(9, _), (3, _), (2, _), (0, _)]) ⟨rfl, rfl, rfl, rfl, trivial⟩ <| hthen <| ?_
    refine hift rfl (decide_eq_true (by omega)) ?_
    refine hseq <| hreg <| hy (fun _ => y_assign rfl) <| hy (fun _ => y_assign rfl) <| hend <| hthen <| hret <| hthen_ret <| ?_
    exact hret2 trivial rfl rfl rfl [] rfl [] rfl ⟨rfl, rfl, rfl⟩
theorem upC {g : Nat} {st : DSt} : Con Tryd.prog 124 [.pointer (some ⟨g, 0, none⟩)] [RDisk g st] [] (fun v_ X_ S_ => v_ = (.bool (decide (st.power ≠ 0))) ∧ X_ = [RDisk g st] ∧ S_ = []) := by
  refine henter (N := 8) Tryd.func124 rfl rfl (by simp) fun b => ?_
  refine hmemC (fun w m => (m.perm (takeR_perm [0] _ [_] _ rfl)).unpack) ?_
  refine hseq <| hreg <| hy (fun _ => y_assign rfl) <| hend <| hthen <| hseq <| hreg <| hy (fun _ => y_move rfl) <| hy (fun _ => y_nilp rfl) <| hy (fun _ => y_fld rfl fa146_4 (by decide)) <| hy (fun m => y_ld1 rfl ag3 (ld_blk (m.blk 0 rfl) rfl)) <| hy (fun _ => y_neq rfl rfl) <| hy (fun _ => y_assign rfl) <| hend <| hsub (ρ' := [(2, _), (0, _)]) ⟨rfl, rfl, trivial⟩ <| hthen <| hret <| ?_
  refine hmemQ (X' := RDisk g st :: _) (fun w m => (m.perm (takeR_perm [0, 0, 0, 0, 0] _ [_, _, _, _, _] _ rfl)).pack) ?_
  exact hret1 trivial rfl rfl [0] rfl [] rfl ⟨rfl, rfl, rfl⟩
/-- a call that is done -/
def DSt.spent (st : DSt) : DSt := { st with power := if 0 < st.power then st.power - 1 else st.power }
theorem spendC {g : Nat} {st : DSt} (hp : st.power ≤ 1000000000000) : Con Tryd.prog 127 [.pointer (some ⟨g, 0, none⟩)] [RDisk g st] [] (fun v_ X_ S_ => v_ = (.tuple #[]) ∧ X_ = [RDisk g st.spent] ∧ S_ = []) := by
  refine henter (N := 14) Tryd.func127 rfl rfl (by simp) fun b => ?_
  refine hmemC (fun w m => (m.perm (takeR_perm [0] _ [_] _ rfl)).unpack) ?_
  refine hseq <| hreg <| hy (fun _ => y_move rfl) <| hy (fun _ => y_nilp rfl) <| hy (fun _ => y_fld rfl fa146_4 (by decide)) <| hy (fun m => y_ld1 rfl ag3 (ld_blk (m.blk 0 rfl) rfl)) <| hy (fun _ => y_gtr rfl rfl) <| hend <| hsub (ρ' := [(6, _), (0, _)]) ⟨rfl, rfl, trivial⟩ <| hthen <| ?_
  refine hif rfl (fun h => ?_) (fun h => ?_)
  · have e : st.spent = { st with power := st.power - 1 } := by simp only [DSt.spent, if_pos h]
    rw [e]
    refine hreg <| hy (fun _ => y_move rfl) <| hy (fun _ => y_nilp rfl) <| hy (fun _ => y_fld rfl fa146_4 (by decide)) <| hy (fun m => y_ld1 rfl ag3 (ld_blk (m.blk 0 rfl) rfl)) <| hy (fun _ => y_sub rfl rfl (w64 (by omega) (by omega))) <| hy (fun _ => y_nilp rfl) <| hy (fun _ => y_fld rfl fa146_4 (by decide)) <| ?_
    refine hx0 (xh_st1a 0 rfl rfl rfl sz3 rfl (by first | exact Nat.le_of_ble_eq_true rfl | simp) ?_)
    refine hend <| hsub (ρ' := [(6, _), (0, _)]) ⟨rfl, rfl, trivial⟩ <| hmemQ (X' := [_, _, _, _, _]) (S' := []) (fun _ m => m) <| ?_
    refine hmemQ (X' := RDisk g { st with power := st.power - 1 } :: _) (fun w m => (m.perm (takeR_perm [0, 0, 0, 0, 0] _ [_, _, _, _, _] _ rfl)).pack) ?_
    exact hret0 trivial rfl [0] rfl [] rfl ⟨rfl, rfl, rfl⟩
  · have e : st.spent = st := by simp only [DSt.spent, if_neg h]
    rw [e]
    refine hcskip <| ?_
    refine hmemQ (X' := RDisk g st :: _) (fun w m => (m.perm (takeR_perm [0, 0, 0, 0, 0] _ [_, _, _, _, _] _ rfl)).pack) ?_
    exact hret0 trivial rfl [0] rfl [] rfl ⟨rfl, rfl, rfl⟩
theorem usedC {g : Nat} {st : DSt} (ht : tot st.seen ≤ 1000000000000) : Con Tryd.prog 125 [.pointer (some ⟨g, 0, none⟩)] [RDisk g st] [] (fun v_ X_ S_ => v_ = (.int .i64 (tot st.seen : Nat)) ∧ X_ = [RDisk g st] ∧ S_ = []) := by
  refine henter (N := 20) Tryd.func125 rfl rfl (by simp) fun b => ?_
  refine hmemC (fun w m => (m.perm (takeR_perm [0] _ [_] _ rfl)).unpack) ?_
  refine hseq <| hreg <| hy (fun _ => y_assign rfl) <| hend <| hthen <| hseq <| hreg <| hy (fun _ => y_assign rfl) <| hend <| hthen <| hseq <| hseq <| hreg <| hy (fun _ => y_move rfl) <| hy (fun _ => y_nilp rfl) <| hy (fun _ => y_fld rfl fa146_1 (by decide)) <| hy (fun m => y_ld1 rfl ag143 (ld_blk (m.blk 0 rfl) rfl)) <| ?_
  refine hx (xh_range 1 rfl rfl Tryd.underlying143 (fun r10 => ?_))
  refine hend <| hsub (ρ' := [(10, _), (3, _), (2, _), (0, _)]) ⟨rfl, rfl, rfl, rfl, trivial⟩ <| hmemQ (X' := [_, _, _, _, _]) (S' := []) (fun _ m => m) <| hthen <| hblock <| ?_
  refine hloop3 (fun left n cur => left.length) (fun left n cur => [(3, .int .i64 (n : Nat))]) (fun left n cur => [RRng SV r10 st.gs (vals st.seen) (vals left) cur]) (fun left n cur => []) (fun left n cur => n + tot left = tot st.seen) st.seen 0 none [(10, _), (2, _), (0, _)] ⟨rfl, rfl, rfl, trivial⟩ [0] rfl [] rfl (Nat.zero_add _) ⟨rfl, trivial⟩ (fun left n cur hI => ?_)
  refine hseq <| hreg <| ?_
  refine hx (xh_next 0 rfl rfl (fun h0 => ?_) (fun j p hp => ?_))
  · obtain rfl : left = [] := List.map_eq_nil_iff.1 h0
    have hn : n = tot st.seen := by simpa [tot] using hI
    subst hn
    refine hy (fun _ => y_extract rfl rfl) <| hend <| hsub (ρ' := [(12, _), (3, _), (10, _), (2, _), (0, _)]) ⟨rfl, rfl, rfl, rfl, rfl, trivial⟩ <| hthen <| hseq <| ?_
    refine hiff rfl (rfl) ?_
    refine hexit <| hthen_exit <| hthen_exit <| hqblock_exit <| hthen <| hseq <| hreg <| hy (fun _ => y_move rfl) <| hy (fun _ => y_assign rfl) <| hend <| hsub (ρ' := [(2, _), (12, _), (3, _), (10, _), (0, _)]) ⟨rfl, rfl, rfl, rfl, rfl, trivial⟩ <| hthen <| hret <| ?_
    refine hmemQ (fun w m => m.rngEnd 0 rfl) ?_
    refine hmemQ (X' := RDisk g st :: _) (fun w m => (m.perm (takeR_perm [1, 0, 0, 0, 0] _ [_, _, _, _, _] _ rfl)).pack) ?_
    exact hret1 trivial rfl rfl [0] rfl [] rfl ⟨rfl, rfl, rfl⟩
  · obtain ⟨k, v⟩ := p
    obtain ⟨r, hr, e⟩ := vals_at hp
    obtain rfl : v = r.val := e
    have ht := tot_erase hr
    have hlt := (List.getElem?_eq_some_iff.1 hr).1
    simp only at ht
    refine hy (fun _ => y_extract rfl rfl) <| hend <| hsub (ρ' := [(12, _), (3, _), (10, _), (2, _), (0, _)]) ⟨rfl, rfl, rfl, rfl, rfl, trivial⟩ <| hthen <| hseq <| ?_
    refine hift rfl (rfl) ?_
    refine hcskip <| hthen <| hblock <| hseq <| hreg <| hy (fun m => y_entryM rfl (m.rngX 0 rfl)) <| hy (fun _ => yV (y_extract rfl rfl) ((rfl : _ = Value.slice r.A r.n r.c))) <| hy (fun _ => y_assign rfl) <| hend <| hsub (ρ' := [(5, _), (12, _), (3, _), (10, _), (2, _), (0, _)]) ⟨rfl, rfl, rfl, rfl, rfl, rfl, trivial⟩ <| hthen <| hreg <| hy (fun _ => y_move rfl) <| hy (fun _ => y_move rfl) <| hy (fun _ => y_lenS rfl Tryd.underlying32) <| hy (fun _ => y_add rfl rfl (w64 (by omega) (by omega))) <| hy (fun _ => y_assign rfl) <| hend <| hsub (ρ' := [(3, _), (5, _), (12, _), (10, _), (2, _), (0, _)]) ⟨rfl, rfl, rfl, rfl, rfl, rfl, trivial⟩ <| hqblock <| ?_
    refine hmemQ (fun w m => m.eqX 0 rfl (show _ = RRng SV r10 st.gs (vals st.seen) (vals (left.eraseIdx j)) (some (k, r.val)) from congrArg (fun q => RRng SV r10 st.gs (vals st.seen) q (some (k, r.val))) (vals_erase left j))) ?_
    refine hnext3 (left.eraseIdx j) (n + r.n) (some (k, r.val)) ⟨rfl, rfl, rfl, rfl, trivial⟩ [0, 0, 0, 0, 0] rfl [] rfl (by omega) (by rw [List.length_eraseIdx, if_pos hlt]; omega)
theorem aget_split {l : Files} (p : List UInt8) : (aget l p = none ∧ aget (vals l) p = none) ∨ ∃ r, aget l p = some r ∧ aget (vals l) p = some r.val := by
  rw [vals_get]
  cases aget l p with
  | none => exact .inl ⟨rfl, rfl⟩
  | some r => exact .inr ⟨r, rfl, rfl⟩
/-- why a file is not found -/
def foundE (st : DSt) (p : List UInt8) : Int := if st.power = 0 then 6 else if aget st.seen p = none then 4 else 0
theorem foundC {g : Nat} {st : DSt} {p : List UInt8} : Con Tryd.prog 118 [.pointer (some ⟨g, 0, none⟩), .string (strOf p)] [RDisk g st] [] (fun v_ X_ S_ => v_ = (.int .i64 (foundE st p)) ∧ X_ = [RDisk g st] ∧ S_ = []) := by
  have hf : foundE st p = foundE st p := rfl
  refine henter (N := 23) Tryd.func118 rfl rfl (by simp) fun b => ?_
  refine hmemC (fun w m => (m.perm (takeR_perm [0] _ [_] _ rfl)).unpack) ?_
  have hh : (aget (vals st.seen) p).isSome = decide (aget st.seen p ≠ none) := by
    rcases aget_split (l := st.seen) p with ⟨h1, h2⟩ | ⟨r, h1, h2⟩ <;> simp [h1, h2]
  refine hseq <| hreg <| hy (fun _ => y_assign rfl) <| hend <| hthen <| hseq <| hreg <| hy (fun _ => y_move rfl) <| hy (fun _ => y_nilp rfl) <| hy (fun _ => y_fld rfl fa146_1 (by decide)) <| hy (fun m => y_ld1 rfl ag143 (ld_blk (m.blk 0 rfl) rfl)) <| hy (fun _ => y_move rfl) <| hy (fun m => y_lookM (enc := SV) rfl rfl Tryd.underlying143 ti32 (strKey Tryd.underlying9) (m.mapX 1 rfl)) <| hy (fun _ => y_move rfl) <| hy (fun _ => y_extract rfl rfl) <| hy (fun _ => yV (y_extract rfl rfl) ((show Value.bool (aget (vals st.seen) p).isSome = .bool (decide (aget st.seen p ≠ none)) by rw [hh]))) <| hy (fun _ => y_assign rfl) <| hy (fun _ => y_assign rfl) <| hend <| hsub (ρ' := [(6, _), (4, _), (0, _), (1, _)]) ⟨rfl, rfl, rfl, rfl, trivial⟩ <| hthen <| hseq <| hblock <| hseq <| hreg <| ?_
  refine hmemL (X' := RDisk g st :: _) (fun w m => (m.perm (takeR_perm [0, 0, 0, 0, 0] _ [_, _, _, _, _] _ rfl)).pack) ?_
  refine hy (fun _ => y_move rfl) <| ?_
  refine hx (xh_call rfl Tryd.call124 (upC) [0] rfl [] rfl ?_)
  rintro _ _ _ ⟨rfl, rfl, rfl⟩
  refine hy (fun _ => y_notp rfl) <| hy (fun _ => y_assign rfl) <| hend <| hsub (ρ' := [(16, _), (6, _), (4, _), (0, _), (1, _)]) ⟨rfl, rfl, rfl, rfl, rfl, trivial⟩ <| hmemQ (X' := [_]) (S' := []) (fun _ m => m) <| hthen <| ?_
  refine hif rfl (fun h1 => ?_) (fun h1 => ?_)
  · refine hseq <| hreg <| hy (fun _ => y_assign rfl) <| hend <| hthen <| hret <| hqblock_ret <| hthen_ret <| ?_
    exact hret1 trivial rfl rfl [0] rfl [] rfl ⟨(by rw [foundE, if_pos (by omega)]), rfl, rfl⟩
  · refine hseq <| hreg <| hy (fun _ => y_move rfl) <| hy (fun _ => y_notp rfl) <| hy (fun _ => y_assign rfl) <| hend <| hsub (ρ' := [(20, _), (16, _), (6, _), (4, _), (0, _), (1, _)]) ⟨rfl, rfl, rfl, rfl, rfl, rfl, trivial⟩ <| hthen <| ?_
    refine hif rfl (fun h2 => ?_) (fun h2 => ?_)
    · refine hseq <| hreg <| hy (fun _ => y_assign rfl) <| hend <| hthen <| hret <| hqblock_ret <| hthen_ret <| ?_
      exact hret1 trivial rfl rfl [0] rfl [] rfl ⟨(by rw [foundE, if_neg (by omega), if_pos (Decidable.not_not.1 h2)]), rfl, rfl⟩
    · refine hcskip <| hqblock <| hthen <| hseq <| hreg <| hy (fun _ => y_assign rfl) <| hend <| hthen <| hret <| ?_
      exact hret1 trivial rfl rfl [0] rfl [] rfl ⟨(by rw [foundE, if_neg (by omega), if_neg (fun e => h2 (fun h => h e))]), rfl, rfl⟩
end Go.Proofs.YtfikjheicjamhaaDoor
end
section
/- Contracts: a disk's Read, Write, Sync. -/
set_option linter.unusedVariables false
set_option linter.unusedSimpArgs false
set_option maxRecDepth 20000
namespace Go.Proofs.YtfikjheicjamhaaDoor
open Go.Eng Go.Hx
theorem mem_seen {st : DSt} {p : List UInt8} {r : BRow} (h : aget st.seen p = some r) : r ∈ rowsOf st := by
  unfold rowsOf
  refine List.mem_append_left _ (List.mem_append_left _ ?_)
  exact List.mem_map.2 ⟨_, aget_mem h, rfl⟩
/-- what is read -/
def readB (st : DSt) (p : List UInt8) : List UInt8 := if foundE st p = 0 then ((aget st.seen p).map (·.l)).getD [] else []
theorem readB_no {st : DSt} {p : List UInt8} (h : foundE st p ≠ 0) : readB st p = [] := by rw [readB, if_neg h]
theorem readB_ok {st : DSt} {p : List UInt8} {r : BRow} (h : foundE st p = 0) (hr : aget st.seen p = some r) : readB st p = r.l := by rw [readB, if_pos h, hr]; rfl
theorem found_ok {st : DSt} {p : List UInt8} (h : foundE st p = 0) : ∃ r, aget st.seen p = some r := by
  unfold foundE at h
  split at h
  · omega
  · split at h
    · omega
    · rename_i h2
      cases hq : aget st.seen p with
      | none => exact absurd hq h2
      | some r => exact ⟨r, rfl⟩
def Small (st : DSt) : Prop := ∀ r ∈ rowsOf st, r.n ≤ 1000000000
theorem readC {g : Nat} {st : DSt} {p : List UInt8} (hs : Small st) : Con Tryd.prog 65 [.pointer (some ⟨g, 0, none⟩), .string (strOf p)] [RDisk g st] [] (fun v_ X_ S_ => ∃ v, v_ = (.tuple #[v, .int .i64 (foundE st p)]) ∧ X_ = [RDisk g st, ROwn 5 1 v (readB st p).length (b8s (readB st p))] ∧ S_ = []) := by
  refine henter (N := 20) Tryd.func65 rfl rfl (by simp) fun b => ?_
  refine hseq <| hreg <| hy (fun _ => y_assign rfl) <| hy (fun _ => y_assign rfl) <| hend <| hthen <| hseq <| hseq <| hreg <| hy (fun _ => y_move rfl) <| hy (fun _ => y_move rfl) <| ?_
  refine hx (xh_call rfl Tryd.call118 (foundC) [0] rfl [] rfl ?_)
  rintro _ _ _ ⟨rfl, rfl, rfl⟩
  refine hy (fun _ => y_assign rfl) <| hend <| hsub (ρ' := [(6, _), (5, _), (4, _), (0, _), (1, _)]) ⟨rfl, rfl, rfl, rfl, rfl, trivial⟩ <| hmemQ (X' := [_]) (S' := []) (fun _ m => m) <| hthen <| hseq <| hreg <| hy (fun _ => y_move rfl) <| hy (fun _ => y_neq rfl rfl) <| hend <| hsub (ρ' := [(11, _), (6, _), (5, _), (4, _), (0, _), (1, _)]) ⟨rfl, rfl, rfl, rfl, rfl, rfl, trivial⟩ <| hthen <| ?_
  refine hif rfl (fun h => ?_) (fun h => ?_)
  · rw [readB_no h]
    refine hseq <| hreg <| hy (fun _ => y_move rfl) <| hy (fun _ => y_assign rfl) <| hy (fun _ => y_assign rfl) <| hend <| hsub (ρ' := [(5, _), (4, _), (11, _), (6, _), (0, _), (1, _)]) ⟨rfl, rfl, rfl, rfl, rfl, rfl, trivial⟩ <| hthen <| hret <| hthen_ret <| ?_
    refine hmemQ (fun w m => m.addX (r' := ROwn 5 1 (.slice none 0 0) 0 []) (.refl _ _) (Own.nil _ _ _ _) (fun k hk => hk.elim)) ?_
    exact hret2 trivial rfl rfl rfl [1, 0] rfl [] rfl ⟨_, rfl, rfl, rfl⟩
  · have h0 := Decidable.not_not.1 h
    obtain ⟨r, hr⟩ := found_ok h0
    have hv : aget (vals st.seen) p = some r.val := by rw [vals_get, hr]; rfl
    rw [readB_ok h0 hr, h0]
    have hmem := mem_seen hr
    obtain ⟨i, hi⟩ := List.mem_iff_getElem?.1 hmem
    have hsm := hs r hmem
    refine hmemC (fun w m => (m.perm (takeR_perm [0] _ [_] _ rfl)).unpack) ?_
    refine hfactC (fun m => rdB ((View.ok (View.row hi)).1 _ (m.xres 4 rfl))) fun hrl => ?_
    have hrl := hrl.1
    refine hcskip <| hthen <| hseq <| hreg <| hy (fun _ => y_move rfl) <| hy (fun _ => y_nilp rfl) <| hy (fun _ => y_fld rfl fa146_1 (by decide)) <| hy (fun m => y_ld1 rfl ag143 (ld_blk (m.blk 0 rfl) rfl)) <| hy (fun _ => y_move rfl) <| hy (fun m => yV (y_lookM (enc := SV) rfl rfl Tryd.underlying143 ti32 (strKey Tryd.underlying9) (m.mapX 1 rfl)) ((show lookVal false (.slice none 0 0) (aget (vals st.seen) p) = .slice r.A r.n r.c by rw [hv]; rfl))) <| ?_
    refine hx (xh_calll rfl Tryd.call108 (cloneC (by omega)) [] rfl (.x 4 rfl (View.row hi) .nil) ?_)
    rintro _ _ _ ⟨v, rfl, rfl, rfl⟩
    refine ⟨rfl, ?_⟩
    refine hfactL (fun m => (m.own 0 rfl).slice) ?_
    rintro ⟨A_x, c_x, rfl, hc_x⟩
    refine hfactL (fun m => (m.ord 0 rfl).2.1) fun hA_x => ?_
    refine hy (fun _ => y_assign rfl) <| hy (fun _ => y_assign rfl) <| hend <| hsub (ρ' := [(5, _), (4, _), (11, _), (6, _), (0, _), (1, _)]) ⟨rfl, rfl, rfl, rfl, rfl, rfl, trivial⟩ <| hmemQ (X' := [_, _, _, _, _, _]) (S' := []) (fun _ m => m) <| hthen <| hret <| ?_
    refine hmemQ (X' := RDisk g st :: _) (fun w m => (m.perm (takeR_perm [1, 1, 1, 1, 1] _ [_, _, _, _, _] _ rfl)).pack) ?_
    exact hret2 trivial rfl rfl rfl [0, 0] rfl [] rfl ⟨_, rfl, (by rw [hrl]), rfl⟩
theorem wmakeC {g : Nat} {l : List (List UInt8 × Value)} {p : List UInt8} {r : BRow} : Con Tryd.prog 88 [.agg [SV p, r.val].toArray, .map (some g)] [RMap SV g l] [] (fun v_ X_ S_ => v_ = (.tuple #[]) ∧ X_ = [RMap SV g (aput l p r.val)] ∧ S_ = []) := by
  refine henter (N := 9) Tryd.func88 rfl rfl (by simp) fun b => ?_
  refine hseq <| hreg <| ?_
  refine hx (xh_box rfl (fun g2 => ?_))
  refine hend <| hmemQ (X' := [_, _]) (S' := []) (fun _ m => m) <| hthen <| hreg <| hy (fun _ => y_move rfl) <| hy (fun _ => y_fld rfl fa150_0 (by decide)) <| hy (fun m => y_ld1 rfl ag9 (ld_blk (m.blk 0 rfl) rfl)) <| hy (fun _ => y_fld rfl fa150_1 (by decide)) <| hy (fun m => y_ld1 rfl ag32 (ld_blk (m.blk 0 rfl) rfl)) <| ?_
  refine hx0 (xh_mapup (enc := SV) 1 rfl rfl rfl rfl Tryd.underlying143 (strKey Tryd.underlying9) ?_)
  refine hend <| hsub (ρ' := [(2, _), (0, _), (1, _)]) ⟨rfl, rfl, rfl, trivial⟩ <| hmemQ (X' := [_, _]) (S' := []) (fun _ m => m) <| ?_
  exact hret0 trivial rfl [0] rfl [] rfl ⟨rfl, rfl, rfl⟩
theorem aput_vals {l : Files} {p : List UInt8} {r x : BRow} (h : x ∈ (aput l p r).map (·.2)) : x ∈ l.map (·.2) ∨ x = r := by
  induction l with
  | nil => simp only [aput, List.map_cons, List.map_nil, List.mem_singleton] at h; exact .inr h
  | cons a q ih =>
    obtain ⟨k, u⟩ := a
    simp only [aput] at h
    split at h
    · simp only [List.map_cons, List.mem_cons] at h ⊢
      rcases h with rfl | h
      · exact .inr rfl
      · exact .inl (.inr h)
    · simp only [List.map_cons, List.mem_cons] at h ⊢
      rcases h with rfl | h
      · exact .inl (.inl rfl)
      · rcases ih h with h | h
        · exact .inl (.inr h)
        · exact .inr h
/-- behind a change: a file that is written -/
def DSt.wrote (st : DSt) (p : List UInt8) (r : BRow) (A : Option Addr) (c : Nat) : DSt := { st.spent with seen := aput st.seen p r, waits := st.waits ++ [.written p r], wA := A, wc := c }
theorem rows_wrote {st : DSt} {p : List UInt8} {r : BRow} {A : Option Addr} {c : Nat} : ∀ x ∈ rowsOf (st.wrote p r A c), x ∈ rowsOf st ∨ x = r := by
  intro x hx
  unfold rowsOf DSt.wrote at hx
  simp only [DSt.spent, List.mem_append, List.filterMap_append] at hx
  unfold rowsOf
  simp only [List.mem_append]
  rcases hx with (h | h) | h | h
  · rcases aput_vals h with h | h
    · exact .inl (.inl (.inl h))
    · exact .inr h
  · exact .inl (.inl (.inr h))
  · exact .inl (.inr h)
  · simp [Chg.row] at h
    exact .inr h
theorem rows_spent (st : DSt) : rowsOf st.spent = rowsOf st := rfl
theorem doWC {g : Nat} {st : DSt} {p : List UInt8} {r : BRow} {e : TypeId} (hp : st.power ≤ 1000000000000) (hw : st.waits.length ≤ 1000000) : Con Tryd.prog 126 [.pointer (some ⟨g, 0, none⟩), (Chg.written p r).val] [RDisk g st, ROwn e 1 (.slice r.A r.n r.c) r.n (b8s r.l)] [] (fun v_ X_ S_ => ∃ A c, v_ = (.tuple #[]) ∧ X_ = [RDisk g (st.wrote p r A c)] ∧ S_ = []) := by
  have hsw : st.spent.waits.length = st.waits.length := rfl
  refine henter (N := 25) Tryd.func126 rfl rfl (by simp) fun b => ?_
  refine hseq <| hreg <| hy (fun _ => y_move rfl) <| ?_
  refine hx (xh_call rfl Tryd.call127 (spendC (by omega)) [0] rfl [] rfl ?_)
  rintro _ _ _ ⟨rfl, rfl, rfl⟩
  refine hmemL (fun w m => (m.perm (takeR_perm [0] _ [_] _ rfl)).unpack) ?_
  refine hend <| hsub (ρ' := [(0, _), (1, _)]) ⟨rfl, rfl, trivial⟩ <| hmemQ (X' := [_, _, _, _, _, _]) (S' := []) (fun _ m => m) <| hthen <| hseq <| hdrw [8] [(0, some 0), (1, some 0), (2, some 0), (3, some 0), (4, some 0), (5, some 0), (6, some 0), (7, some 0), (8, none)] (by kernel_rfl) (by kernel_rfl) rfl 0 <| htyU (y_move rfl) <| htyU (y_move rfl) <| htyU (y_nilp rfl) <| htyU (y_fld rfl fa146_1 (by decide)) <| hty (fun m => y_ld1 rfl ag143 (ld_blk (m.blk 0 rfl) rfl)) <| htyU (y_mkf rfl rfl) <| htyU (y_nilm rfl (by kernel_rfl)) <| htyU (y_move rfl) <| ?_
  refine htx (xh_inv rfl rfl (fun w => by kernel_rfl) Tryd.call88 (wmakeC) [1] rfl [] rfl ?_)
  rintro _ _ _ ⟨rfl, rfl, rfl⟩
  refine ⟨(fun h => absurd h (by decide)), ?_⟩
  refine htend <| hsub (ρ' := [(0, _), (1, _)]) ⟨rfl, rfl, trivial⟩ <| hmemQ (X' := [_, _, _, _, _, _]) (S' := []) (fun _ m => m) <| hthen <| hreg <| hy (fun _ => y_move rfl) <| hy (fun _ => y_move rfl) <| hy (fun _ => y_nilp rfl) <| hy (fun _ => y_fld rfl fa146_3 (by decide)) <| hy (fun m => y_ld1 rfl ag144 (ld_blk (m.blk 1 rfl) rfl)) <| hy (fun _ => y_move rfl) <| ?_
  refine hx (xh_bsl Tryd.underlying144 ti148 rfl rfl rfl (by simp [Value.cells, Chg.val]) (by decide) (by decide) (fun g21 => ?_))
  have hA_b21 : 0 < 1 → (some (⟨g21, 0, none⟩ : Addr)) ≠ none := fun _ h => by cases h
  refine hmemL (fun w m => m.eqX 0 rfl (show _ = ROwn 148 1 (.slice (some ⟨g21, 0, none⟩) 1 1) 1 [(Chg.written p r).val] from rfl)) ?_
  refine hx (xh_app 4 rfl rfl rfl Tryd.underlying144 Tryd.underlying144 (by exact .inl rfl) ti148 rfl (fun m => Src.of_rd (m.ord 0 rfl)) (by simp [Chg.val, Value.oneCell']) (by unfold maxLen; omega) (by omega) (fun u => ?_))
  refine hfactL (fun m => (m.own 0 rfl).slice) ?_
  rintro ⟨A_d3, c_d3, rfl, hc_d3⟩
  refine hfactL (fun m => (m.ord 0 rfl).2.1) fun hA_d3 => ?_
  refine hy (fun _ => y_nilp rfl) <| hy (fun _ => y_fld rfl fa146_3 (by decide)) <| ?_
  refine hx0 (xh_st1a 3 rfl rfl rfl sz144 rfl (by first | exact Nat.le_of_ble_eq_true rfl | simp) ?_)
  refine hend <| hsub (ρ' := [(0, _), (1, _)]) ⟨rfl, rfl, trivial⟩ <| hmemQ (X' := [_, _, _, _, _, _, _]) (S' := []) (fun _ m => m) <| ?_
  refine hmemQ (fun w m => m.eqX 0 rfl (show _ = RBlk g 146 (dcells (st.wrote p r A_d3 c_d3)) from by simp [dcells, DSt.wrote, DSt.spent])) ?_
  refine hmemQ (fun w m => m.eqX 3 rfl (show _ = RMap SV st.gs (vals (st.wrote p r A_d3 c_d3).seen) from congrArg (RMap SV st.gs) (vals_put _ _ _))) ?_
  refine hmemQ (fun w m => m.eqX 2 rfl (show _ = ROwn 148 1 (.slice A_d3 (st.wrote p r A_d3 c_d3).waits.length c_d3) (st.wrote p r A_d3 c_d3).waits.length ((st.wrote p r A_d3 c_d3).waits.map Chg.val) from by simp [DSt.wrote, DSt.spent])) ?_
  refine hmemQ (X' := RRows (rowsOf (st.wrote p r A_d3 c_d3)) :: _) (fun w m => (m.perm (takeR_perm [5, 5] _ [_, _] _ rfl)).rowAdd (rows_wrote)) ?_
  refine hmemQ (X' := RDisk g (st.wrote p r A_d3 c_d3) :: _) (fun w m => (m.perm (takeR_perm [3, 2, 3, 1, 0] _ [_, _, _, _, _] _ rfl)).pack) ?_
  exact hret0 trivial rfl [0] rfl [] rfl ⟨_, _, rfl, rfl, rfl⟩
/-- what is told of a Write -/
def writeE (st : DSt) (p : List UInt8) (n : Nat) : Int := if ¬ Named p then 1 else if st.power = 0 then 6 else if st.room < (tot st.seen : Int) - (((aget st.seen p).map (·.n)).getD 0 : Nat) + n then 5 else 0
theorem tot_le : ∀ {l : Files} {m : Nat}, (∀ x ∈ l, x.2.n ≤ m) → tot l ≤ l.length * m
  | [], m, h => by simp [tot]
  | a :: q, m, h => by
    have := tot_le (l := q) (m := m) (fun x hx => h x (List.mem_cons_of_mem _ hx))
    have h1 := h a (List.mem_cons_self ..)
    simp only [tot, List.map_cons, List.sum_cons, List.length_cons, Nat.add_mul] at this ⊢
    omega
/-- what a disk is, in numbers -/
structure DOk (st : DSt) (k : Nat) : Prop where
  power : st.power ≤ 1000000000000
  room : st.room ≤ 1048576
  seen : st.seen.length ≤ k
  rest : st.lasts.length + st.waits.length ≤ k
  small : ∀ r ∈ rowsOf st, r.n ≤ 1048576
theorem DOk.le {st : DSt} {k k' : Nat} (h : DOk st k) (hk : k ≤ k') : DOk st k' := ⟨h.power, h.room, Nat.le_trans h.seen hk, Nat.le_trans h.rest hk, h.small⟩
theorem DOk.tot {st : DSt} {k : Nat} (h : DOk st k) : tot st.seen ≤ k * 1048576 := Nat.le_trans (tot_le (m := 1048576) (fun x hx => h.small _ (by unfold rowsOf; exact List.mem_append_left _ (List.mem_append_left _ (List.mem_map.2 ⟨x, hx, rfl⟩))))) (Nat.mul_le_mul_right _ h.seen)
theorem DOk.sm {st : DSt} {k : Nat} (h : DOk st k) : Small st := fun r hr => Nat.le_trans (h.small r hr) (by decide)
theorem DOk.init {n : Int} {gs gl : Nat} (h : n ≤ 1048576) : DOk (dinit n gs gl) 0 := ⟨by simp [dinit], h, Nat.le_refl _, Nat.le_refl _, fun r hr => by simp [rowsOf, dinit] at hr⟩
theorem aput_len (l : Files) (p : List UInt8) (r : BRow) : (aput l p r).length ≤ l.length + 1 := by
  induction l with
  | nil => simp [aput]
  | cons a q ih =>
    obtain ⟨k, u⟩ := a
    simp only [aput]
    split <;> simp only [List.length_cons] <;> omega
theorem adel_len (l : Files) (p : List UInt8) : (adel l p).length ≤ l.length := by
  induction l with
  | nil => simp [adel]
  | cons a q ih =>
    obtain ⟨k, u⟩ := a
    simp only [adel]
    split <;> simp only [List.length_cons] <;> omega
theorem spent_power {st : DSt} (h : st.power ≤ 1000000000000) : st.spent.power ≤ 1000000000000 := by
  simp only [DSt.spent]
  split <;> omega
theorem DOk.wrote {st : DSt} {k : Nat} (h : DOk st k) {p : List UInt8} {r : BRow} (hr : r.n ≤ 1048576) (A : Option Addr) (c : Nat) : DOk (st.wrote p r A c) (k + 1) := by
  refine ⟨spent_power h.power, h.room, ?_, ?_, fun x hx => ?_⟩
  · have := aput_len st.seen p r
    have := h.seen
    show (aput st.seen p r).length ≤ k + 1
    omega
  · have := h.rest
    show st.lasts.length + (st.waits ++ [Chg.written p r]).length ≤ k + 1
    simp only [List.length_append, List.length_cons, List.length_nil]
    omega
  · rcases rows_wrote x hx with h' | rfl
    · exact h.small x h'
    · exact hr
theorem writeC {g : Nat} {st : DSt} {p : List UInt8} {A : Option Addr} {n c : Nat} {l : List UInt8} {k : Nat} (ok : DOk st k) (hk : k ≤ 100000) (hn : n ≤ 1048576) : Con Tryd.prog 79 [.pointer (some ⟨g, 0, none⟩), .string (strOf p), .slice A n c] [RDisk g st] [RRd 1 A n (b8s l)] (fun v_ X_ S_ => ∃ st1 B c1 A1 c2, v_ = (.int .i64 (writeE st p n)) ∧ X_ = [RDisk g st1] ∧ S_ = [] ∧ ((writeE st p n ≠ 0 ∧ st1 = st) ∨ (writeE st p n = 0 ∧ st1 = st.wrote p ⟨B, n, c1, l⟩ A1 c2))) := by
  have hp := ok.power
  have hw : st.waits.length ≤ 1000000 := by have := ok.rest; omega
  have ht : tot st.seen ≤ 1000000000000 := by have := ok.tot; omega
  have hs := ok.sm
  refine henter (N := 41) Tryd.func79 rfl rfl (by simp) fun b => ?_
  refine hfactC (fun m => rdB (m.rd 0 rfl)) ?_
  rintro ⟨hl_r, hA_r⟩
  refine hseq <| hreg <| hy (fun _ => y_assign rfl) <| hend <| hthen <| hseq <| hblock <| hseq <| hreg <| hy (fun _ => y_move rfl) <| ?_
  refine hx (xh_call rfl Tryd.call123 (namedC) [] rfl [] rfl ?_)
  rintro _ _ _ ⟨rfl, rfl, rfl⟩
  refine hy (fun _ => y_notp rfl) <| hy (fun _ => y_assign rfl) <| hend <| hsub (ρ' := [(7, _), (6, _), (0, _), (1, _), (2, _)]) ⟨rfl, rfl, rfl, rfl, rfl, trivial⟩ <| hmemQ (X' := [_]) (S' := [_]) (fun _ m => m) <| hthen <| ?_
  refine hif rfl (fun h1 => ?_) (fun h1 => ?_)
  · have e : writeE st p n = 1 := by rw [writeE, if_pos h1]
    rw [e]
    refine hseq <| hreg <| hy (fun _ => y_assign rfl) <| hend <| hthen <| hret <| hqblock_ret <| hthen_ret <| ?_
    exact hret1 trivial rfl rfl [0] rfl [] rfl ⟨_, none, 0, none, 0, rfl, rfl, rfl, .inl ⟨by decide, rfl⟩⟩
  · refine hseq <| hreg <| hy (fun _ => y_move rfl) <| ?_
    refine hx (xh_call rfl Tryd.call124 (upC) [0] rfl [] rfl ?_)
    rintro _ _ _ ⟨rfl, rfl, rfl⟩
    refine hy (fun _ => y_notp rfl) <| hy (fun _ => y_assign rfl) <| hend <| hsub (ρ' := [(11, _), (7, _), (6, _), (0, _), (1, _), (2, _)]) ⟨rfl, rfl, rfl, rfl, rfl, rfl, trivial⟩ <| hmemQ (X' := [_]) (S' := [_]) (fun _ m => m) <| hthen <| ?_
    refine hif rfl (fun h2 => ?_) (fun h2 => ?_)
    · have e : writeE st p n = 6 := by rw [writeE, if_neg h1, if_pos (by omega)]
      rw [e]
      refine hseq <| hreg <| hy (fun _ => y_assign rfl) <| hend <| hthen <| hret <| hqblock_ret <| hthen_ret <| ?_
      exact hret1 trivial rfl rfl [0] rfl [] rfl ⟨_, none, 0, none, 0, rfl, rfl, rfl, .inl ⟨by decide, rfl⟩⟩
    · have hwe : writeE st p n = if st.room < (tot st.seen : Int) - (((aget st.seen p).map (·.n)).getD 0 : Nat) + n then 5 else 0 := by rw [writeE, if_neg h1, if_neg (by omega)]
      have hv : ∃ B m c0, lookVal false (.slice none 0 0) (aget (vals st.seen) p) = .slice B m c0 ∧ m = ((aget st.seen p).map (·.n)).getD 0 ∧ m ≤ 1000000000 := by
        rw [vals_get]
        cases hq : aget st.seen p with
        | none => exact ⟨none, 0, 0, rfl, rfl, by decide⟩
        | some r => exact ⟨r.A, r.n, r.c, rfl, rfl, hs r (mem_seen hq)⟩
      obtain ⟨B, m, c0, hv1, hv2, hv3⟩ := hv
      rw [← hv2] at hwe
      refine hseq <| hdrw [1] [(0, some 0), (2, some 1), (3, some 1), (4, some 1), (5, some 1), (6, some 1), (7, some 1), (8, some 1), (10, some 1), (11, some 1), (13, some 1), (14, some 1), (15, some 1), (16, some 1), (1, none), (9, some 1), (12, some 1), (17, some 1), (18, some 1)] (by kernel_rfl) (by kernel_rfl) rfl 99 <| htyU (y_move rfl) <| htyU (y_move rfl) <| htyU (y_nilp rfl) <| htyU (y_fld rfl fa146_1 (by decide)) <| hty (fun m => y_ld1 rfl ag143 (ld_blk (show Blk _ _ _ _ from m.inP 0 rfl 0 rfl) rfl)) <| htyU (y_move rfl) <| hty (fun m => yV (y_lookM (enc := SV) rfl rfl Tryd.underlying143 ti32 (strKey Tryd.underlying9) (show MapAt _ _ _ _ from m.inP 0 rfl 1 rfl)) (hv1)) <| htyU (y_lenS rfl Tryd.underlying32) <| htyU (y_move rfl) <| htyU (y_lenS rfl Tryd.underlying32) <| htyU (y_move rfl) <| htyU (y_nilp rfl) <| htyU (y_fld rfl fa146_0 (by decide)) <| hty (fun m => y_ld1 rfl ag3 (ld_blk (show Blk _ _ _ _ from m.inP 0 rfl 0 rfl) rfl)) <| ?_
      refine htx (xh_call rfl Tryd.call125 (usedC (by omega)) [0] rfl [] rfl ?_)
      rintro _ _ _ ⟨rfl, rfl, rfl⟩
      refine ⟨(fun _ => wk [0] [0] rfl rfl), ?_⟩
      refine htyU (y_sub rfl rfl (w64 (by omega) (by omega))) <| htyU (y_add rfl rfl (w64 (by omega) (by omega))) <| htyU (y_gtr rfl rfl) <| htyU (y_assign rfl) <| htend <| hsub (ρ' := [(15, _), (11, _), (7, _), (6, _), (0, _), (1, _), (2, _)]) ⟨rfl, rfl, rfl, rfl, rfl, rfl, rfl, trivial⟩ <| hmemQ (X' := [_]) (S' := [_]) (fun _ m => m) <| hthen <| ?_
      refine hif rfl (fun h3 => ?_) (fun h3 => ?_)
      · rw [if_pos (by omega)] at hwe
        rw [hwe]
        refine hseq <| hreg <| hy (fun _ => y_assign rfl) <| hend <| hthen <| hret <| hqblock_ret <| hthen_ret <| ?_
        exact hret1 trivial rfl rfl [0] rfl [] rfl ⟨_, none, 0, none, 0, rfl, rfl, rfl, .inl ⟨by decide, rfl⟩⟩
      · rw [if_neg (by omega)] at hwe
        rw [hwe]
        refine hcskip <| hqblock <| hthen <| hseq <| hreg <| hy (fun _ => y_move rfl) <| hy (fun _ => y_move rfl) <| hy (fun _ => y_move rfl) <| ?_
        refine hx (xh_call rfl Tryd.call108 (cloneC (by omega)) [] rfl [0] rfl ?_)
        rintro _ _ _ ⟨v, rfl, rfl, rfl⟩
        refine hfactL (fun m => (m.own 0 rfl).slice) ?_
        rintro ⟨A_x, c_x, rfl, hc_x⟩
        refine hfactL (fun m => (m.ord 0 rfl).2.1) fun hA_x => ?_
        refine hy (fun _ => yV (y_build ti150 rfl rfl (by kernel_rfl) (.cons (o := 0) (sz := 1) (by kernel_rfl) rfl rfl (Nat.le_of_ble_eq_true rfl) (.cons (o := 1) (sz := 1) (by kernel_rfl) rfl rfl (Nat.le_of_ble_eq_true rfl) .nil))) ((rfl : _ = Value.agg [SV p, Value.slice A_x n c_x].toArray))) <| hy (fun _ => y_mki rfl Tryd.underlying150 (fun _ h => by cases h)) <| ?_
        refine hx (xh_call rfl Tryd.call126 (doWC (by omega) (by omega) (r := ⟨A_x, n, c_x, l⟩)) [1, 0] rfl [] rfl ?_)
        rintro _ _ _ ⟨A2, c2, rfl, rfl, rfl⟩
        refine hend <| hsub (ρ' := [(15, _), (11, _), (7, _), (6, _), (0, _), (1, _), (2, _)]) ⟨rfl, rfl, rfl, rfl, rfl, rfl, rfl, trivial⟩ <| hmemQ (X' := [_]) (S' := [_]) (fun _ m => m) <| hthen <| hseq <| hreg <| hy (fun _ => y_assign rfl) <| hend <| hthen <| hret <| ?_
        exact hret1 trivial rfl rfl [0] rfl [] rfl ⟨_, _, _, _, _, rfl, rfl, rfl, .inr ⟨rfl, rfl⟩⟩
theorem mcloneC {g : Nat} {l : List (List UInt8 × Value)} : Con Tryd.prog 89 [.map (some g)] [RMap SV g l] [] (fun v_ X_ S_ => ∃ g1, v_ = (.map (some g1)) ∧ X_ = [RMap SV g l, RMap SV g1 l] ∧ S_ = []) := by
  refine henter (N := 9) Tryd.func89 rfl rfl (by simp) fun b => ?_
  refine hseq <| hreg <| hy (fun _ => y_assign rfl) <| hend <| hthen <| hseq <| hseq <| hreg <| hy (fun _ => y_move rfl) <| hy (fun _ => y_eqMn rfl rfl Tryd.underlying143) <| hend <| hsub (ρ' := [(4, _), (2, _), (0, _)]) ⟨rfl, rfl, rfl, trivial⟩ <| hthen <| ?_
  refine hiff rfl (rfl) ?_
  refine hcskip <| hthen <| hseq <| hreg <| hy (fun _ => y_move rfl) <| hy (fun _ => y_mki rfl Tryd.underlying143 (fun _ h => by cases h)) <| ?_
  refine hx (xh_mclone 0 rfl rfl Tryd.func134 (by kernel_rfl) (by kernel_rfl) (by kernel_rfl) (by kernel_rfl) (fun g1 => ?_))
  refine hy (fun _ => y_tas rfl (show _ = Result.ok (Value.map (some g1)) _ by kernel_rfl)) <| hy (fun _ => y_assign rfl) <| hend <| hsub (ρ' := [(2, _), (4, _), (0, _)]) ⟨rfl, rfl, rfl, trivial⟩ <| hmemQ (X' := [_, _]) (S' := []) (fun _ m => m) <| hthen <| hret <| ?_
  exact hret1 trivial rfl rfl [1, 0] rfl [] rfl ⟨_, rfl, rfl, rfl⟩
/-- behind a Sync -/
def DSt.synced (st : DSt) (gl : Nat) : DSt := { st.spent with gl := gl, lasts := st.seen, waits := [], wA := none, wc := 0 }
def syncE (st : DSt) : Int := if st.power = 0 then 6 else 0
theorem rows_synced {st : DSt} {gl : Nat} : ∀ x ∈ rowsOf (st.synced gl), x ∈ rowsOf st := by
  intro x hx
  unfold rowsOf DSt.synced at hx
  simp only [DSt.spent, List.filterMap_nil, List.append_nil, List.mem_append, or_self] at hx
  unfold rowsOf
  exact List.mem_append_left _ (List.mem_append_left _ hx)
theorem DOk.synced {st : DSt} {k : Nat} (h : DOk st k) (gl : Nat) : DOk (st.synced gl) k :=
  ⟨spent_power h.power, h.room, h.seen, by show st.seen.length + 0 ≤ k; have := h.seen; omega, fun x hx => h.small x (rows_synced x hx)⟩
theorem syncC {g : Nat} {st : DSt} {k : Nat} (ok : DOk st k) : Con Tryd.prog 81 [.pointer (some ⟨g, 0, none⟩)] [RDisk g st] [] (fun v_ X_ S_ => ∃ st1 gl, v_ = (.int .i64 (syncE st)) ∧ X_ = [RDisk g st1] ∧ S_ = [] ∧ ((st.power = 0 ∧ st1 = st) ∨ (st.power ≠ 0 ∧ st1 = st.synced gl))) := by
  refine henter (N := 19) Tryd.func81 rfl rfl (by simp) fun b => ?_
  refine hseq <| hreg <| hy (fun _ => y_assign rfl) <| hend <| hthen <| hseq <| hseq <| hreg <| hy (fun _ => y_move rfl) <| ?_
  refine hx (xh_call rfl Tryd.call124 (upC) [0] rfl [] rfl ?_)
  rintro _ _ _ ⟨rfl, rfl, rfl⟩
  refine hy (fun _ => y_notp rfl) <| hend <| hsub (ρ' := [(5, _), (2, _), (0, _)]) ⟨rfl, rfl, rfl, trivial⟩ <| hmemQ (X' := [_]) (S' := []) (fun _ m => m) <| hthen <| ?_
  refine hif rfl (fun h1 => ?_) (fun h1 => ?_)
  · have h0 : st.power = 0 := Decidable.not_not.1 h1
    have e : syncE st = 6 := by rw [syncE, if_pos h0]
    rw [e]
    refine hseq <| hreg <| hy (fun _ => y_assign rfl) <| hend <| hthen <| hret <| hthen_ret <| ?_
    exact hret1 trivial rfl rfl [0] rfl [] rfl ⟨_, 0, rfl, rfl, rfl, .inl ⟨h0, rfl⟩⟩
  · have h0 : st.power ≠ 0 := fun e => h1 (fun h => h e)
    have e : syncE st = 0 := by rw [syncE, if_neg h0]
    rw [e]
    have hp := ok.power
    refine hcskip <| hthen <| hseq <| hreg <| hy (fun _ => y_move rfl) <| ?_
    refine hx (xh_call rfl Tryd.call127 (spendC (by omega)) [0] rfl [] rfl ?_)
    rintro _ _ _ ⟨rfl, rfl, rfl⟩
    refine hmemL (fun w m => (m.perm (takeR_perm [0] _ [_] _ rfl)).unpack) ?_
    refine hend <| hsub (ρ' := [(5, _), (2, _), (0, _)]) ⟨rfl, rfl, rfl, trivial⟩ <| hmemQ (X' := [_, _, _, _, _]) (S' := []) (fun _ m => m) <| hthen <| hseq <| hreg <| hy (fun _ => y_move rfl) <| hy (fun _ => y_move rfl) <| hy (fun _ => y_move rfl) <| hy (fun _ => y_nilp rfl) <| hy (fun _ => y_fld rfl fa146_1 (by decide)) <| hy (fun m => y_ld1 rfl ag143 (ld_blk (m.blk 0 rfl) rfl)) <| ?_
    refine hx (xh_call rfl Tryd.call89 (mcloneC) [1] rfl [] rfl ?_)
    rintro _ _ _ ⟨g1, rfl, rfl, rfl⟩
    refine hy (fun _ => y_nilp rfl) <| hy (fun _ => y_fld rfl fa146_2 (by decide)) <| ?_
    refine hx0 (xh_st1a 2 rfl rfl rfl sz143 rfl (by first | exact Nat.le_of_ble_eq_true rfl | simp) ?_)
    refine hy (fun _ => y_nilp rfl) <| hy (fun _ => y_fld rfl fa146_3 (by decide)) <| ?_
    refine hx0 (xh_st1a 0 rfl rfl rfl sz144 rfl (by first | exact Nat.le_of_ble_eq_true rfl | simp) ?_)
    refine hend <| hsub (ρ' := [(5, _), (2, _), (0, _)]) ⟨rfl, rfl, rfl, trivial⟩ <| hmemQ (X' := [_, _, _, _, _, _]) (S' := []) (fun _ m => m) <| hthen <| hseq <| hreg <| hy (fun _ => y_assign rfl) <| hend <| hthen <| hret <| ?_
    refine hmemQ (fun w m => m.addX (r' := ROwn 148 1 (.slice none 0 0) 0 []) (.refl _ _) (Own.nil _ _ _ _) (fun k hk => hk.elim)) ?_
    refine hmemQ (fun w m => Mem.dropX' (X := [_]) (m.perm (takeR_perm [4] _ [_] _ rfl))) ?_
    refine hmemQ (fun w m => Mem.dropX' (X := [_]) (m.perm (takeR_perm [4] _ [_] _ rfl))) ?_
    refine hmemQ (fun w m => m.eqX 1 rfl (show _ = RBlk g 146 (dcells (st.synced g1)) from rfl)) ?_
    refine hmemQ (X' := RRows (rowsOf (st.synced g1)) :: _) (fun w m => (m.perm (takeR_perm [4] _ [_] _ rfl)).rowSub (rows_synced)) ?_
    refine hmemQ (X' := RDisk g (st.synced g1) :: _) (fun w m => (m.perm (takeR_perm [1, 2, 2, 1, 0] _ [_, _, _, _, _] _ rfl)).pack) ?_
    exact hret1 trivial rfl rfl [0] rfl [] rfl ⟨_, _, rfl, rfl, rfl, .inr ⟨h0, rfl⟩⟩
end Go.Proofs.YtfikjheicjamhaaDoor
end
section
/- Contracts: a disk's Restart, where only files that were written wait. -/
set_option linter.unusedVariables false
set_option linter.unusedSimpArgs false
set_option maxRecDepth 20000
namespace Go.Proofs.YtfikjheicjamhaaDoor
open Go.Eng Go.Hx
def bools (l : List Bool) : List Value := l.map Value.bool
theorem nextBitC {g n c : Nat} {A : Option Addr} {bs : List Bool} (hc : n ≤ c) : Con Tryd.prog 87 [.pointer (some ⟨g, 0, none⟩)] [RBlk g 72 [.slice A n c]] [RRd 1 A n (bools bs)] (fun v_ X_ S_ => ∃ A1 n1 c1, v_ = (.bool (bs.headD false)) ∧ X_ = [RBlk g 72 [.slice A1 n1 c1]] ∧ S_ = [RRd 1 A1 n1 (bools bs.tail)] ∧ (n1 ≤ c1)) := by
  refine henter (N := 12) Tryd.func87 rfl rfl (by simp) fun b => ?_
  refine hfactC (fun m => rdX (m.rd 0 rfl)) ?_
  rintro ⟨hl_r, hA_r⟩
  have hbl : bs.length = n := by simpa [bools] using hl_r
  refine hseq <| hreg <| hy (fun _ => y_assign rfl) <| hend <| hthen <| hseq <| hseq <| hreg <| hy (fun m => y_ld1 rfl ag72 (ld_blk (m.blk 0 rfl) rfl)) <| hy (fun _ => y_lenS rfl Tryd.underlying72) <| hy (fun _ => y_eql rfl rfl) <| hend <| hsub (ρ' := [(5, _), (1, _), (0, _)]) ⟨rfl, rfl, rfl, trivial⟩ <| hthen <| ?_
  refine hif rfl (fun h => ?_) (fun h => ?_)
  · obtain rfl : bs = [] := List.eq_nil_of_length_eq_zero (by omega)
    refine hseq <| hreg <| hy (fun _ => y_assign rfl) <| hend <| hthen <| hret <| hthen_ret <| ?_
    refine hmemQ (fun w m => m.asV 0 rfl .same) ?_
    refine hfactQ (fun m => rdX (m.rd 0 rfl)) ?_
    rintro ⟨hl_q, hA_q⟩
    exact hret1 trivial rfl rfl [0] rfl [0] rfl ⟨_, _, _, rfl, rfl, rfl, hc⟩
  · obtain ⟨b1, t, rfl⟩ : ∃ b1 t, bs = b1 :: t := by
      cases bs with
      | nil => simp at hbl; omega
      | cons b1 t => exact ⟨b1, t, rfl⟩
    refine hmemC (fun w m => m.asV 0 rfl (View.dropV (k := 1) hc (by omega))) ?_
    refine hfactC (fun m => rdX (m.rd 0 rfl)) ?_
    rintro ⟨hl_q, hA_q⟩
    refine hcskip <| hthen <| hseq <| hreg <| hy (fun m => y_ld1 rfl ag72 (ld_blk (m.blk 0 rfl) rfl)) <| hy (fun _ => y_idxS1 rfl rfl Tryd.underlying72 sz4 hA_r (show ((0 : Nat) : Int) = 0 from rfl) (by omega)) <| hy (fun m => y_ld1 rfl ag4 ((m.rd 1 rfl).cell (j := 0) rfl)) <| hy (fun _ => y_assign rfl) <| hend <| hsub (ρ' := [(2, _), (5, _), (1, _), (0, _)]) ⟨rfl, rfl, rfl, rfl, trivial⟩ <| hthen <| hseq <| hreg <| hy (fun m => y_ld1 rfl ag72 (ld_blk (m.blk 0 rfl) rfl)) <| hy (fun _ => y_slFrom rfl rfl Tryd.underlying72 sz4 (show ((1 : Nat) : Int) = 1 from rfl) (by omega)) <| ?_
    refine hx0 (xh_st1 0 rfl rfl rfl sz72 rfl (by first | exact Nat.le_of_ble_eq_true rfl | simp) ?_)
    refine hend <| hsub (ρ' := [(2, _), (5, _), (1, _), (0, _)]) ⟨rfl, rfl, rfl, rfl, trivial⟩ <| hmemQ (X' := [_]) (S' := [_, _]) (fun _ m => m) <| hthen <| hseq <| hreg <| hy (fun _ => y_move rfl) <| hy (fun _ => y_assign rfl) <| hend <| hsub (ρ' := [(1, _), (2, _), (5, _), (0, _)]) ⟨rfl, rfl, rfl, rfl, trivial⟩ <| hthen <| hret <| ?_
    exact hret1 trivial rfl rfl [0] rfl [0] rfl ⟨_, _, _, rfl, rfl, rfl, (by omega)⟩
/-- one change that waits, at a restart: the bits that are left, and the files -/
def rstep (st : List Bool × Files) (c : Chg) : List Bool × Files :=
  if st.1.headD false then
    match c with
    | .written p r => (st.1.tail.tail, aput st.2 p (if st.1.tail.headD false then r else r.half))
    | .renamed a b => (st.1.tail, match aget st.2 a with
      | none => st.2
      | some r => aput (adel st.2 a) b r)
    | .removed p => (st.1.tail, adel st.2 p)
  else (st.1.tail, st.2)
def rfold (keep : List Bool) (st : DSt) (i : Nat) : List Bool × Files := (st.waits.take i).foldl rstep (keep, st.lasts)
theorem rfold_succ {keep : List Bool} {st : DSt} {i : Nat} {c : Chg} (h : st.waits[i]? = some c) : rfold keep st (i + 1) = rstep (rfold keep st i) c := by
  unfold rfold
  obtain ⟨hi, rfl⟩ := List.getElem?_eq_some_iff.1 h
  rw [List.take_succ_eq_append_getElem hi, List.foldl_append]
  rfl
def Half (rows : List BRow) (r : BRow) : Prop := ∃ q ∈ rows, r = q ∨ ∃ k, k ≤ q.n ∧ r = ⟨q.A, k, q.c, q.l.take k⟩
theorem rfold_rows {keep : List Bool} {st : DSt} (i : Nat) : ∀ r ∈ (rfold keep st i).2.map (·.2), Half (rowsOf st) r := by
  have base : ∀ r ∈ st.lasts.map (·.2), Half (rowsOf st) r := fun r hr => ⟨r, by unfold rowsOf; exact List.mem_append_left _ (List.mem_append_right _ hr), .inl rfl⟩
  have adel_vals : ∀ {l : Files} {p : List UInt8} {x : BRow}, x ∈ (adel l p).map (·.2) → x ∈ l.map (·.2) := fun {l p x} h => by
    induction l with
    | nil => exact h
    | cons a q ih =>
      obtain ⟨k, u⟩ := a
      simp only [adel] at h
      split at h
      · exact List.mem_cons_of_mem _ h
      · simp only [List.map_cons, List.mem_cons] at h ⊢
        rcases h with rfl | h
        · exact .inl rfl
        · exact .inr (ih h)
  induction i with
  | zero => intro r hr; exact base r (by simpa [rfold] using hr)
  | succ i ih =>
    cases hc : st.waits[i]? with
    | none =>
      have : rfold keep st (i + 1) = rfold keep st i := by
        unfold rfold
        have := List.getElem?_eq_none_iff.1 hc
        rw [List.take_of_length_le (by omega), List.take_of_length_le this]
      rw [this]
      exact ih
    | some c =>
      rw [rfold_succ hc]
      have hcm := List.mem_of_getElem? hc
      intro r hr
      unfold rstep at hr
      split at hr
      · cases c with
        | written p q =>
          have hq : q ∈ rowsOf st := by
            unfold rowsOf
            exact List.mem_append_right _ (List.mem_filterMap.2 ⟨_, hcm, rfl⟩)
          rcases aput_vals hr with h | h
          · exact ih r h
          · rw [h]
            split
            · exact ⟨q, hq, .inl rfl⟩
            · exact ⟨q, hq, .inr ⟨q.n / 2, by omega, rfl⟩⟩
        | renamed a b =>
          simp only at hr
          split at hr
          · exact ih r hr
          · rename_i u hu
            rcases aput_vals hr with h | h
            · exact ih r (adel_vals h)
            · rw [h]; exact ih u (List.mem_map.2 ⟨_, aget_mem hu, rfl⟩)
        | removed p => exact ih r (adel_vals hr)
      · exact ih r hr
/-- behind a restart -/
def DSt.started (st : DSt) (keep : List Bool) (gs : Nat) : DSt :=
  let L := (rfold keep st st.waits.length).2
  { st with gs := gs, seen := L, lasts := L, waits := [], wA := none, wc := 0, power := -1 }
theorem rows_started {st : DSt} {keep : List Bool} (gs : Nat) : ∀ r ∈ rowsOf (st.started keep gs), Half (rowsOf st) r := by
  intro r hr
  unfold rowsOf DSt.started at hr
  simp only [List.filterMap_nil, List.append_nil, List.mem_append, or_self] at hr
  exact rfold_rows _ r hr
theorem rfold_len (keep : List Bool) (st : DSt) (i : Nat) : (rfold keep st i).2.length ≤ st.lasts.length + i := by
  induction i with
  | zero => simp [rfold]
  | succ i ih =>
    cases hc : st.waits[i]? with
    | none =>
      have : rfold keep st (i + 1) = rfold keep st i := by
        unfold rfold
        have := List.getElem?_eq_none_iff.1 hc
        rw [List.take_of_length_le (by omega), List.take_of_length_le this]
      rw [this]; omega
    | some c =>
      rw [rfold_succ hc]
      unfold rstep
      split
      · cases c with
        | written p r =>
          have := aput_len (rfold keep st i).2 p (if (rfold keep st i).1.tail.headD false then r else r.half)
          show (aput _ _ _).length ≤ _
          omega
        | renamed a b =>
          simp only
          split
          · omega
          · rename_i u hu
            have h1 := aput_len (adel (rfold keep st i).2 a) b u
            have h2 := adel_len (rfold keep st i).2 a
            omega
        | removed p =>
          have h2 := adel_len (rfold keep st i).2 p
          show (adel _ _).length ≤ _
          omega
      · show (rfold keep st i).2.length ≤ _
        omega
theorem DOk.started {st : DSt} {k : Nat} (h : DOk st k) (keep : List Bool) (gs : Nat) : DOk (st.started keep gs) k := by
  have hl := rfold_len keep st st.waits.length
  have hr := h.rest
  refine ⟨by show (-1 : Int) ≤ _; omega, h.room, ?_, ?_, fun x hx => ?_⟩
  · show (rfold keep st st.waits.length).2.length ≤ k
    omega
  · show (rfold keep st st.waits.length).2.length + 0 ≤ k
    omega
  · obtain ⟨q, hq, rfl | ⟨j, hj, rfl⟩⟩ := rows_started gs x hx
    · exact h.small _ hq
    · exact Nat.le_trans hj (h.small q hq)
def Wr (st : DSt) : Prop := ∀ c ∈ st.waits, ∃ p r, c = .written p r
theorem restartC {g : Nat} {st : DSt} {A : Option Addr} {n c : Nat} {bs : List Bool} (hc : n ≤ c) (hW : Wr st) (hs : Small st) (hw : st.waits.length ≤ 1000000) : Con Tryd.prog 33 [.pointer (some ⟨g, 0, none⟩), .slice A n c] [RDisk g st] [RRd 1 A n (bools bs)] (fun v_ X_ S_ => ∃ gs, v_ = (.tuple #[]) ∧ X_ = [RDisk g (st.started bs gs)] ∧ S_ = []) := by
  refine henter (N := 67) Tryd.func33 rfl rfl (by simp) fun b => ?_
  refine hfactC (fun m => rdX (m.rd 0 rfl)) ?_
  rintro ⟨hl_r, hA_r⟩
  refine hmemC (fun w m => (m.perm (takeR_perm [0] _ [_] _ rfl)).unpack) ?_
  refine hfactC (fun m => (m.ord 3 rfl).2.1) fun hwA => ?_
  refine hseq <| hreg <| ?_
  refine hx (xh_box rfl (fun g3 => ?_))
  refine hend <| hmemQ (X' := [_, _, _, _, _, _]) (S' := [_]) (fun _ m => m) <| hthen <| hseq <| hreg <| hy (fun _ => y_mkf rfl rfl) <| hy (fun _ => y_assign rfl) <| hend <| hsub (ρ' := [(4, _), (3, _), (0, _), (1, _)]) ⟨rfl, rfl, rfl, rfl, trivial⟩ <| hthen <| hseq <| hseq <| hreg <| hy (fun _ => y_move rfl) <| hy (fun _ => y_nilp rfl) <| hy (fun _ => y_fld rfl fa146_3 (by decide)) <| hy (fun m => y_ld1 rfl ag144 (ld_blk (m.blk 1 rfl) rfl)) <| hy (fun _ => y_lenS rfl Tryd.underlying144) <| hy (fun _ => y_move rfl) <| hend <| hsub (ρ' := [(15, _), (14, _), (13, _), (4, _), (3, _), (0, _), (1, _)]) ⟨rfl, rfl, rfl, rfl, rfl, rfl, rfl, trivial⟩ <| hthen <| hblock <| ?_
  refine hloop6 (fun i ks L A1 n1 c1 => st.waits.length - i) (fun i ks L A1 n1 c1 => [(15, .int .i64 (i : Nat))]) (fun i ks L A1 n1 c1 => [RBlk g3 72 [.slice A1 n1 c1], RMap SV st.gl (vals L)]) (fun i ks L A1 n1 c1 => [RRd 1 A1 n1 (bools ks)]) (fun i ks L A1 n1 c1 => n1 ≤ c1 ∧ i ≤ st.waits.length ∧ (ks, L) = rfold bs st i) 0 bs st.lasts A n c [(14, _), (13, _), (4, _), (3, _), (0, _), (1, _)] ⟨rfl, rfl, rfl, rfl, rfl, rfl, trivial⟩ [0, 2] rfl [0] rfl (⟨hc, Nat.zero_le _, by simp [rfold]⟩) ⟨rfl, trivial⟩ (fun i ks L A1 n1 c1 ⟨hc1, hi, hf⟩ => ?_)
  refine hseq <| hreg <| hy (fun _ => y_lss rfl rfl) <| hend <| hthen <| hseq <| ?_
  refine hif rfl (fun hlt => ?_) (fun hlt => ?_)
  · obtain ⟨cg, hcg⟩ : ∃ cg, st.waits[i]? = some cg := ⟨_, List.getElem?_eq_getElem (by omega)⟩
    obtain ⟨p, r, rfl⟩ := hW _ (List.mem_of_getElem? hcg)
    have hfs := rfold_succ (keep := bs) hcg
    rw [← hf] at hfs
    have hrm : r ∈ rowsOf st := by
      unfold rowsOf
      exact List.mem_append_right _ (List.mem_filterMap.2 ⟨_, List.mem_of_getElem? hcg, rfl⟩)
    have hsr := hs r hrm
    obtain ⟨ri, hri⟩ := List.mem_iff_getElem?.1 hrm
    refine hfactC (fun m => rows_le (m.xres 5 rfl) hri) fun hrc => ?_
    refine hcskip <| hthen <| hseq <| hblock <| hseq <| hreg <| hy (fun _ => y_idxS1 rfl rfl Tryd.underlying144 sz148 hwA rfl (by omega)) <| hy (fun m => y_ld1 rfl ag148 ((m.ord 4 rfl).cell (j := i) (by rw [List.getElem?_map, hcg]; rfl))) <| hy (fun _ => y_assign rfl) <| hend <| hsub (ρ' := [(6, _), (16, _), (15, _), (14, _), (13, _), (4, _), (3, _), (0, _), (1, _)]) ⟨rfl, rfl, rfl, rfl, rfl, rfl, rfl, rfl, rfl, trivial⟩ <| hthen <| hseq <| hseq <| hreg <| hy (fun _ => y_move rfl) <| ?_
    refine hx (xh_callv rfl rfl Tryd.call87 (nextBitC (by omega)) [0] rfl [0] rfl ?_)
    rintro _ _ _ ⟨A12, n12, c12, rfl, rfl, rfl, hp⟩
    refine hfactL (fun m => rdX (m.rd 0 rfl)) ?_
    rintro ⟨hl_q, hA_q⟩
    refine hy (fun _ => (y_not rfl)) <| hend <| hsub (ρ' := [(21, _), (6, _), (16, _), (15, _), (14, _), (13, _), (4, _), (3, _), (0, _), (1, _)]) ⟨rfl, rfl, rfl, rfl, rfl, rfl, rfl, rfl, rfl, rfl, trivial⟩ <| hmemQ (X' := [_, _, _, _, _, _]) (S' := [_, _, _]) (fun _ m => m) <| hthen <| ?_
    refine hifb rfl (fun hb => ?_) (fun hb => ?_)
    · have hb' : ks.headD false = false := by simpa using hb
      refine hexit <| hthen_exit <| hqblock_exit <| hthen <| hreg <| hy (fun _ => y_add rfl rfl (w64 (by omega) (by omega))) <| hy (fun _ => y_move rfl) <| hend <| hsub (ρ' := [(15, _), (21, _), (6, _), (16, _), (14, _), (13, _), (4, _), (3, _), (0, _), (1, _)]) ⟨rfl, rfl, rfl, rfl, rfl, rfl, rfl, rfl, rfl, rfl, trivial⟩ <| ?_
      refine hnext6 (i + 1) ks.tail L A12 n12 c12 ⟨rfl, rfl, rfl, rfl, rfl, rfl, rfl, trivial⟩ [0, 0, 0, 0, 0, 0] rfl [0, 2] rfl (⟨hp, by omega, by rw [hfs, rstep, if_neg (by rw [hb']; decide)]⟩) (by omega)
    · have hb' : ks.headD false = true := by simpa using hb
      refine hcskip <| hthen <| hseq <| hreg <| hy (fun _ => y_move rfl) <| hend <| hthen <| hblock <| hseq <| hreg <| hy (fun _ => y_tas rfl (show _ = Result.ok (Value.tuple #[.agg [SV p, r.val].toArray, .bool true]) _ by kernel_rfl)) <| hy (fun _ => y_extract rfl rfl) <| hy (fun _ => y_extract rfl rfl) <| hend <| hsub (ρ' := [(34, _), (33, _), (22, _), (21, _), (6, _), (16, _), (15, _), (14, _), (13, _), (4, _), (3, _), (0, _), (1, _)]) ⟨rfl, rfl, rfl, rfl, rfl, rfl, rfl, rfl, rfl, rfl, rfl, rfl, rfl, trivial⟩ <| hthen <| ?_
      refine hift rfl (rfl) ?_
      refine hseq <| hreg <| ?_
      refine hx (xh_alloc ti150 (fun g7 => ?_))
      refine hx0 (xh_stA 0 rfl rfl rfl sz150 rfl (by simp [SV, BRow.val, Value.oneCell']) rfl ?_)
      refine hend <| hmemQ (X' := [_, _, _, _, _, _, _]) (S' := [_, _, _]) (fun _ m => m) <| hthen <| hseq <| hseq <| hreg <| hy (fun _ => y_move rfl) <| ?_
      refine hx (xh_callv rfl rfl Tryd.call87 (nextBitC (by omega)) [1] rfl [0] rfl ?_)
      rintro _ _ _ ⟨A13, n13, c13, rfl, rfl, rfl, hp2⟩
      refine hfactL (fun m => rdX (m.rd 0 rfl)) ?_
      rintro ⟨hl_q2, hA_q2⟩
      refine hy (fun _ => (y_not rfl)) <| hend <| hsub (ρ' := [(37, _), (7, _), (34, _), (33, _), (22, _), (21, _), (6, _), (16, _), (15, _), (14, _), (13, _), (4, _), (3, _), (0, _), (1, _)]) ⟨rfl, rfl, rfl, rfl, rfl, rfl, rfl, rfl, rfl, rfl, rfl, rfl, rfl, rfl, rfl, trivial⟩ <| hmemQ (X' := [_, _, _, _, _, _, _]) (S' := [_, _, _, _]) (fun _ m => m) <| hthen <| ?_
      refine hifb rfl (fun hb2 => ?_) (fun hb2 => ?_)
      · have hb2' : ks.tail.headD false = false := by simpa using hb2
        refine hreg <| hy (fun _ => y_fld rfl fa150_1 (by decide)) <| hy (fun m => y_ld1 rfl ag32 (ld_blk (m.blk 1 rfl) rfl)) <| hy (fun _ => y_fld rfl fa150_1 (by decide)) <| hy (fun m => y_ld1 rfl ag32 (ld_blk (m.blk 1 rfl) rfl)) <| hy (fun _ => y_lenS rfl Tryd.underlying32) <| hy (fun _ => y_quo rfl rfl (by omega) (by omega) (w64 (by omega) (by omega))) <| hy (fun _ => y_slTo rfl rfl Tryd.underlying32 sz5 (show ((r.n / 2 : Nat) : Int) = _ by omega) (by omega)) <| hy (fun _ => y_fld rfl fa150_1 (by decide)) <| ?_
        refine hx0 (xh_st1a 1 rfl rfl rfl sz32 rfl (by first | exact Nat.le_of_ble_eq_true rfl | simp) ?_)
        refine hmemL (fun w m => m.eqX 0 rfl (show _ = RBlk g7 150 [SV p, r.half.val] from rfl)) ?_
        refine hend <| hsub (ρ' := [(37, _), (7, _), (34, _), (33, _), (22, _), (21, _), (6, _), (16, _), (15, _), (14, _), (13, _), (4, _), (3, _), (0, _), (1, _)]) ⟨rfl, rfl, rfl, rfl, rfl, rfl, rfl, rfl, rfl, rfl, rfl, rfl, rfl, rfl, rfl, trivial⟩ <| hmemQ (X' := [_, _, _, _, _, _, _]) (S' := [_, _, _, _]) (fun _ m => m) <| hthen <| hdrw [5] [(0, some 0), (1, some 0), (2, some 0), (3, some 0), (4, some 0), (5, none)] (by kernel_rfl) (by kernel_rfl) rfl 0 <| hty (fun m => y_ldN rfl ag150 sz150 (by simp) (m.blk 0 rfl).cells0) <| htyU (y_move rfl) <| htyU (y_nilp rfl) <| htyU (y_fld rfl fa146_2 (by decide)) <| hty (fun m => y_ld1 rfl ag143 (ld_blk (m.blk 3 rfl) rfl)) <| ?_
        refine htx (xh_call rfl Tryd.call88 (wmakeC) [2] rfl [] rfl ?_)
        rintro _ _ _ ⟨rfl, rfl, rfl⟩
        refine ⟨(fun h => absurd h (by decide)), ?_⟩
        refine htend <| hsub (ρ' := [(37, _), (7, _), (34, _), (33, _), (22, _), (21, _), (6, _), (16, _), (15, _), (14, _), (13, _), (4, _), (3, _), (0, _), (1, _)]) ⟨rfl, rfl, rfl, rfl, rfl, rfl, rfl, rfl, rfl, rfl, rfl, rfl, rfl, rfl, rfl, trivial⟩ <| hmemQ (X' := [_, _, _, _, _, _, _]) (S' := [_, _, _, _]) (fun _ m => m) <| hqblock <| hqblock <| hthen <| hreg <| hy (fun _ => y_add rfl rfl (w64 (by omega) (by omega))) <| hy (fun _ => y_move rfl) <| hend <| hsub (ρ' := [(15, _), (37, _), (7, _), (34, _), (33, _), (22, _), (21, _), (6, _), (16, _), (14, _), (13, _), (4, _), (3, _), (0, _), (1, _)]) ⟨rfl, rfl, rfl, rfl, rfl, rfl, rfl, rfl, rfl, rfl, rfl, rfl, rfl, rfl, rfl, trivial⟩ <| ?_
        refine hmemQ (fun w m => m.eqX 0 rfl (show _ = RMap SV st.gl (vals (aput L p r.half)) from congrArg (RMap SV st.gl) (vals_put _ _ _))) ?_
        refine hnext6 (i + 1) ks.tail.tail (aput L p r.half) A13 n13 c13 ⟨rfl, rfl, rfl, rfl, rfl, rfl, rfl, trivial⟩ [2, 0, 1, 1, 1, 1] rfl [0, 3] rfl (⟨hp2, by omega, by rw [hfs, rstep, if_pos hb', hb2']; rfl⟩) (by omega)
      · have hb2' : ks.tail.headD false = true := by simpa using hb2
        refine hcskip <| hthen <| hdrw [5] [(0, some 0), (1, some 0), (2, some 0), (3, some 0), (4, some 0), (5, none)] (by kernel_rfl) (by kernel_rfl) rfl 0 <| hty (fun m => y_ldN rfl ag150 sz150 (by simp) (m.blk 1 rfl).cells0) <| htyU (y_move rfl) <| htyU (y_nilp rfl) <| htyU (y_fld rfl fa146_2 (by decide)) <| hty (fun m => y_ld1 rfl ag143 (ld_blk (m.blk 3 rfl) rfl)) <| ?_
        refine htx (xh_call rfl Tryd.call88 (wmakeC) [2] rfl [] rfl ?_)
        rintro _ _ _ ⟨rfl, rfl, rfl⟩
        refine ⟨(fun h => absurd h (by decide)), ?_⟩
        refine htend <| hsub (ρ' := [(37, _), (7, _), (34, _), (33, _), (22, _), (21, _), (6, _), (16, _), (15, _), (14, _), (13, _), (4, _), (3, _), (0, _), (1, _)]) ⟨rfl, rfl, rfl, rfl, rfl, rfl, rfl, rfl, rfl, rfl, rfl, rfl, rfl, rfl, rfl, trivial⟩ <| hmemQ (X' := [_, _, _, _, _, _, _]) (S' := [_, _, _, _]) (fun _ m => m) <| hqblock <| hqblock <| hthen <| hreg <| hy (fun _ => y_add rfl rfl (w64 (by omega) (by omega))) <| hy (fun _ => y_move rfl) <| hend <| hsub (ρ' := [(15, _), (37, _), (7, _), (34, _), (33, _), (22, _), (21, _), (6, _), (16, _), (14, _), (13, _), (4, _), (3, _), (0, _), (1, _)]) ⟨rfl, rfl, rfl, rfl, rfl, rfl, rfl, rfl, rfl, rfl, rfl, rfl, rfl, rfl, rfl, trivial⟩ <| ?_
        refine hmemQ (fun w m => m.eqX 0 rfl (show _ = RMap SV st.gl (vals (aput L p r)) from congrArg (RMap SV st.gl) (vals_put _ _ _))) ?_
        refine hnext6 (i + 1) ks.tail.tail (aput L p r) A13 n13 c13 ⟨rfl, rfl, rfl, rfl, rfl, rfl, rfl, trivial⟩ [1, 0, 1, 1, 1, 1] rfl [0, 3] rfl (⟨hp2, by omega, by rw [hfs, rstep, if_pos hb', hb2']; rfl⟩) (by omega)
  · obtain rfl : i = st.waits.length := by omega
    have hL : L = (rfold bs st st.waits.length).2 := by rw [← hf]
    refine hexit <| hthen_exit <| hthen_exit <| hqblock_exit <| hthen <| hreg <| hy (fun _ => y_move rfl) <| hy (fun _ => y_move rfl) <| hy (fun _ => y_move rfl) <| hy (fun _ => y_move rfl) <| hy (fun _ => y_nilp rfl) <| hy (fun _ => y_fld rfl fa146_2 (by decide)) <| hy (fun m => y_ld1 rfl ag143 (ld_blk (m.blk 2 rfl) rfl)) <| ?_
    refine hx (xh_call rfl Tryd.call89 (mcloneC) [1] rfl [] rfl ?_)
    rintro _ _ _ ⟨g1, rfl, rfl, rfl⟩
    refine hy (fun _ => y_nilp rfl) <| hy (fun _ => y_fld rfl fa146_1 (by decide)) <| ?_
    refine hx0 (xh_st1a 3 rfl rfl rfl sz143 rfl (by first | exact Nat.le_of_ble_eq_true rfl | simp) ?_)
    refine hy (fun _ => y_nilp rfl) <| hy (fun _ => y_fld rfl fa146_3 (by decide)) <| ?_
    refine hx0 (xh_st1a 0 rfl rfl rfl sz144 rfl (by first | exact Nat.le_of_ble_eq_true rfl | simp) ?_)
    refine hy (fun _ => y_nilp rfl) <| hy (fun _ => y_fld rfl fa146_4 (by decide)) <| ?_
    refine hx0 (xh_st1a 0 rfl rfl rfl sz3 rfl (by first | exact Nat.le_of_ble_eq_true rfl | simp) ?_)
    refine hend <| hsub (ρ' := [(16, _), (15, _), (14, _), (13, _), (4, _), (3, _), (0, _), (1, _)]) ⟨rfl, rfl, rfl, rfl, rfl, rfl, rfl, rfl, trivial⟩ <| hmemQ (X' := [_, _, _, _, _, _, _]) (S' := [_, _]) (fun _ m => m) <| ?_
    refine hmemQ (fun w m => m.addX (r' := ROwn 148 1 (.slice none 0 0) 0 []) (.refl _ _) (Own.nil _ _ _ _) (fun k hk => hk.elim)) ?_
    have e : ∀ gs, st.started bs gs = { st with gs := gs, seen := L, lasts := L, waits := [], wA := none, wc := 0, power := -1 } := fun gs => by rw [hL]; rfl
    refine hmemQ (fun w m => m.eqX 1 rfl (show _ = RBlk g 146 (dcells (st.started bs g1)) from rfl)) ?_
    refine hmemQ (fun w m => m.eqX 3 rfl (show _ = RMap SV g1 (vals (st.started bs g1).seen) from by rw [hL]; rfl)) ?_
    refine hmemQ (fun w m => m.eqX 3 rfl (show _ = RMap SV st.gl (vals (st.started bs g1).lasts) from by rw [hL]; rfl)) ?_
    refine hmemQ (X' := RRows (rowsOf (st.started bs g1)) :: _) (fun w m => (m.perm (takeR_perm [7] _ [_] _ rfl)).rowHalf (rows_started g1)) ?_
    refine hmemQ (X' := RDisk g (st.started bs g1) :: _) (fun w m => (m.perm (takeR_perm [3, 2, 1, 1, 0] _ [_, _, _, _, _] _ rfl)).pack) ?_
    exact hret0 trivial rfl [0] rfl [] rfl ⟨_, rfl, rfl, rfl⟩
end Go.Proofs.YtfikjheicjamhaaDoor
end
section
/- The disk's example (lives of layer 12), computed. -/
set_option linter.unusedVariables false
set_option linter.unusedSimpArgs false
set_option maxRecDepth 20000
namespace Go.Proofs.YtfikjheicjamhaaDoor
open Go.Eng Go.Hx
theorem wrote_of {st st1 : DSt} {p : List UInt8} {n : Nat} {r : BRow} {A : Option Addr} {c : Nat} (h : (writeE st p n ≠ 0 ∧ st1 = st) ∨ (writeE st p n = 0 ∧ st1 = st.wrote p r A c)) (e : writeE st p n = 0) : st1 = st.wrote p r A c := by
  rcases h with ⟨h, _⟩ | ⟨_, h⟩
  · exact absurd e h
  · exact h
theorem named1 {x : UInt8} (h : x ≠ 0) : Named [x] := ⟨by simp, by simp, by simp; exact fun e => h e.symm⟩
end Go.Proofs.YtfikjheicjamhaaDoor
end
section
/- The law DiskPower, computed. -/
set_option linter.unusedVariables false
set_option linter.unusedSimpArgs false
set_option maxRecDepth 20000
namespace Go.Proofs.YtfikjheicjamhaaDoor
open Go.Eng Go.Hx
def DSt.powered (st : DSt) (n : Int) : DSt := { st with power := max n (-1) }
theorem powerC {g : Nat} {st : DSt} {n : Int} : Con Tryd.prog 32 [.pointer (some ⟨g, 0, none⟩), .int .i64 n] [RDisk g st] [] (fun v_ X_ S_ => v_ = (.tuple #[]) ∧ X_ = [RDisk g (st.powered n)] ∧ S_ = []) := by
  refine henter (N := 9) Tryd.func32 rfl rfl (by simp) fun b => ?_
  refine hmemC (fun w m => (m.perm (takeR_perm [0] _ [_] _ rfl)).unpack) ?_
  refine hreg <| hy (fun _ => y_move rfl) <| hy (fun _ => y_move rfl) <| hy (fun _ => y_max rfl rfl) <| hy (fun _ => y_nilp rfl) <| hy (fun _ => y_fld rfl fa146_4 (by decide)) <| ?_
  refine hx0 (xh_st1a 0 rfl rfl rfl sz3 rfl (by first | exact Nat.le_of_ble_eq_true rfl | simp) ?_)
  refine hend <| hsub (ρ' := [(0, _), (1, _)]) ⟨rfl, rfl, trivial⟩ <| hmemQ (X' := [_, _, _, _, _]) (S' := []) (fun _ m => m) <| ?_
  refine hmemQ (fun w m => m.eqX 0 rfl (show _ = RBlk g 146 (dcells (st.powered n)) from by simp [dcells, DSt.powered])) ?_
  refine hmemQ (X' := RDisk g (st.powered n) :: _) (fun w m => (m.perm (takeR_perm [0, 0, 0, 0, 0] _ [_, _, _, _, _] _ rfl)).pack) ?_
  exact hret0 trivial rfl [0] rfl [] rfl ⟨rfl, rfl, rfl⟩
theorem waitsC {g : Nat} {st : DSt} : Con Tryd.prog 40 [.pointer (some ⟨g, 0, none⟩)] [RDisk g st] [] (fun v_ X_ S_ => v_ = (.int .i64 (st.waits.length : Nat)) ∧ X_ = [RDisk g st] ∧ S_ = []) := by
  refine henter (N := 8) Tryd.func40 rfl rfl (by simp) fun b => ?_
  refine hmemC (fun w m => (m.perm (takeR_perm [0] _ [_] _ rfl)).unpack) ?_
  refine hseq <| hreg <| hy (fun _ => y_assign rfl) <| hend <| hthen <| hseq <| hreg <| hy (fun _ => y_move rfl) <| hy (fun _ => y_nilp rfl) <| hy (fun _ => y_fld rfl fa146_3 (by decide)) <| hy (fun m => y_ld1 rfl ag144 (ld_blk (m.blk 0 rfl) rfl)) <| hy (fun _ => y_lenS rfl Tryd.underlying144) <| hy (fun _ => y_assign rfl) <| hend <| hsub (ρ' := [(2, _), (0, _)]) ⟨rfl, rfl, trivial⟩ <| hthen <| hret <| ?_
  refine hmemQ (X' := RDisk g st :: _) (fun w m => (m.perm (takeR_perm [0, 0, 0, 0, 0] _ [_, _, _, _, _] _ rfl)).pack) ?_
  exact hret1 trivial rfl rfl [0] rfl [] rfl ⟨rfl, rfl, rfl⟩
theorem tot_aput' : ∀ (l : Files) (p : List UInt8) (r : BRow), tot (aput l p r) + ((aget l p).map (·.n)).getD 0 = tot l + r.n
  | [], p, r => by simp [aput, aget, tot]
  | (k, u) :: q, p, r => by
    have := tot_aput' q p r
    simp only [aput, aget]
    split
    · simp [tot]; omega
    · simp only [tot, List.map_cons, List.sum_cons] at this ⊢
      omega
def nn : List UInt8 := [110, 111, 110, 101]
def szA (st : DSt) : Nat := ((aget st.seen [97]).map (·.n)).getD 0
/-- what the loop keeps -/
structure PInv (st : DSt) (i k : Nat) : Prop where
  room : st.room = 100
  power : st.power = ((k - i : Nat) : Int)
  waits : st.waits.length = min i k
  wr : Wr st
  lasts : st.lasts = []
  nno : aget st.seen nn = none
  ttt : tot st.seen = szA st ∧ szA st ≤ 1
theorem PInv.init {k gs gl : Nat} : PInv ((dinit 100 gs gl).powered k) 0 k := ⟨rfl, by simp [DSt.powered]; omega, by simp [DSt.powered, dinit], fun c hc => (by cases hc), rfl, rfl, rfl, Nat.zero_le _⟩
theorem PInv.more {st : DSt} {i k : Nat} (h : PInv st i k) (hi : i < k) {r : BRow} (hr : r.n = 1) {A : Option Addr} {c : Nat} : PInv (st.wrote [97] r A c) (i + 1) k := by
  have h4 := tot_aput' st.seen [97] r
  have ht := h.ttt
  have hs : szA (st.wrote [97] r A c) = 1 := by
    show ((aget (aput st.seen [97] r) [97]).map (·.n)).getD 0 = 1
    rw [aget_aput, if_pos rfl]; exact hr
  refine ⟨h.room, ?_, ?_, ?_, h.lasts, ?_, ?_, by omega⟩
  · have := h.power
    show (if 0 < st.power then st.power - 1 else st.power) = _
    rw [if_pos (by omega)]; omega
  · have := h.waits
    show (st.waits ++ [Chg.written [97] r]).length = _
    rw [List.length_append]; simp; omega
  · intro c hc
    rcases List.mem_append.1 (show c ∈ st.waits ++ [Chg.written [97] r] from hc) with h' | h'
    · exact h.wr c h'
    · exact ⟨_, _, List.mem_singleton.1 h'⟩
  · show aget (aput st.seen [97] r) nn = _
    rw [aget_aput, if_neg (by decide)]; exact h.nno
  · rw [hs]
    show tot (aput st.seen [97] r) = 1
    have : ((aget st.seen [97]).map (·.n)).getD 0 = szA st := rfl
    omega
theorem PInv.stay {st : DSt} {i k : Nat} (h : PInv st i k) (hi : k ≤ i) : PInv st (i + 1) k := ⟨h.room, by rw [h.power, show k - (i + 1) = k - i by omega], by rw [h.waits]; omega, h.wr, h.lasts, h.nno, h.ttt⟩
theorem PInv.write {st : DSt} {i k : Nat} (h : PInv st i k) : writeE st [97] 1 = if i < k then 0 else 6 := by
  have h1 := h.ttt
  have h2 := h.power
  have h3 := h.room
  have h4 : ((aget st.seen [97]).map (·.n)).getD 0 = szA st := rfl
  rw [writeE, if_neg (not_not_intro (named1 (by decide))), h4]
  by_cases hi : i < k
  · rw [if_neg (by omega), if_neg (by omega), if_pos hi]
  · rw [if_pos (by omega), if_neg hi]
theorem PInv.found {st : DSt} {i k : Nat} (h : PInv st i k) : foundE st nn = if i < k then 4 else 6 := by
  have h2 := h.power
  rw [foundE]
  by_cases hi : i < k
  · rw [if_neg (by omega), if_pos h.nno, if_pos hi]
  · rw [if_pos (by omega), if_neg hi]
theorem rfold_nil (st : DSt) (i : Nat) : rfold [] st i = ([], st.lasts) := by
  induction i with
  | zero => rfl
  | succ i ih =>
    cases hc : st.waits[i]? with
    | none =>
      have : rfold [] st (i + 1) = rfold [] st i := by
        unfold rfold
        have := List.getElem?_eq_none_iff.1 hc
        rw [List.take_of_length_le (by omega), List.take_of_length_le this]
      rw [this, ih]
    | some c => rw [rfold_succ hc, ih]; rfl
theorem started_nil (st : DSt) (gs : Nat) (h : st.lasts = []) : (st.started [] gs).seen = [] ∧ (st.started [] gs).lasts = [] ∧ (st.started [] gs).waits = [] ∧ (st.started [] gs).power = -1 ∧ (st.started [] gs).room = st.room := by
  refine ⟨?_, ?_, rfl, rfl, rfl⟩ <;> (show (rfold [] st st.waits.length).2 = []; rw [rfold_nil]; exact h)
theorem DOk.powered {st : DSt} {n k : Nat} (h : DOk st n) (hk : k ≤ 1000000) : DOk (st.powered k) n := ⟨by show max (k : Int) (-1) ≤ _; omega, h.room, h.seen, h.rest, h.small⟩
end Go.Proofs.YtfikjheicjamhaaDoor
end
section
/- Contracts: a disk's changes of every kind: Rename, Remove, Restart. -/
set_option linter.unusedVariables false
set_option linter.unusedSimpArgs false
set_option maxRecDepth 20000
namespace Go.Proofs.YtfikjheicjamhaaDoor
open Go.Eng Go.Hx
/-- files behind a change -/
def apl (l : Files) : Chg → Files
  | .written p r => aput l p r
  | .renamed a c => match aget l a with
    | none => l
    | some r => aput (adel l a) c r
  | .removed p => adel l p
theorem nmakeC {g : Nat} {l : Files} {a c : List UInt8} : Con Tryd.prog 215 [.agg [SV a, SV c].toArray, .map (some g)] [RMap SV g (vals l)] [] (fun v_ X_ S_ => v_ = (.tuple #[]) ∧ X_ = [RMap SV g (vals (apl l (.renamed a c)))] ∧ S_ = []) := by
  refine henter (N := 21) Tryd.func215 rfl rfl (by simp) fun b => ?_
  refine hseq <| hreg <| ?_
  refine hx (xh_box rfl (fun g2 => ?_))
  refine hmemL (fun w m => m.eqX 0 rfl (show _ = RBlk g2 206 [SV a, SV c] from congrArg (RBlk _ _) (cells_agg _))) ?_
  rcases aget_split (l := l) a with ⟨h1, h2⟩ | ⟨r, h1, h2⟩
  · refine hend <| hmemQ (X' := [_, _]) (S' := []) (fun _ m => m) <| hthen <| hseq <| hreg <| hy (fun _ => y_move rfl) <| hy (fun _ => y_fld rfl fa206_0 (by decide)) <| hy (fun m => y_ld1 rfl ag9 (ld_blk (m.blk 0 rfl) (i := 0) rfl)) <| hy (fun m => yV (y_lookM (enc := SV) rfl rfl Tryd.underlying143 ti32 (strKey Tryd.underlying9) (m.mapX 1 rfl)) ((show lookVal true (.slice none 0 0) (aget (vals l) a) = .tuple #[.slice none 0 0, .bool false] by rw [h2]; rfl))) <| hy (fun _ => y_move rfl) <| hy (fun _ => y_extract rfl rfl) <| hy (fun _ => y_extract rfl rfl) <| hy (fun _ => y_assign rfl) <| hy (fun _ => y_assign rfl) <| hend <| hsub (ρ' := [(5, _), (4, _), (2, _), (0, _), (1, _)]) ⟨rfl, rfl, rfl, rfl, rfl, trivial⟩ <| hthen <| hseq <| hreg <| hy (fun _ => y_move rfl) <| hend <| hthen <| ?_
    refine hiff rfl (rfl) ?_
    refine hcskip <| ?_
    have e : apl l (.renamed a c) = l := by rw [apl, h1]
    rw [e]
    exact hret0 trivial rfl [1] rfl [] rfl ⟨rfl, rfl, rfl⟩
  · refine hend <| hthen <| hseq <| hreg <| hy (fun _ => y_move rfl) <| hy (fun _ => y_fld rfl fa206_0 (by decide)) <| hy (fun m => y_ld1 rfl ag9 (ld_blk (m.blk 0 rfl) rfl)) <| hy (fun m => yV (y_lookM (enc := SV) rfl rfl Tryd.underlying143 ti32 (strKey Tryd.underlying9) (m.mapX 1 rfl)) ((show lookVal true (.slice none 0 0) (aget (vals l) a) = .tuple #[r.val, .bool true] by rw [h2]; rfl))) <| hy (fun _ => y_move rfl) <| hy (fun _ => y_extract rfl rfl) <| hy (fun _ => y_extract rfl rfl) <| hy (fun _ => y_assign rfl) <| hy (fun _ => y_assign rfl) <| hend <| hsub (ρ' := [(5, _), (4, _), (2, _), (0, _), (1, _)]) ⟨rfl, rfl, rfl, rfl, rfl, trivial⟩ <| hthen <| hseq <| hreg <| hy (fun _ => y_move rfl) <| hend <| hthen <| ?_
    refine hift rfl (rfl) ?_
    refine hseq <| hreg <| hy (fun _ => y_move rfl) <| hy (fun _ => y_fld rfl fa206_0 (by decide)) <| hy (fun m => y_ld1 rfl ag9 (ld_blk (m.blk 0 rfl) (i := 0) rfl)) <| ?_
    refine hx0 (xh_mapdel (enc := SV) 1 rfl rfl rfl Tryd.underlying143 (strKey Tryd.underlying9) ?_)
    refine hend <| hsub (ρ' := [(13, _), (5, _), (4, _), (2, _), (0, _), (1, _)]) ⟨rfl, rfl, rfl, rfl, rfl, rfl, trivial⟩ <| hmemQ (X' := [_, _]) (S' := []) (fun _ m => m) <| hthen <| hreg <| hy (fun _ => y_move rfl) <| hy (fun _ => y_fld rfl fa206_1 (by decide)) <| hy (fun m => y_ld1 rfl ag9 (ld_blk (m.blk 1 rfl) (i := 1) rfl)) <| hy (fun _ => y_move rfl) <| ?_
    refine hx0 (xh_mapup (enc := SV) 0 rfl rfl rfl rfl Tryd.underlying143 (strKey Tryd.underlying9) ?_)
    refine hend <| hsub (ρ' := [(13, _), (5, _), (4, _), (2, _), (0, _), (1, _)]) ⟨rfl, rfl, rfl, rfl, rfl, rfl, trivial⟩ <| hmemQ (X' := [_, _]) (S' := []) (fun _ m => m) <| ?_
    have e : aput (adel (vals l) a) c r.val = vals (apl l (.renamed a c)) := by rw [apl, h1, vals_del, vals_put]
    refine hmemQ (fun w m => m.eqX 0 rfl (show _ = RMap SV g (vals (apl l (.renamed a c))) from congrArg (RMap SV g) e)) ?_
    exact hret0 trivial rfl [0] rfl [] rfl ⟨rfl, rfl, rfl⟩
/-- behind a change -/
def DSt.did (st : DSt) (c : Chg) (A : Option Addr) (k : Nat) : DSt := { st.spent with seen := apl st.seen c, waits := st.waits ++ [c], wA := A, wc := k }
theorem adel_vals {l : Files} {p : List UInt8} {x : BRow} (h : x ∈ (adel l p).map (·.2)) : x ∈ l.map (·.2) := by
  induction l with
  | nil => exact h
  | cons a q ih =>
    obtain ⟨k, u⟩ := a
    simp only [adel] at h
    split at h
    · exact List.mem_cons_of_mem _ h
    · simp only [List.map_cons, List.mem_cons] at h ⊢
      rcases h with rfl | h
      · exact .inl rfl
      · exact .inr (ih h)
theorem apl_rows {l : Files} {c : Chg} (hc : c.row = none) {x : BRow} (h : x ∈ (apl l c).map (·.2)) : x ∈ l.map (·.2) := by
  cases c with
  | written p r => cases hc
  | renamed a b =>
    simp only [apl] at h
    split at h
    · exact h
    · rename_i r hr
      rcases aput_vals h with h | h
      · exact adel_vals h
      · exact h ▸ List.mem_map.2 ⟨_, aget_mem hr, rfl⟩
  | removed p => exact adel_vals h
theorem apl_len (l : Files) (c : Chg) : (apl l c).length ≤ l.length + 1 := by
  cases c with
  | written p r => exact aput_len l p r
  | renamed a b =>
    simp only [apl]
    split
    · omega
    · rename_i r hr
      have h1 := aput_len (adel l a) b r
      have h2 := adel_len l a
      omega
  | removed p => have h2 := adel_len l p; show (adel l p).length ≤ _; omega
theorem rows_did {st : DSt} {c : Chg} {A : Option Addr} {k : Nat} (hc : c.row = none) : ∀ x ∈ rowsOf (st.did c A k), x ∈ rowsOf st := by
  intro x hx
  unfold rowsOf DSt.did at hx
  simp only [DSt.spent, List.mem_append, List.filterMap_append] at hx
  unfold rowsOf
  simp only [List.mem_append]
  rcases hx with (h | h) | h | h
  · exact .inl (.inl (apl_rows hc h))
  · exact .inl (.inr h)
  · exact .inr h
  · simp [hc] at h
theorem DOk.did {st : DSt} {k : Nat} (h : DOk st k) {c : Chg} (hc : c.row = none) (A : Option Addr) (j : Nat) : DOk (st.did c A j) (k + 1) := by
  refine ⟨spent_power h.power, h.room, ?_, ?_, fun x hx => h.small x (rows_did hc x hx)⟩
  · have := apl_len st.seen c
    have := h.seen
    show (apl st.seen c).length ≤ k + 1
    omega
  · have := h.rest
    show st.lasts.length + (st.waits ++ [c]).length ≤ k + 1
    simp only [List.length_append, List.length_cons, List.length_nil]
    omega
theorem doNC {g : Nat} {st : DSt} {a c : List UInt8} (hp : st.power ≤ 1000000000000) (hw : st.waits.length ≤ 1000000) : Con Tryd.prog 126 [.pointer (some ⟨g, 0, none⟩), (Chg.renamed a c).val] [RDisk g st] [] (fun v_ X_ S_ => ∃ A k, v_ = (.tuple #[]) ∧ X_ = [RDisk g (st.did (.renamed a c) A k)] ∧ S_ = []) := by
  have hsw : st.spent.waits.length = st.waits.length := rfl
  refine henter (N := 25) Tryd.func126 rfl rfl (by simp) fun b => ?_
  refine hseq <| hreg <| hy (fun _ => y_move rfl) <| ?_
  refine hx (xh_call rfl Tryd.call127 (spendC (by omega)) [0] rfl [] rfl ?_)
  rintro _ _ _ ⟨rfl, rfl, rfl⟩
  refine hmemL (fun w m => (m.perm (takeR_perm [0] _ [_] _ rfl)).unpack) ?_
  refine hend <| hsub (ρ' := [(0, _), (1, _)]) ⟨rfl, rfl, trivial⟩ <| hmemQ (X' := [_, _, _, _, _]) (S' := []) (fun _ m => m) <| hthen <| hseq <| hdrw [8] [(0, some 0), (1, some 0), (2, some 0), (3, some 0), (4, some 0), (5, some 0), (6, some 0), (7, some 0), (8, none)] (by kernel_rfl) (by kernel_rfl) rfl 0 <| htyU (y_move rfl) <| htyU (y_move rfl) <| htyU (y_nilp rfl) <| htyU (y_fld rfl fa146_1 (by decide)) <| hty (fun m => y_ld1 rfl ag143 (ld_blk (m.blk 0 rfl) rfl)) <| htyU (y_mkf rfl rfl) <| htyU (y_nilm rfl (by kernel_rfl)) <| htyU (y_move rfl) <| ?_
  refine htx (xh_inv rfl rfl (fun w => by kernel_rfl) Tryd.call215 (nmakeC) [1] rfl [] rfl ?_)
  rintro _ _ _ ⟨rfl, rfl, rfl⟩
  refine ⟨(fun h => absurd h (by decide)), ?_⟩
  refine htend <| hsub (ρ' := [(0, _), (1, _)]) ⟨rfl, rfl, trivial⟩ <| hmemQ (X' := [_, _, _, _, _]) (S' := []) (fun _ m => m) <| hthen <| hreg <| hy (fun _ => y_move rfl) <| hy (fun _ => y_move rfl) <| hy (fun _ => y_nilp rfl) <| hy (fun _ => y_fld rfl fa146_3 (by decide)) <| hy (fun m => y_ld1 rfl ag144 (ld_blk (m.blk 1 rfl) rfl)) <| hy (fun _ => y_move rfl) <| ?_
  refine hx (xh_bsl Tryd.underlying144 ti148 rfl rfl rfl (by simp [Value.cells, Chg.val]) (by decide) (by decide) (fun g21 => ?_))
  have hA_b21 : 0 < 1 → (some (⟨g21, 0, none⟩ : Addr)) ≠ none := fun _ h => by cases h
  refine hmemL (fun w m => m.eqX 0 rfl (show _ = ROwn 148 1 (.slice (some ⟨g21, 0, none⟩) 1 1) 1 [((Chg.renamed a c)).val] from rfl)) ?_
  refine hx (xh_app 4 rfl rfl rfl Tryd.underlying144 Tryd.underlying144 (by exact .inl rfl) ti148 rfl (fun m => Src.of_rd (m.ord 0 rfl)) (by simp [Chg.val, Value.oneCell']) (by unfold maxLen; omega) (by omega) (fun u => ?_))
  refine hfactL (fun m => (m.own 0 rfl).slice) ?_
  rintro ⟨A_d3, c_d3, rfl, hc_d3⟩
  refine hfactL (fun m => (m.ord 0 rfl).2.1) fun hA_d3 => ?_
  refine hy (fun _ => y_nilp rfl) <| hy (fun _ => y_fld rfl fa146_3 (by decide)) <| ?_
  refine hx0 (xh_st1a 3 rfl rfl rfl sz144 rfl (by first | exact Nat.le_of_ble_eq_true rfl | simp) ?_)
  refine hend <| hsub (ρ' := [(0, _), (1, _)]) ⟨rfl, rfl, trivial⟩ <| hmemQ (X' := [_, _, _, _, _, _]) (S' := []) (fun _ m => m) <| ?_
  refine hmemQ (fun w m => m.eqX 0 rfl (show _ = RBlk g 146 (dcells (st.did ((Chg.renamed a c)) A_d3 c_d3)) from by simp [dcells, DSt.did, DSt.spent])) ?_
  refine hmemQ (fun w m => m.eqX 3 rfl (show _ = RMap SV st.gs (vals (st.did ((Chg.renamed a c)) A_d3 c_d3).seen) from rfl)) ?_
  refine hmemQ (fun w m => m.eqX 2 rfl (show _ = ROwn 148 1 (.slice A_d3 (st.did ((Chg.renamed a c)) A_d3 c_d3).waits.length c_d3) (st.did ((Chg.renamed a c)) A_d3 c_d3).waits.length ((st.did ((Chg.renamed a c)) A_d3 c_d3).waits.map Chg.val) from by simp [DSt.did, DSt.spent])) ?_
  refine hmemQ (X' := RRows (rowsOf (st.did ((Chg.renamed a c)) A_d3 c_d3)) :: _) (fun w m => (m.perm (takeR_perm [5] _ [_] _ rfl)).rowSub ((rows_did rfl))) ?_
  refine hmemQ (X' := RDisk g (st.did ((Chg.renamed a c)) A_d3 c_d3) :: _) (fun w m => (m.perm (takeR_perm [3, 2, 3, 1, 0] _ [_, _, _, _, _] _ rfl)).pack) ?_
  exact hret0 trivial rfl [0] rfl [] rfl ⟨_, _, rfl, rfl, rfl⟩
theorem bad_found {st : DSt} {p : List UInt8} : foundE st p = 0 ∨ foundE st p = 4 ∨ foundE st p = 6 := by
  unfold foundE
  split
  · exact .inr (.inr rfl)
  · split
    · exact .inr (.inl rfl)
    · exact .inl rfl
/-- what is told of a Rename -/
def renameE (st : DSt) (a c : List UInt8) : Int := if ¬ Named c then 1 else foundE st a
theorem renameC {g : Nat} {st : DSt} {a c : List UInt8} {k : Nat} (ok : DOk st k) (hk : k ≤ 100000) : Con Tryd.prog 97 [.pointer (some ⟨g, 0, none⟩), .string (strOf a), .string (strOf c)] [RDisk g st] [] (fun v_ X_ S_ => ∃ st1 A j, v_ = (.int .i64 (renameE st a c)) ∧ X_ = [RDisk g st1] ∧ S_ = [] ∧ ((renameE st a c ≠ 0 ∧ st1 = st) ∨ (renameE st a c = 0 ∧ st1 = st.did (.renamed a c) A j))) := by
  have hp := ok.power
  have hw : st.waits.length ≤ 1000000 := by have := ok.rest; omega
  refine henter (N := 23) Tryd.func97 rfl rfl (by simp) fun b => ?_
  refine hseq <| hreg <| hy (fun _ => y_assign rfl) <| hend <| hthen <| hseq <| hseq <| hreg <| hy (fun _ => y_move rfl) <| ?_
  refine hx (xh_call rfl Tryd.call123 (namedC) [] rfl [] rfl ?_)
  rintro _ _ _ ⟨rfl, rfl, rfl⟩
  refine hy (fun _ => y_notp rfl) <| hend <| hsub (ρ' := [(10, _), (6, _), (0, _), (1, _), (2, _)]) ⟨rfl, rfl, rfl, rfl, rfl, trivial⟩ <| hmemQ (X' := [_]) (S' := []) (fun _ m => m) <| hthen <| ?_
  refine hif rfl (fun h1 => ?_) (fun h1 => ?_)
  · have e : renameE st a c = 1 := by rw [renameE, if_pos h1]
    rw [e]
    refine hseq <| hreg <| hy (fun _ => y_assign rfl) <| hend <| hthen <| hret <| hthen_ret <| ?_
    exact hret1 trivial rfl rfl [0] rfl [] rfl ⟨_, none, 0, rfl, rfl, rfl, .inl ⟨by decide, rfl⟩⟩
  · have e : renameE st a c = foundE st a := by rw [renameE, if_neg h1]
    rw [e]
    refine hcskip <| hthen <| hseq <| hseq <| hreg <| hy (fun _ => y_move rfl) <| hy (fun _ => y_move rfl) <| ?_
    refine hx (xh_call rfl Tryd.call118 (foundC) [0] rfl [] rfl ?_)
    rintro _ _ _ ⟨rfl, rfl, rfl⟩
    refine hy (fun _ => y_assign rfl) <| hend <| hsub (ρ' := [(7, _), (10, _), (6, _), (0, _), (1, _), (2, _)]) ⟨rfl, rfl, rfl, rfl, rfl, rfl, trivial⟩ <| hmemQ (X' := [_]) (S' := []) (fun _ m => m) <| hthen <| hseq <| hreg <| hy (fun _ => y_move rfl) <| hy (fun _ => y_neq rfl rfl) <| hend <| hsub (ρ' := [(15, _), (7, _), (10, _), (6, _), (0, _), (1, _), (2, _)]) ⟨rfl, rfl, rfl, rfl, rfl, rfl, rfl, trivial⟩ <| hthen <| ?_
    refine hif rfl (fun h2 => ?_) (fun h2 => ?_)
    · refine hseq <| hreg <| hy (fun _ => y_move rfl) <| hy (fun _ => y_assign rfl) <| hend <| hsub (ρ' := [(6, _), (15, _), (7, _), (10, _), (0, _), (1, _), (2, _)]) ⟨rfl, rfl, rfl, rfl, rfl, rfl, rfl, trivial⟩ <| hthen <| hret <| hthen_ret <| ?_
      exact hret1 trivial rfl rfl [0] rfl [] rfl ⟨_, none, 0, rfl, rfl, rfl, .inl ⟨h2, rfl⟩⟩
    · have h0 := Decidable.not_not.1 h2
      rw [h0]
      refine hcskip <| hthen <| hseq <| hreg <| hy (fun _ => y_move rfl) <| hy (fun _ => y_move rfl) <| hy (fun _ => y_move rfl) <| hy (fun _ => yV (y_build ti206 rfl rfl (by kernel_rfl) (.cons (o := 0) (sz := 1) (by kernel_rfl) rfl rfl (Nat.le_of_ble_eq_true rfl) (.cons (o := 1) (sz := 1) (by kernel_rfl) rfl rfl (Nat.le_of_ble_eq_true rfl) .nil))) ((rfl : _ = Value.agg [SV a, SV c].toArray))) <| hy (fun _ => yV (y_mki rfl Tryd.underlying206 (fun _ h => by cases h)) ((rfl : _ = (Chg.renamed a c).val))) <| ?_
      refine hx (xh_call rfl Tryd.call126 (doNC (by omega) (by omega)) [0] rfl [] rfl ?_)
      rintro _ _ _ ⟨A, k2, rfl, rfl, rfl⟩
      refine hend <| hsub (ρ' := [(15, _), (7, _), (10, _), (6, _), (0, _), (1, _), (2, _)]) ⟨rfl, rfl, rfl, rfl, rfl, rfl, rfl, trivial⟩ <| hmemQ (X' := [_]) (S' := []) (fun _ m => m) <| hthen <| hseq <| hreg <| hy (fun _ => y_assign rfl) <| hend <| hthen <| hret <| ?_
      exact hret1 trivial rfl rfl [0] rfl [] rfl ⟨_, _, _, rfl, rfl, rfl, .inr ⟨rfl, rfl⟩⟩
end Go.Proofs.YtfikjheicjamhaaDoor
end
