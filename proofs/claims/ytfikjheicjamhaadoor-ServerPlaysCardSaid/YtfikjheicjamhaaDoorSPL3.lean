/- What the claim leans on, part 3. -/
import Derived.Test.YtfikjheicjamhaaDoorSPL2
import Derived.Recover
import Derived.WideKeyEntry
import Derived.OrdersIn
import Derived.RangeFuncNested
import Derived.RangeFuncLeaves
import Derived.RangeFuncCalls
import Derived.RangeFuncBox
import Derived.Shelf.Abstract
import Derived.WalkKit
import Derived.OwnWalkIn
import Derived.TacticsInMore
import Derived.LoopNIn
import Derived.LoopIn
import Derived.ScopeJumps
section
/- Contracts: who has all (server). -/
set_option linter.unusedVariables false
set_option linter.unusedSimpArgs false
set_option maxRecDepth 20000
namespace Go.Proofs.YtfikjheicjamhaaDoor
open Go.Eng Go.Hx
abbrev Frames := List (Dg × BRow)
def frs (l : Frames) : List (Dg × Value) := l.map fun x => (x.1, x.2.val)
theorem frs_get : ∀ (l : Frames) (p : Dg), aget (frs l) p = (aget l p).map BRow.val
  | [], p => rfl
  | (k, r) :: q, p => by
    have := frs_get q p
    simp only [frs, List.map_cons, aget] at this ⊢
    split <;> simp_all
def scells (k : Int) (gm : Nat) : List Value := [.int .i32 k, .int .u32 0, .map (some gm)]
abbrev RSrv (g gm : Nat) (l : Frames) : Res := RPack [RBlk g 165 (scells 0 gm), RMap DK gm (frs l), RRows (l.map (·.2))]
theorem ti165 : TI Tryd.prog 165 (.agg [.int .i32 0, .int .u32 0, .map none].toArray) 3 16 := by unfold TI; kernel_rfl
theorem fa165_0 : faB Tryd.prog 165 0 = some (0, 2, 163) := by kernel_rfl
theorem fa165_1 : faB Tryd.prog 165 1 = some (2, 1, 157) := by kernel_rfl
theorem newSrvC  : Con Tryd.prog 43 [] [] [] (fun v_ X_ S_ => ∃ g gm, v_ = (.pointer (some ⟨g, 0, none⟩)) ∧ X_ = [RSrv g gm []] ∧ S_ = []) := by
  refine henter (N := 4) Tryd.func43 rfl rfl (by simp) fun b => ?_
  refine hseq <| hreg <| hy (fun _ => y_assign rfl) <| hend <| hthen <| hseq <| hreg <| ?_
  refine hx (xh_mkmap DK (fun g1 => ?_))
  refine hy (fun _ => yV (y_build ti165 rfl rfl (by kernel_rfl) (.cons (o := 2) (sz := 1) (by kernel_rfl) rfl rfl (Nat.le_of_ble_eq_true rfl) .nil)) ((rfl : _ = Value.agg (scells 0 g1).toArray))) <| ?_
  refine hx (xh_box rfl (fun g3 => ?_))
  refine hy (fun _ => y_assign rfl) <| hend <| hsub (ρ' := [(0, _)]) ⟨rfl, trivial⟩ <| hmemQ (X' := [_, _]) (S' := []) (fun _ m => m) <| hthen <| hret <| ?_
  refine hmemQ (fun w m => m.noRows) ?_
  refine hmemQ (X' := RSrv g3 g1 [] :: _) (fun w m => (m.perm (takeR_perm [1, 1, 0] _ [_, _, _] _ rfl)).pack) ?_
  exact hret1 trivial rfl rfl [0] rfl [] rfl ⟨_, _, rfl, rfl, rfl⟩
theorem muLockC {g gm : Nat} : Con Tryd.prog 100 [.pointer (some ⟨g, 0, none⟩)] [RBlk g 165 (scells 0 gm)] [] (fun v_ X_ S_ => v_ = (.tuple #[]) ∧ X_ = [RBlk g 165 (scells 1 gm)] ∧ S_ = []) := by
  exact lockC muLib rfl
theorem sgetC {g gm : Nat} {l : Frames} {nm : Dg} : Con Tryd.prog 102 [.pointer (some ⟨g, 0, none⟩), DK nm] [RSrv g gm l] [] (fun v_ X_ S_ => v_ = (.tuple #[((aget l nm).map BRow.val).getD (.slice none 0 0), .bool (aget l nm).isSome]) ∧ X_ = [RSrv g gm l] ∧ S_ = []) := by
  refine henterD (N := 26) Tryd.func102 rfl rfl (by simp) fun b => ?_
  refine hmemC (fun w m => (m.perm (takeR_perm [0] _ [_] _ rfl)).unpack) ?_
  refine hseq <| hreg <| ?_
  refine hx (xh_box rfl (fun g3 => ?_))
  refine hy (fun _ => y_assign rfl) <| hy (fun _ => y_assign rfl) <| hend <| hmemQ (X' := [_, _, _, _]) (S' := []) (fun _ m => m) <| hthen <| hseq <| hreg <| hy (fun _ => y_move rfl) <| hy (fun _ => y_nilp rfl) <| hy (fun _ => y_fld rfl fa165_0 (by decide)) <| ?_
  refine hx (xh_call rfl Tryd.call100 (muLockC) [1] rfl [] rfl ?_)
  rintro _ _ _ ⟨rfl, rfl, rfl⟩
  refine hmemL (fun w m => m.eqX 1 rfl (show _ = RBlk g3 23 (b8s nm.1) from congrArg (RBlk _ _) (cells_agg _))) ?_
  refine hend <| hsub (ρ' := [(5, _), (4, _), (3, _), (0, _), (1, _)]) ⟨rfl, rfl, rfl, rfl, rfl, trivial⟩ <| hmemQ (X' := [_, _, _, _]) (S' := []) (fun _ m => m) <| hthen <| hseq <| hreg <| hy (fun _ => y_move rfl) <| hy (fun _ => y_nilp rfl) <| hy (fun _ => y_fld rfl fa165_0 (by decide)) <| hdefer rfl <| hend <| hsub (ρ' := [(5, _), (4, _), (3, _), (0, _), (1, _)]) ⟨rfl, rfl, rfl, rfl, rfl, trivial⟩ <| hthen <| hseq <| hdrw [] [(0, some 0), (1, some 0), (2, some 0), (3, some 0), (4, some 0), (5, some 0), (6, some 0), (7, some 0), (8, some 0), (9, some 0), (10, some 0)] (by kernel_rfl) (by kernel_rfl) rfl 99 <| htyU (y_move rfl) <| htyU (y_nilp rfl) <| htyU (y_fld rfl fa165_1 (by decide)) <| hty (fun m => y_ld1 rfl ag157 (ld_blk (m.blk 1 rfl) rfl)) <| hty (fun m => yV (y_ldN rfl ag23 sz23 (by rw [b8s_length]; exact nm.2) ((m.blk 0 rfl).cells0)) ((rfl : Value.agg _ = DK nm))) <| hty (fun m => y_lookM (enc := DK) (k := nm) rfl rfl Tryd.underlying157 ti32 (digKey rfl Tryd.underlying23 Tryd.underlying5 (by kernel_rfl) (by kernel_rfl) (by kernel_rfl)) (m.mapX 2 rfl)) <| htyU (y_move rfl) <| htyU (y_extract rfl rfl) <| htyU (y_extract rfl rfl) <| htyU (y_assign rfl) <| htyU (y_assign rfl) <| htend <| hsub (ρ' := [(7, _), (6, _), (5, _), (4, _), (3, _), (0, _), (1, _)]) ⟨rfl, rfl, rfl, rfl, rfl, rfl, rfl, trivial⟩ <| hthen <| hseq <| hreg <| hy (fun _ => y_move rfl) <| hy (fun _ => y_move rfl) <| hy (fun _ => y_assign rfl) <| hy (fun _ => y_assign rfl) <| hend <| hsub (ρ' := [(5, _), (4, _), (7, _), (6, _), (3, _), (0, _), (1, _)]) ⟨rfl, rfl, rfl, rfl, rfl, rfl, rfl, trivial⟩ <| hthen <| hret <| ?_
  rw [frs_get, Option.isSome_map]
  refine hleave trivial ?_
  refine hunlock muLib 1 rfl rfl Tryd.call101 ?_
  refine hmemE (fun w m => m.eqX 0 rfl (show _ = RBlk g 165 (scells 0 gm) from rfl)) ?_
  refine hmemE (X' := RSrv g gm l :: _) (fun w m => (m.perm (takeR_perm [0, 1, 1] _ [_, _, _] _ rfl)).pack) ?_
  exact hlast2 rfl rfl rfl [0] rfl [] rfl ⟨rfl, rfl, rfl⟩
/-- the frame of a name -/
def getF (fr : Frames) (nm : List UInt8) : Option BRow := (fr.find? (fun x => decide (x.1.1 = nm))).map (·.2)
theorem getF_eq : ∀ (fr : Frames) (nm : Dg), aget fr nm = getF fr nm.1
  | [], _ => rfl
  | (k, v) :: q, nm => by
    have := getF_eq q nm
    unfold getF at this ⊢
    simp only [aget, List.find?_cons]
    by_cases h : k = nm
    · subst h; simp
    · rw [if_neg h, this]
      have : ¬ k.1 = nm.1 := fun e => h (Subtype.ext e)
      simp [this]
theorem getF_mem {fr : Frames} {nm : List UInt8} {r : BRow} (h : getF fr nm = some r) : ∃ x ∈ fr, x.2 = r := by
  unfold getF at h
  cases hf : fr.find? (fun x => decide (x.1.1 = nm)) with
  | none => rw [hf] at h; cases h
  | some x =>
    rw [hf] at h
    exact ⟨x, List.mem_of_find?_eq_some hf, Option.some.inj h⟩
theorem getF_row {fr : Frames} {nm : List UInt8} {r : BRow} (h : getF fr nm = some r) : ∃ i : Nat, (fr.map (·.2))[i]? = some r := by
  unfold getF at h
  cases hf : fr.find? (fun x => decide (x.1.1 = nm)) with
  | none => rw [hf] at h; cases h
  | some x =>
    rw [hf] at h
    have hm : x.2 ∈ fr.map (·.2) := List.mem_map.2 ⟨x, List.mem_of_find?_eq_some hf, rfl⟩
    obtain ⟨i, hi⟩ := List.mem_iff_getElem?.1 hm
    exact ⟨i, by rw [hi]; exact h⟩
def FrOk (fr : Frames) : Prop := ∀ x ∈ fr, x.2.n ≤ 1000000 ∧ x.2.l.length = x.2.n
def nmOf (B : List UInt8) : List UInt8 := (B.drop 5).take 32
def AskOk (fr : Frames) (l : List UInt8) : Prop := takeE l = 0 ∧ OkW (takeB l) ∧ wkd (takeB l) = 1 ∧ ∀ r, getF fr (nmOf (takeB l)) = some r → r.n ≤ 4106
def SaysS (fr : Frames) (l : List UInt8) (is : Bool) (body : List UInt8) : Prop :=
  (AskOk fr l ∧ is = true ∧ body = putL (wbody (if (getF fr (nmOf (takeB l))).isSome then 2 else 3) (ws (takeB l)) (nmOf (takeB l)) (((getF fr (nmOf (takeB l))).map (·.l)).getD []))) ∨
  (¬ AskOk fr l ∧ is = false ∧ body = [])
theorem may3 {s n : Nat} (h : s < 4294967296) (hn : n = 0) : WMay ((3 : Nat) : Int) s n := ⟨by omega, .inl hn⟩
theorem may2 {s n : Nat} (h : s < 4294967296) (hn : n ≤ 4106) : WMay ((2 : Nat) : Int) s n := ⟨by omega, .inr ⟨rfl, hn⟩⟩
theorem sanswerC {g gm : Nat} {A : Option Addr} {n c : Nat} {l : List UInt8} {fr : Frames} (hc : n ≤ c) (hn : n ≤ 1000000) (hfr : FrOk fr) : Con Tryd.prog 52 [.pointer (some ⟨g, 0, none⟩), .slice A n c] [RSrv g gm fr] [RRd 1 A n (b8s l)] (fun v_ X_ S_ => ∃ v bn body is, v_ = (.tuple #[v, .bool is]) ∧ X_ = [RSrv g gm fr, ROwn 5 1 v bn (b8s body)] ∧ S_ = [] ∧ (body.length = bn ∧ SaysS fr l is body)) := by
  refine henter (N := 42) Tryd.func52 rfl rfl (by simp) fun b => ?_
  refine hfactC (fun m => rdB (m.rd 0 rfl)) ?_
  rintro ⟨hl_r, hA_r⟩
  refine hseq <| hreg <| hy (fun _ => y_assign rfl) <| hy (fun _ => y_assign rfl) <| hend <| hthen <| hseq <| hreg <| hy (fun _ => y_move rfl) <| ?_
  refine hx (xh_call rfl Tryd.call58 (wreadC (by omega) (by omega)) [] rfl [0] rfl ?_)
  rintro _ _ _ ⟨k, s, nm, body, v, err, bn, rfl, rfl, rfl, hp⟩
  refine hfactL (fun m => (m.own 0 rfl).slice) ?_
  rintro ⟨A_x, c_x, rfl, hc_x⟩
  refine hfactL (fun m => (m.ord 0 rfl).2.1) fun hA_x => ?_
  obtain ⟨hnm, hbl, hR⟩ := hp
  refine hy (fun _ => y_move rfl) <| hy (fun _ => y_extract rfl rfl) <| hy (fun _ => y_extract rfl rfl) <| ?_
  refine hx (xh_alloc ti111 (fun g6 => ?_))
  refine hx0 (xh_stA 0 rfl rfl rfl sz111 (mc_len hnm) (mc_one rfl) rfl ?_)
  refine hy (fun _ => y_assign rfl) <| hend <| hsub (ρ' := [(7, _), (6, _), (5, _), (4, _), (0, _), (1, _)]) ⟨rfl, rfl, rfl, rfl, rfl, rfl, trivial⟩ <| hmemQ (X' := [_, _, _]) (S' := [_]) (fun _ m => m) <| hthen <| hseq <| hseq <| hreg <| hy (fun _ => y_move rfl) <| hy (fun _ => y_neq rfl rfl) <| hend <| hsub (ρ' := [(19, _), (7, _), (6, _), (5, _), (4, _), (0, _), (1, _)]) ⟨rfl, rfl, rfl, rfl, rfl, rfl, rfl, trivial⟩ <| hthen <| ?_
  refine hif rfl (fun he => ?_) (fun he => ?_)
  · refine hseq <| hreg <| hy (fun _ => y_assign rfl) <| hy (fun _ => y_assign rfl) <| hend <| hthen <| hret <| hthen_ret <| ?_
    refine hmemQ (fun w m => m.addX (r' := ROwn 5 1 (.slice none 0 0) 0 []) (.refl _ _) (Own.nil _ _ _ _) (fun k hk => hk.elim)) ?_
    exact hret2 trivial rfl rfl rfl [3, 0] rfl [] rfl ⟨_, _, [], _, rfl, rfl, rfl, ⟨rfl, .inr ⟨(fun h => he (by rcases hR with h1 | h1 | h1 <;> first | exact absurd h.1 h1.1 | exact h1.2.2.2.2.2.2 | exact absurd h.2.1 h1.2.1)), rfl, rfl⟩⟩⟩
  · have he := Decidable.not_not.1 he
    have hR' : takeE l = 0 ∧ OkW (takeB l) ∧ k = wkd (takeB l) ∧ s = ws (takeB l) ∧ nm = nmOf (takeB l) ∧ body = (takeB l).drop 37 := by
      rcases hR with h1 | h1 | h1
      · exact absurd (h1.2.2.2.2.2 ▸ he) h1.1
      · exact ⟨h1.1, h1.2.1, h1.2.2.1, h1.2.2.2.1, h1.2.2.2.2.1, h1.2.2.2.2.2.1⟩
      · exact absurd (h1.2.2.2.2.2.2 ▸ he) (by decide)
    obtain ⟨h0, hW, rfl, rfl, rfl, rfl⟩ := hR'
    refine hcskip <| hthen <| hseq <| hreg <| hy (fun _ => y_move rfl) <| hy (fun _ => y_fld rfl fa111_2 (by decide)) <| hy (fun m => yV (y_ldN rfl ag23 sz23 (by rw [b8s_length]; exact hnm) (mc_nm (m.blk 0 rfl))) ((rfl : Value.agg _ = DK ⟨nmOf (takeB l), hnm⟩))) <| ?_
    refine hx (xh_call rfl Tryd.call102 (sgetC (nm := ⟨nmOf (takeB l), hnm⟩)) [2] rfl [] rfl ?_)
    rintro _ _ _ ⟨rfl, rfl, rfl⟩
    rw [getF_eq]
    have hsl : ws (takeB l) < 4294967296 := num4_lt _
    have hbn : bn = (takeB l).length - 37 := by rw [← hbl, List.length_drop]
    rcases hq : getF fr (nmOf (takeB l)) with _ | r
    · refine hmemL (fun w m => m.addS (r' := RRd 1 none 0 []) (.refl _ _) (Rd.nil _ _ _) (fun k hk => absurd rfl hk.1)) ?_
      have hA_f : 0 < 0 → (none : Option Addr) ≠ none := fun h => absurd h (by decide)
      refine hy (fun _ => y_move rfl) <| hy (fun _ => y_extract rfl rfl) <| hy (fun _ => y_extract rfl rfl) <| hy (fun _ => y_assign rfl) <| hy (fun _ => y_assign rfl) <| hend <| hsub (ρ' := [(9, _), (8, _), (19, _), (7, _), (6, _), (5, _), (4, _), (0, _), (1, _)]) ⟨rfl, rfl, rfl, rfl, rfl, rfl, rfl, rfl, rfl, trivial⟩ <| hmemQ (X' := [_, _, _]) (S' := [_, _]) (fun _ m => m) <| hthen <| hseq <| hreg <| hy (fun m => y_ldN rfl ag111 sz111 (mc_len hnm) ((m.blk 1 rfl).cells0)) <| hy (fun _ => y_move rfl) <| hy (fun _ => y_move rfl) <| ?_
      refine hx (xh_call rfl Tryd.call103 (wanswerC (by omega) (by omega) (l := [])) [] rfl [0] rfl ?_)
      rintro _ _ _ ⟨k1, s1, nm1, body2, v2, err2, bn2, rfl, rfl, rfl, hp2⟩
      refine hfactL (fun m => (m.own 0 rfl).slice) ?_
      rintro ⟨A_x2, c_x2, rfl, hc_x2⟩
      refine hfactL (fun m => (m.ord 0 rfl).2.1) fun hA_x2 => ?_
      obtain ⟨hnm1, hbl1, hA⟩ := hp2
      refine hy (fun _ => y_move rfl) <| hy (fun _ => y_extract rfl rfl) <| hy (fun _ => y_extract rfl rfl) <| ?_
      refine hx (xh_alloc ti111 (fun g10 => ?_))
      refine hx0 (xh_stA 0 rfl rfl rfl sz111 (mc_len hnm1) (mc_one rfl) rfl ?_)
      refine hy (fun _ => y_assign rfl) <| hend <| hsub (ρ' := [(7, _), (10, _), (9, _), (8, _), (19, _), (6, _), (5, _), (4, _), (0, _), (1, _)]) ⟨rfl, rfl, rfl, rfl, rfl, rfl, rfl, rfl, rfl, rfl, trivial⟩ <| hmemQ (X' := [_, _, _, _, _]) (S' := [_, _]) (fun _ m => m) <| hthen <| hseq <| hseq <| hreg <| hy (fun _ => y_move rfl) <| hy (fun _ => y_neq rfl rfl) <| hend <| hsub (ρ' := [(35, _), (7, _), (10, _), (9, _), (8, _), (19, _), (6, _), (5, _), (4, _), (0, _), (1, _)]) ⟨rfl, rfl, rfl, rfl, rfl, rfl, rfl, rfl, rfl, rfl, rfl, trivial⟩ <| hthen <| ?_
      refine hif rfl (fun he1 => ?_) (fun he1 => ?_)
      · refine hseq <| hreg <| hy (fun _ => y_assign rfl) <| hy (fun _ => y_assign rfl) <| hend <| hthen <| hret <| hthen_ret <| ?_
        refine hmemQ (fun w m => m.addX (r' := ROwn 5 1 (.slice none 0 0) 0 []) (.refl _ _) (Own.nil _ _ _ _) (fun k hk => hk.elim)) ?_
        exact hret2 trivial rfl rfl rfl [3, 0] rfl [] rfl ⟨_, _, [], _, rfl, rfl, rfl, ⟨rfl, .inr ⟨(fun h => he1 (by rcases hA with h1 | h1; exact h1.2.1; exact absurd ⟨h.2.2.1, by rw [hbn]; exact h.2.1.2, (fun e => by cases e)⟩ h1.1)), rfl, rfl⟩⟩⟩
      · have he1 := Decidable.not_not.1 he1
        have hA' : AnsOk (wkd (takeB l)) (ws (takeB l)) bn false 0 ∧ k1 = ((3 : Nat) : Int) ∧ s1 = (ws (takeB l) : Nat) ∧ nm1 = nmOf (takeB l) ∧ body2 = [] := by
          rcases hA with h1 | h1
          · exact ⟨h1.1, h1.2.2.1, h1.2.2.2.1, h1.2.2.2.2.1, h1.2.2.2.2.2⟩
          · exact absurd (h1.2.1 ▸ he1) (by decide)
        obtain ⟨hAns, rfl, rfl, rfl, rfl⟩ := hA'
        refine hcskip <| hthen <| hseq <| hreg <| hy (fun m => y_ldN rfl ag111 sz111 (mc_len hnm) ((m.blk 0 rfl).cells0)) <| ?_
        refine hx (xh_calll rfl Tryd.call104 (wwriteC (by omega) (by omega) (may3 hsl (by rw [← hbl1]; rfl))) [] rfl (.x 1 rfl .own .nil) ?_)
        rintro _ _ _ ⟨v3, rfl, rfl, rfl⟩
        refine ⟨rfl, ?_⟩
        refine hfactL (fun m => (m.own 0 rfl).slice) ?_
        rintro ⟨A_x3, c_x3, rfl, hc_x3⟩
        refine hfactL (fun m => (m.ord 0 rfl).2.1) fun hA_x3 => ?_
        refine hy (fun _ => y_move rfl) <| hy (fun _ => y_extract rfl rfl) <| hy (fun _ => y_extract rfl rfl) <| hy (fun _ => y_assign rfl) <| hy (fun _ => y_assign rfl) <| hend <| hsub (ρ' := [(11, _), (35, _), (7, _), (10, _), (9, _), (8, _), (19, _), (6, _), (5, _), (4, _), (0, _), (1, _)]) ⟨rfl, rfl, rfl, rfl, rfl, rfl, rfl, rfl, rfl, rfl, rfl, rfl, trivial⟩ <| hmemQ (X' := [_, _, _, _, _, _]) (S' := [_, _]) (fun _ m => m) <| hthen <| hseq <| hreg <| hy (fun _ => y_move rfl) <| hy (fun _ => y_assign rfl) <| hy (fun _ => y_assign rfl) <| hend <| hsub (ρ' := [(5, _), (4, _), (11, _), (35, _), (7, _), (10, _), (9, _), (8, _), (19, _), (6, _), (0, _), (1, _)]) ⟨rfl, rfl, rfl, rfl, rfl, rfl, rfl, rfl, rfl, rfl, rfl, rfl, trivial⟩ <| hthen <| hret <| ?_
        exact hret2 trivial rfl rfl rfl [3, 0] rfl [] rfl ⟨_, _, putL (wbody 3 (ws (takeB l)) (nmOf (takeB l)) []), _, rfl, rfl, rfl, ⟨by rw [putL_length, wbody_len hnm, hbl1], .inl ⟨⟨h0, hW, hAns.1, (fun r e => by rw [hq] at e; cases e)⟩, rfl, by rw [hq]; rfl⟩⟩⟩
    · obtain ⟨x0, hmx, rfl⟩ := getF_mem hq
      obtain ⟨hrn, hrl⟩ := hfr x0 hmx
      obtain ⟨ri, hri⟩ := getF_row hq
      refine hy (fun _ => y_move rfl) <| hy (fun _ => y_extract rfl rfl) <| hy (fun _ => y_extract rfl rfl) <| hy (fun _ => y_assign rfl) <| hy (fun _ => y_assign rfl) <| hend <| hsub (ρ' := [(9, _), (8, _), (19, _), (7, _), (6, _), (5, _), (4, _), (0, _), (1, _)]) ⟨rfl, rfl, rfl, rfl, rfl, rfl, rfl, rfl, rfl, trivial⟩ <| hthen <| hseq <| hreg <| hy (fun m => y_ldN rfl ag111 sz111 (mc_len hnm) ((m.blk 1 rfl).cells0)) <| hy (fun _ => y_move rfl) <| hy (fun _ => y_move rfl) <| ?_
      refine hx (xh_calll rfl Tryd.call103 (wanswerC (by omega) (by omega) (l := x0.2.l)) [] rfl (.x 0 rfl ((View.comp 2 rfl).trans (View.row hri)) .nil) ?_)
      rintro _ _ _ ⟨k1, s1, nm1, body2, v2, err2, bn2, rfl, rfl, rfl, hp2⟩
      refine ⟨rfl, ?_⟩
      refine hfactL (fun m => (m.own 0 rfl).slice) ?_
      rintro ⟨A_x2, c_x2, rfl, hc_x2⟩
      refine hfactL (fun m => (m.ord 0 rfl).2.1) fun hA_x2 => ?_
      obtain ⟨hnm1, hbl1, hA⟩ := hp2
      refine hy (fun _ => y_move rfl) <| hy (fun _ => y_extract rfl rfl) <| hy (fun _ => y_extract rfl rfl) <| ?_
      refine hx (xh_alloc ti111 (fun g10 => ?_))
      refine hx0 (xh_stA 0 rfl rfl rfl sz111 (mc_len hnm1) (mc_one rfl) rfl ?_)
      refine hy (fun _ => y_assign rfl) <| hend <| hsub (ρ' := [(7, _), (10, _), (9, _), (8, _), (19, _), (6, _), (5, _), (4, _), (0, _), (1, _)]) ⟨rfl, rfl, rfl, rfl, rfl, rfl, rfl, rfl, rfl, rfl, trivial⟩ <| hmemQ (X' := [_, _, _, _, _]) (S' := [_]) (fun _ m => m) <| hthen <| hseq <| hseq <| hreg <| hy (fun _ => y_move rfl) <| hy (fun _ => y_neq rfl rfl) <| hend <| hsub (ρ' := [(35, _), (7, _), (10, _), (9, _), (8, _), (19, _), (6, _), (5, _), (4, _), (0, _), (1, _)]) ⟨rfl, rfl, rfl, rfl, rfl, rfl, rfl, rfl, rfl, rfl, rfl, trivial⟩ <| hthen <| ?_
      refine hif rfl (fun he1 => ?_) (fun he1 => ?_)
      · refine hseq <| hreg <| hy (fun _ => y_assign rfl) <| hy (fun _ => y_assign rfl) <| hend <| hthen <| hret <| hthen_ret <| ?_
        refine hmemQ (fun w m => m.addX (r' := ROwn 5 1 (.slice none 0 0) 0 []) (.refl _ _) (Own.nil _ _ _ _) (fun k hk => hk.elim)) ?_
        exact hret2 trivial rfl rfl rfl [3, 0] rfl [] rfl ⟨_, _, [], _, rfl, rfl, rfl, ⟨rfl, .inr ⟨(fun h => he1 (by rcases hA with h1 | h1; exact h1.2.1; exact absurd ⟨h.2.2.1, by rw [hbn]; exact h.2.1.2, (fun _ => h.2.2.2 _ hq)⟩ h1.1)), rfl, rfl⟩⟩⟩
      · have he1 := Decidable.not_not.1 he1
        have hA' : AnsOk (wkd (takeB l)) (ws (takeB l)) bn true x0.2.n ∧ k1 = ((2 : Nat) : Int) ∧ s1 = (ws (takeB l) : Nat) ∧ nm1 = nmOf (takeB l) ∧ body2 = x0.2.l := by
          rcases hA with h1 | h1
          · exact ⟨h1.1, h1.2.2.1, h1.2.2.2.1, h1.2.2.2.2.1, h1.2.2.2.2.2⟩
          · exact absurd (h1.2.1 ▸ he1) (by decide)
        obtain ⟨hAns, rfl, rfl, rfl, rfl⟩ := hA'
        refine hcskip <| hthen <| hseq <| hreg <| hy (fun m => y_ldN rfl ag111 sz111 (mc_len hnm) ((m.blk 0 rfl).cells0)) <| ?_
        refine hx (xh_calll rfl Tryd.call104 (wwriteC (by omega) (by omega) (may2 hsl (by rw [← hbl1, hrl]; exact hAns.2.2 rfl))) [] rfl (.x 1 rfl .own .nil) ?_)
        rintro _ _ _ ⟨v3, rfl, rfl, rfl⟩
        refine ⟨rfl, ?_⟩
        refine hfactL (fun m => (m.own 0 rfl).slice) ?_
        rintro ⟨A_x3, c_x3, rfl, hc_x3⟩
        refine hfactL (fun m => (m.ord 0 rfl).2.1) fun hA_x3 => ?_
        refine hy (fun _ => y_move rfl) <| hy (fun _ => y_extract rfl rfl) <| hy (fun _ => y_extract rfl rfl) <| hy (fun _ => y_assign rfl) <| hy (fun _ => y_assign rfl) <| hend <| hsub (ρ' := [(11, _), (35, _), (7, _), (10, _), (9, _), (8, _), (19, _), (6, _), (5, _), (4, _), (0, _), (1, _)]) ⟨rfl, rfl, rfl, rfl, rfl, rfl, rfl, rfl, rfl, rfl, rfl, rfl, trivial⟩ <| hmemQ (X' := [_, _, _, _, _, _]) (S' := [_]) (fun _ m => m) <| hthen <| hseq <| hreg <| hy (fun _ => y_move rfl) <| hy (fun _ => y_assign rfl) <| hy (fun _ => y_assign rfl) <| hend <| hsub (ρ' := [(5, _), (4, _), (11, _), (35, _), (7, _), (10, _), (9, _), (8, _), (19, _), (6, _), (0, _), (1, _)]) ⟨rfl, rfl, rfl, rfl, rfl, rfl, rfl, rfl, rfl, rfl, rfl, rfl, trivial⟩ <| hthen <| hret <| ?_
        exact hret2 trivial rfl rfl rfl [3, 0] rfl [] rfl ⟨_, _, putL (wbody 2 (ws (takeB l)) (nmOf (takeB l)) x0.2.l), _, rfl, rfl, rfl, ⟨by rw [putL_length, wbody_len hnm, hbl1], .inl ⟨⟨h0, hW, hAns.1, (fun r2 e => by rw [hq] at e; cases e; exact hAns.2.2 rfl)⟩, rfl, by rw [hq]; rfl⟩⟩⟩
end Go.Proofs.YtfikjheicjamhaaDoor
end
section
/- Bytes in fewer (layer 5), over plain lists: tokens, what they make. No program. -/
set_option linter.unusedVariables false
set_option linter.unusedSimpArgs false
namespace Go.Hx
open Go.Eng
/-- the first token: how many bytes it has, how many it makes, its distance (0: literal ones); false: it ends too soon -/
def tokL (l : List UInt8) : Nat × Nat × Nat × Bool :=
  if (l.getD 0 0).toNat < 128 then ((l.getD 0 0).toNat + 2, (l.getD 0 0).toNat + 1, 0, decide ((l.getD 0 0).toNat + 2 ≤ l.length))
  else if l.length < 3 then (0, 0, 0, false) else (3, (l.getD 0 0).toNat - 124, 1 + (l.getD 1 0).toNat + 256 * (l.getD 2 0).toNat, true)
/-- bytes once more -/
def again (d : Nat) : Nat → List UInt8 → List UInt8
  | 0, o => o
  | k + 1, o => again d k (o ++ [o.getD (o.length - d) 0])
/-- what a token makes -/
def made (l o : List UInt8) : List UInt8 := if (tokL l).2.2.1 = 0 then o ++ (l.drop 1).take ((tokL l).1 - 1) else again (tokL l).2.2.1 (tokL l).2.1 o
end Go.Hx
end
section
/- Bytes in fewer (layer 5), over plain lists: matches, packing, and back. No program. -/
set_option linter.unusedVariables false
set_option linter.unusedSimpArgs false
namespace Go.Hx
open Go.Eng
/-- how many bytes from i on are those from k on, 131 at most -/
def lngF (b : List UInt8) (i k : Nat) : Nat → Nat → Nat
  | 0, n => n
  | f + 1, n => if i + n < b.length ∧ b.getD (i + n) 0 = b.getD (k + n) 0 then lngF b i k f (n + 1) else n
def lng (b : List UInt8) (i k : Nat) : Nat := lngF b i k 131 0
theorem lngF_bounds (b : List UInt8) (i k : Nat) : ∀ f n, n ≤ lngF b i k f n ∧ lngF b i k f n ≤ n + f ∧ (i + n ≤ b.length → i + lngF b i k f n ≤ b.length) ∧ ∀ j, n ≤ j → j < lngF b i k f n → b.getD (i + j) 0 = b.getD (k + j) 0
  | 0, n => ⟨Nat.le_refl _, Nat.le_refl _, fun h => h, fun j h1 h2 => by simp only [lngF] at h2; omega⟩
  | f + 1, n => by
    unfold lngF
    split
    · rename_i h
      obtain ⟨h1, h2, h3, h4⟩ := lngF_bounds b i k f (n + 1)
      refine ⟨by omega, by omega, fun _ => h3 (by omega), fun j hj hj2 => ?_⟩
      rcases Nat.eq_or_lt_of_le hj with e | e
      · rw [← e]; exact h.2
      · exact h4 j e hj2
    · exact ⟨Nat.le_refl _, by omega, fun h => h, fun j h1 h2 => by omega⟩
theorem lng_le (b : List UInt8) (i k : Nat) : lng b i k ≤ 131 := by have := (lngF_bounds b i k 131 0).2.1; unfold lng; omega
theorem lng_in {b : List UInt8} {i : Nat} (k : Nat) (h : i ≤ b.length) : i + lng b i k ≤ b.length := (lngF_bounds b i k 131 0).2.2.1 (by omega)
theorem lng_eq {b : List UInt8} {i k j : Nat} (h : j < lng b i k) : b.getD (i + j) 0 = b.getD (k + j) 0 := (lngF_bounds b i k 131 0).2.2.2 j (Nat.zero_le _) h
theorem lngF_stop {b : List UInt8} {i k f n : Nat} (h : ¬ (i + n < b.length ∧ b.getD (i + n) 0 = b.getD (k + n) 0)) : lngF b i k f n = n := by
  cases f with
  | zero => rfl
  | succ f => rw [lngF, if_neg h]
theorem lngF_more {b : List UInt8} {i k f n : Nat} (hf : 0 < f) (h : i + n < b.length ∧ b.getD (i + n) 0 = b.getD (k + n) 0) : lngF b i k f n = lngF b i k (f - 1) (n + 1) := by
  cases f with
  | zero => omega
  | succ f => rw [lngF, if_pos h]; rfl
/-- four bytes -/
def key4 (b : List UInt8) (p : Nat) : List UInt8 := (b.drop p).take 4
theorem key4_length {b : List UInt8} {p : Nat} (h : p + 4 ≤ b.length) : (key4 b p).length = 4 := by unfold key4; rw [List.length_take, List.length_drop]; omega
theorem key4_eq {b : List UInt8} {i p : Nat} (hi : i + 4 ≤ b.length) (hp : p < i) : key4 b p = key4 b i ↔ 3 < lng b i p := by
  have e : ∀ q, q + 4 ≤ b.length → key4 b q = [b.getD (q + 0) 0, b.getD (q + 1) 0, b.getD (q + 2) 0, b.getD (q + 3) 0] := by
    intro q hq
    apply List.ext_getElem?
    intro j
    unfold key4
    rw [List.getElem?_take, List.getElem?_drop]
    rcases j with _ | _ | _ | _ | j
    all_goals simp
    all_goals (try (rw [List.getElem?_eq_getElem (by omega)]; rfl))
    all_goals (try (intro h; omega))
  rw [e p (by omega), e i hi]
  constructor
  · intro h
    simp only [List.cons.injEq, and_true] at h
    have e0 : lng b i p = lngF b i p 127 4 := by
      unfold lng
      rw [lngF_more (by decide) ⟨by omega, h.1.symm⟩, lngF_more (by decide) ⟨by omega, h.2.1.symm⟩, lngF_more (by decide) ⟨by omega, h.2.2.1.symm⟩, lngF_more (by decide) ⟨by omega, h.2.2.2.symm⟩]
    rw [e0]
    exact (lngF_bounds b i p 127 4).1
  · intro h
    simp only [List.cons.injEq, and_true]
    exact ⟨(lng_eq (by omega)).symm, (lng_eq (by omega)).symm, (lng_eq (by omega)).symm, (lng_eq (by omega)).symm⟩
/-- one distance more -/
def mstep (b : List UInt8) (i : Nat) (s : Nat × Nat) (d : Nat) : Nat × Nat := if 3 < lng b i (i - d) ∧ s.1 < lng b i (i - d) then (lng b i (i - d), d) else s
def matchK (b : List UInt8) (i k : Nat) : Nat × Nat := (List.range' 1 k).foldl (mstep b i) (0, 0)
theorem matchK_succ (b : List UInt8) (i k : Nat) : matchK b i (k + 1) = mstep b i (matchK b i k) (k + 1) := by
  unfold matchK
  rw [List.range'_concat, List.foldl_append]
  simp [Nat.add_comm]
/-- the match at a place: its length, its distance -/
def matchL (b : List UInt8) (i : Nat) : Nat × Nat := matchK b i (min i 1024)
/-- one place more, from behind -/
def pstep (b : List UInt8) (i : Nat) (s : Nat × Nat) (p : Nat) : Nat × Nat := if 1024 < i - p then s else if s.1 < lng b i p then (lng b i p, i - p) else s
/-- the places ahead that have these four bytes -/
def posL (b : List UInt8) (n : Nat) (k : List UInt8) : List Nat := (List.range n).filter fun p => decide (key4 b p = k)
theorem posL_succ (b : List UInt8) (n : Nat) (k : List UInt8) : posL b (n + 1) k = posL b n k ++ if key4 b n = k then [n] else [] := by
  unfold posL
  rw [List.range_succ, List.filter_append]
  congr 1
  by_cases h : key4 b n = k <;> simp [h]
theorem posL_lt {b : List UInt8} {n p : Nat} {k : List UInt8} (h : p ∈ posL b n k) : p < n ∧ key4 b p = k := by
  unfold posL at h
  simpa using h
theorem posL_length (b : List UInt8) (n : Nat) (k : List UInt8) : (posL b n k).length ≤ n := by
  unfold posL
  exact Nat.le_trans (List.length_filter_le _ _) (by simp)
theorem rev_range (i : Nat) : (List.range i).reverse = (List.range' 1 i).map fun d => i - d := by
  apply List.ext_getElem
  · simp
  · intro j h1 h2
    simp
    omega
theorem foldl_skip {α β : Type} (f : β → α → β) (s : β) : ∀ (l : List α), (∀ x ∈ l, ∀ t, f t x = t) → l.foldl f s = s
  | [], _ => rfl
  | x :: l, h => by
    rw [List.foldl_cons, h x (by simp) s]
    exact foldl_skip f s l (fun y hy => h y (List.mem_cons_of_mem _ hy))
theorem match_eq {b : List UInt8} {i : Nat} (hi : i + 4 ≤ b.length) : (posL b i (key4 b i)).reverse.foldl (pstep b i) (0, 0) = matchL b i := by
  unfold posL matchL
  rw [← List.filter_reverse, rev_range, List.filter_map, List.foldl_map, List.foldl_filter]
  have h1 : ∀ (l : List Nat) (s : Nat × Nat), (∀ d ∈ l, 1 ≤ d ∧ d ≤ i) → l.foldl (fun s d => if ((fun p => decide (key4 b p = key4 b i)) ∘ fun d => i - d) d = true then pstep b i s (i - d) else s) s = l.foldl (fun s d => if 1024 < d then s else mstep b i s d) s := by
    intro l
    induction l with
    | nil => intro s _; rfl
    | cons d l ih =>
      intro s hd
      simp only [List.foldl_cons]
      rw [ih _ (fun x hx => hd x (List.mem_cons_of_mem _ hx))]
      congr 1
      obtain ⟨hd1, hd2⟩ := hd d (by simp)
      have e := key4_eq (p := i - d) hi (by omega)
      simp only [Function.comp_apply, decide_eq_true_eq]
      unfold pstep mstep
      rw [show i - (i - d) = d by omega]
      by_cases hk : key4 b (i - d) = key4 b i
      · rw [if_pos hk]
        have := e.1 hk
        split
        · rfl
        · by_cases h : s.1 < lng b i (i - d)
          · rw [if_pos h, if_pos ⟨this, h⟩]
          · rw [if_neg h, if_neg (fun q => h q.2)]
      · rw [if_neg hk]
        split
        · rfl
        · rw [if_neg (fun q => hk (e.2 q.1))]
  rw [h1 _ _ (fun d hd => by simp at hd; omega)]
  have h2 : List.range' 1 i = List.range' 1 (min i 1024) ++ List.range' (1 + min i 1024) (i - min i 1024) := by
    rw [List.range'_append_1]
    congr 1
    omega
  rw [h2, List.foldl_append, foldl_skip _ _ (List.range' (1 + min i 1024) (i - min i 1024))]
  · unfold matchK
    have h3 : ∀ (l : List Nat) (s : Nat × Nat), (∀ d ∈ l, d ≤ 1024) → l.foldl (fun s d => if 1024 < d then s else mstep b i s d) s = l.foldl (mstep b i) s := by
      intro l
      induction l with
      | nil => intro s _; rfl
      | cons d l ih =>
        intro s hd
        simp only [List.foldl_cons]
        rw [if_neg (by have := hd d (by simp); omega)]
        exact ih _ (fun x hx => hd x (List.mem_cons_of_mem _ hx))
    exact h3 _ _ (fun d hd => by simp at hd; omega)
  · intro d hd t
    simp at hd
    rw [if_pos (by omega)]
theorem posL_sorted (b : List UInt8) (n : Nat) (k : List UInt8) : (posL b n k).Pairwise (· < ·) := (List.pairwise_lt_range).filter _
theorem match_brk {b : List UInt8} {i n x : Nat} {k : List UInt8} {pre rest : List Nat} {s : Nat × Nat} (h : (posL b n k).reverse = pre ++ x :: rest) (hx : 1024 < i - x) : (posL b n k).reverse.foldl (pstep b i) s = pre.foldl (pstep b i) s := by
  have hs : (pre ++ x :: rest).Pairwise (· > ·) := by
    rw [← h, List.pairwise_reverse]
    exact posL_sorted b n k
  rw [h, List.foldl_append]
  refine foldl_skip _ _ _ fun y hy t => ?_
  have h1 := (List.pairwise_cons.1 (List.pairwise_append.1 hs).2.1).1
  unfold pstep
  rw [if_pos]
  rcases List.mem_cons.1 hy with rfl | hy
  · exact hx
  · have := h1 y hy
    omega
theorem match_short {b : List UInt8} {i : Nat} (hi : i ≤ b.length) (h : b.length < i + 4) : matchL b i = (0, 0) := by
  unfold matchL matchK
  refine foldl_skip _ _ _ fun d hd t => ?_
  unfold mstep
  rw [if_neg]
  intro q
  have := lng_in (i - d) hi
  omega
/-- what a match tells -/
theorem matchK_ok (b : List UInt8) (i : Nat) (hi : i ≤ b.length) : ∀ k, k ≤ i → (matchK b i k = (0, 0)) ∨ (4 ≤ (matchK b i k).1 ∧ (matchK b i k).1 ≤ 131 ∧ 1 ≤ (matchK b i k).2 ∧ (matchK b i k).2 ≤ k ∧ i + (matchK b i k).1 ≤ b.length ∧ (matchK b i k).1 = lng b i (i - (matchK b i k).2))
  | 0, _ => .inl rfl
  | k + 1, hk => by
    rw [matchK_succ]
    unfold mstep
    split
    · rename_i h
      exact .inr ⟨by show 4 ≤ lng _ _ _; omega, lng_le _ _ _, by show 1 ≤ k + 1; omega, Nat.le_refl _, lng_in _ hi, rfl⟩
    · rcases matchK_ok b i hi k (by omega) with h | h
      · exact .inl h
      · exact .inr ⟨h.1, h.2.1, h.2.2.1, by omega, h.2.2.2.2.1, h.2.2.2.2.2⟩
theorem matchL_ok {b : List UInt8} {i : Nat} (hi : i ≤ b.length) : (matchL b i = (0, 0)) ∨ (4 ≤ (matchL b i).1 ∧ (matchL b i).1 ≤ 131 ∧ 1 ≤ (matchL b i).2 ∧ (matchL b i).2 ≤ min i 1024 ∧ i + (matchL b i).1 ≤ b.length ∧ (matchL b i).1 = lng b i (i - (matchL b i).2)) := matchK_ok b i hi _ (by omega)
/-- literal bytes as tokens -/
def litL (l : List UInt8) : List UInt8 := if h : l = [] then [] else UInt8.ofNat (min l.length 128 - 1) :: l.take 128 ++ litL (l.drop 128)
termination_by l.length
decreasing_by
  have := List.length_pos_iff.2 h
  rw [List.length_drop]
  omega
theorem litL_nil : litL [] = [] := by rw [litL]; rfl
theorem litL_cons {l : List UInt8} (h : l ≠ []) : litL l = UInt8.ofNat (min l.length 128 - 1) :: l.take 128 ++ litL (l.drop 128) := by rw [litL, dif_neg h]
theorem litL_length (l : List UInt8) : (litL l).length ≤ 2 * l.length := by
  by_cases h : l = []
  · subst h; rw [litL_nil]; simp
  · have hp := List.length_pos_iff.2 h
    have hd : (l.drop 128).length = l.length - 128 := List.length_drop
    have := litL_length (l.drop 128)
    rw [litL_cons h]
    simp only [List.length_append, List.length_cons, List.length_take]
    omega
termination_by l.length
decreasing_by
  rw [List.length_drop]
  have := List.length_pos_iff.2 h
  omega
/-- a match as a token -/
def tokM (m : Nat × Nat) : List UInt8 := [UInt8.ofNat (124 + m.1), UInt8.ofNat (m.2 - 1), UInt8.ofNat ((m.2 - 1) / 256)]
def packF (b : List UInt8) (i : Nat) (own out : List UInt8) : List UInt8 :=
  if h : i < b.length then
    if h0 : (matchL b i).1 = 0 then packF b (i + 1) (own ++ [b.getD i 0]) out
    else packF b (i + (matchL b i).1) [] (out ++ litL own ++ tokM (matchL b i))
  else out ++ litL own
termination_by b.length - i
def packL (b : List UInt8) : List UInt8 := packF b 0 [] []
theorem packF_end {b own out : List UInt8} {i : Nat} (h : ¬ i < b.length) : packF b i own out = out ++ litL own := by rw [packF, dif_neg h]
theorem packF_own {b own out : List UInt8} {i : Nat} (h : i < b.length) (h0 : (matchL b i).1 = 0) : packF b i own out = packF b (i + 1) (own ++ [b.getD i 0]) out := by rw [packF, dif_pos h, dif_pos h0]
theorem packF_match {b own out : List UInt8} {i : Nat} (h : i < b.length) (h0 : (matchL b i).1 ≠ 0) : packF b i own out = packF b (i + (matchL b i).1) [] (out ++ litL own ++ tokM (matchL b i)) := by rw [packF, dif_pos h, dif_neg h0]
theorem packF_length : ∀ (b : List UInt8) (i : Nat) (own out : List UInt8), i ≤ b.length → out.length + 2 * own.length ≤ 2 * i → (packF b i own out).length ≤ 2 * b.length
  | b, i, own, out, hi, h => by
    by_cases hlt : i < b.length
    · by_cases h0 : (matchL b i).1 = 0
      · rw [packF_own hlt h0]
        exact packF_length b (i + 1) _ _ (by omega) (by simp; omega)
      · rw [packF_match hlt h0]
        rcases matchL_ok hi with hm | hm
        · rw [hm] at h0; exact absurd rfl h0
        · have := litL_length own
          exact packF_length b _ _ _ (by omega) (by simp [tokM]; omega)
    · rw [packF_end hlt, List.length_append]
      have := litL_length own
      omega
termination_by b i => b.length - i
theorem packL_length (b : List UInt8) : (packL b).length ≤ 2 * b.length := packF_length b 0 [] [] (Nat.zero_le _) (by simp)
/-! ### back -/
/-! ### as the document says -/
end Go.Hx
end
section
/- The engine over things in memory, eighth part: panics that go through a function's end, and what recovers them. No statement is proved here. -/
set_option linter.unusedVariables false
set_option linter.unusedSimpArgs false
set_option linter.unusedSectionVars false
namespace Go.Eng
open Go.RowKit
/-- a panic with one value that nobody has recovered -/
abbrev pan (v : Value) : List PanicEntry := [{ v, recovered := false }]
/-- how a call ends: with a value, or in a panic -/
def RE (b : Base) (R Rp : Value → List Res → List Res → Prop) : Ending → World → Prop := fun e w' =>
  (∃ v X' S', e = .returned v ∧ R v X' S' ∧ Mem b X' S' w') ∨ (∃ v X' S', e = .panicked (pan v) ∧ Rp v X' S' ∧ Mem b X' S' w')
/-- a contract of what may end in a panic -/
def ConE (P : Program) (f : Nat) (args : List Value) (X0 S0 : List Res) (R Rp : Value → List Res → List Res → Prop) : Prop :=
  ∀ w, Mem ⟨w, feet X0, feet S0⟩ X0 S0 w → Calls P f args.toArray w (RE ⟨w, feet X0, feet S0⟩ R Rp)
theorem ConE.mono {P : Program} {f : Nat} {vs : List Value} {X0 S0 : List Res} {R Rp R' Rp' : Value → List Res → List Res → Prop} (h : ConE P f vs X0 S0 R Rp) (h1 : ∀ v X S, R v X S → R' v X S) (h2 : ∀ v X S, Rp v X S → Rp' v X S) : ConE P f vs X0 S0 R' Rp' := fun w m =>
  Calls.mono (h w m) (fun e w' hr => by
    rcases hr with ⟨v, X', S', a1, a2, a3⟩ | ⟨v, X', S', a1, a2, a3⟩
    · exact .inl ⟨v, X', S', a1, h1 _ _ _ a2, a3⟩
    · exact .inr ⟨v, X', S', a1, h2 _ _ _ a2, a3⟩)
section
variable {P : Program} {Q : Exit → Act → World → Prop} {N : Nat} {D : List Deferred} {ρ : Env} {b : Base} {X X' X0 Xr S S' S0 : List Res} {ty : TypeId} {x : Operand} {K : Value → List Res → List Res → Prop}
end
section
variable {P : Program} {fn : Func} {R Rp : Value → List Res → List Res → Prop} {N : Nat} {D : List Deferred} {ρ : Env} {b : Base} {X X' Xz Xr X0 S S' S0 : List Res} {e : Exit} {u : FrameMode}
end
/-! ### what recovers -/
section
variable {P : Program} {ops : Array Oper} {fn : Func} {N : Nat} {D : List Deferred} {ρ ρ' : Env} {w : World} {c₀ : Frame} {cs : List Frame} {R : Ending → FrameMode → World → Prop} {Q : Exit → Act → List Frame → World → Prop} {op : Op} {ty : TypeId} {pos : String} {af : Array Edge} {d : Nat} {v : Value} {rest : List Nat} {u : FrameMode}
end
end Go.Eng
end
section
/- The engine over things in memory, ninth part: a panic out of a region whose order is open. No statement is proved here. -/
set_option linter.unusedVariables false
set_option linter.unusedSimpArgs false
set_option linter.unusedSectionVars false
namespace Go.Eng
open Go.RowKit
/-- but for these temporaries the same -/
def Agree (ds : List Nat) (a a' : Act) : Prop := a'.defers = a.defers ∧ a'.tmps.size = a.tmps.size ∧ ∀ t : Nat, t ∉ ds → a'.tmps[t]? = a.tmps[t]?
theorem Agree.refl (ds : List Nat) (a : Act) : Agree ds a a := ⟨rfl, rfl, fun _ _ => rfl⟩
theorem Agree.put {ds : List Nat} {a a' : Act} {d : Nat} {v : Value} (hd : d ∈ ds) (h : Agree ds a a') : Agree ds (a.put (some d) v) a' := by
  obtain ⟨h1, h2, h3⟩ := h
  refine ⟨h1, by rw [h2]; simp [Act.put], fun t ht => ?_⟩
  rw [h3 t ht]
  have hne : d ≠ t := fun e => ht (e ▸ hd)
  simp only [Act.put]
  rw [Array.getElem?_setIfInBounds_ne hne]
section
variable {P : Program} {ops : Array Oper} {Q : Exit → Act → World → Prop}
end
section
variable {P : Program} {ops : Array Oper} {Q : Exit → Act → World → Prop} {N : Nat} {D : List Deferred} {ρ ρ' : Env} {b : Base} {X X' X0 Xr S S' S0 X1 S1 : List Res} {k c : Nat} {ds : List Nat}
end
/-! ### a closure that recovers: its first region -/
section
variable {P : Program} {ops : Array Oper} {fn : Func} {Q : Exit → Act → List Frame → World → Prop} {N : Nat} {D : List Deferred} {ρ : Env} {b : Base} {X X' S S' : List Res} {cs : List Frame} {c₀ : Frame} {rest : List Nat} {op : Op} {ty : TypeId} {pos : String} {af : Array Edge} {d i : Nat} {v : Value}
end
/-! ### panic, and assertions -/
section
variable {P : Program} {Q : Exit → Act → World → Prop} {N : Nat} {D : List Deferred} {ρ : Env} {b : Base} {X S : List Res} {ty t : TypeId} {x : Operand} {v : Value} {K : Value → List Res → List Res → Prop}
end
section
variable {P : Program} {fn : Func} {R : Value → List Res → List Res → Prop} {N : Nat} {ρ : Env} {b : Base} {X X' Xz S S' : List Res} {w : World}
end
end Go.Eng
end
section
/- Cuts in a walk: what is said behind a piece of code, with ghosts. -/
set_option linter.unusedVariables false
set_option linter.unusedSimpArgs false
set_option linter.unusedSectionVars false
namespace Go.Eng
open Go.RowKit
section
variable {P : Program} {Q : Exit → Act → World → Prop} {N : Nat} {D : List Deferred} {c : Code} {ρ : Env} {b : Base} {X S : List Res}
theorem hcutk4 {α β γ δ : Type} (R : α → β → γ → δ → Env) (X1 S1 : α → β → γ → δ → List Res) (I : α → β → γ → δ → Prop) (ρk : Env) (hk : SubB ρk ρ) (is : List Nat) {Xt Xr : List Res} (hX : takeR is X = some (Xt, Xr))
    (h : HC P (CutQ N D (fun i : α × β × γ × δ => R i.1 i.2.1 i.2.2.1 i.2.2.2 ++ ρk) fun i w => Mem b (X1 i.1 i.2.1 i.2.2.1 i.2.2.2 ++ Xr) (S1 i.1 i.2.1 i.2.2.1 i.2.2.2 ++ S) w ∧ I i.1 i.2.1 i.2.2.1 i.2.2.2) N D c ρ b X S) (k : ∀ x y z u, I x y z u → HQ Q N D .normal (R x y z u ++ ρk) b (X1 x y z u ++ Xr) (S1 x y z u ++ S)) : HC P Q N D c ρ b X S :=
  hcut (fun i : α × β × γ × δ => R i.1 i.2.1 i.2.2.1 i.2.2.2 ++ ρk) (fun i => X1 i.1 i.2.1 i.2.2.1 i.2.2.2 ++ Xr) (fun i => S1 i.1 i.2.1 i.2.2.1 i.2.2.2 ++ S) (fun i => I i.1 i.2.1 i.2.2.1 i.2.2.2) h fun i hi => k (i.1) (i.2.1) (i.2.2.1) (i.2.2.2) hi
theorem hqcutk4 {α β γ δ : Type} {R : α → β → γ → δ → Env} {X1 S1 : α → β → γ → δ → List Res} {I : α → β → γ → δ → Prop} {ρ0 : Env} {Xr Sr : List Res} (x : α) (y : β) (z : γ) (u : δ) (hs : SubB (R x y z u ++ ρ0) ρ) (is : List Nat) {Xz : List Res} (hX : takeR is X = some (X1 x y z u ++ Xr, Xz)) (js : List Nat) (hS : getR js S = some (S1 x y z u ++ Sr)) (hI : I x y z u) :
    HQ (CutQ N D (fun i : α × β × γ × δ => R i.1 i.2.1 i.2.2.1 i.2.2.2 ++ ρ0) fun i w => Mem b (X1 i.1 i.2.1 i.2.2.1 i.2.2.2 ++ Xr) (S1 i.1 i.2.1 i.2.2.1 i.2.2.2 ++ Sr) w ∧ I i.1 i.2.1 i.2.2.1 i.2.2.2) N D .normal ρ b X S :=
  hqcut (i := (x, y, z, u)) hs is hX js hS hI
end
end Go.Eng
end
section
/- The engine over things in memory, tenth part: one thing out of a pack, and back; a slice of one's own from a place on; keys of n bytes. No statement is proved here. -/
set_option linter.unusedVariables false
set_option linter.unusedSimpArgs false
set_option linter.unusedSectionVars false
namespace Go.Eng
open Go.RowKit
open Go.ChangeMaps (setBlock)
section
variable {b : Base} {X S Xp Xq : List Res} {w : World} {r : Res}
theorem Mem.packPerm (m : Mem b (RPack Xp :: X) S w) (h : Xp.Perm Xq) : Mem b (RPack Xq :: X) S w := ((m.unpack).perm (h.append_right X)).pack
theorem Mem.packTake (m : Mem b (RPack Xp :: X) S w) (i : Nat) (h : Xp[i]? = some r) : Mem b (r :: RPack (Xp.eraseIdx i) :: X) S w := by
  obtain ⟨hlt, rfl⟩ := List.getElem?_eq_some_iff.1 h
  have m1 := (m.packPerm (eraseIdx_perm Xp i hlt).symm).unpack
  rw [List.cons_append] at m1
  have m2 : Mem b (Xp.eraseIdx i ++ (Xp[i] :: X)) S w := m1.perm (List.perm_middle.symm)
  exact (m2.pack).perm (List.Perm.swap ..)
theorem Mem.packPut (m : Mem b (r :: RPack Xp :: X) S w) : Mem b (RPack (r :: Xp) :: X) S w := by
  have m1 : Mem b (RPack Xp :: r :: X) S w := m.perm (List.Perm.swap ..)
  have m2 := m1.unpack
  have m3 : Mem b ((r :: Xp) ++ X) S w := m2.perm (List.perm_middle)
  exact m3.pack
theorem Mem.packNil (m : Mem b X S w) : Mem b (RPack [] :: X) S w := Mem.pack (Xp := []) m
end
/-! ### n bytes as keys -/
abbrev Bn (n : Nat) := {l : List UInt8 // l.length = n}
def KN {n : Nat} (d : Bn n) : Value := DV d.1
theorem bnKey {P : Program} {kt e : TypeId} {n : Nat} (ht : P.underlying kt = some (.array n e)) (he : P.underlying e = some (.int .u8)) (hs : P.cellsOf kt = n) (hse : P.cellsOf e = 1) (hk : P.keyTypeAt 2 kt = true) : KeyK P kt (KN (n := n)) where
  inj a b h := Subtype.ext (DV_inj h)
  check w em d := by
    have h1 : (KN d).formed P kt = true := by simp [Value.formed, KN, DV, ht, b8s_length, d.2, hs]
    have h2 := keyLits_b8 (P := P) (D := 0) (l := d.1) ht he hs hse d.2
    exact run_checkKey_deep em 9998 2 kt hk w 2 (KN d) _ h1 (by simpa [KN, DV, Value.cells] using h2)
  find w k es h := by
    have hag : aggB P kt = some true := by simp [aggB, ht]
    have heq : ∀ q : Bn n, (Op.equal kt (KN k) (KN q)).run P w = .ok (decide (k = q)) w := fun q => by
      have h2 := keyLits_b8 (P := P) (D := 0) (l := k.1) ht he hs hse k.2
      have h3 := keyLits_b8 (P := P) (D := 0) (l := q.1) ht he hs hse q.2
      exact run_eqlK (m := 2) (p := k = q) (by decide) hk hag (by rw [b8s_length, hs]; exact k.2) (by rw [b8s_length, hs]; exact q.2) h2 h3 (by rw [lits_b8_inj]; exact ⟨fun e => Subtype.ext e, fun e => by rw [e]⟩)
    have hnow : ∀ (es : List MapEntry) (i : Nat), es ≠ [] → Instr.findNow (.array n e) (KN k) es i = none := fun es i hne => by
      cases es with
      | nil => exact absurd rfl hne
      | cons x r => rfl
    have hask : ∀ (es : List MapEntry) (i : Nat), (∀ x ∈ es, ∃ q : Bn n, x.key = KN q) → (∃ j x, es[j]? = some x ∧ x.key = KN k ∧ (Instr.findAsking kt (KN k) es i).run P w = .ok (some (i + j, x.val)) w) ∨ ((∀ x ∈ es, x.key ≠ KN k) ∧ (Instr.findAsking kt (KN k) es i).run P w = .ok none w) := by
      intro es
      induction es with
      | nil => intro i _; exact .inr ⟨by simp, rfl⟩
      | cons x r ih =>
        intro i h
        obtain ⟨q, hq⟩ := h x (by simp)
        have hx := heq q
        rw [← hq] at hx
        by_cases hkq : k = q
        · rw [decide_eq_true hkq] at hx
          exact .inl ⟨0, x, rfl, by rw [hq, hkq], by simp [Instr.findAsking, hx]⟩
        · rw [decide_eq_false hkq] at hx
          rcases ih (i + 1) (fun y hy => h y (by simp [hy])) with ⟨j, y, hj, hy, hf⟩ | ⟨hall, hf⟩
          · refine .inl ⟨j + 1, y, by simpa using hj, hy, ?_⟩
            simp [Instr.findAsking, hx, hf]
            omega
          · refine .inr ⟨fun y hy => ?_, by simp [Instr.findAsking, hx, hf]⟩
            rcases List.mem_cons.1 hy with rfl | hy
            · rw [hq]; exact fun e => hkq (Subtype.ext (DV_inj e)).symm
            · exact hall y hy
    cases es with
    | nil => exact .inr ⟨by simp, by simp [Instr.findKey, run_underlying ht, Instr.findNow]⟩
    | cons x r =>
      have h0 := hnow (x :: r) 0 (by simp)
      rcases hask (x :: r) 0 h with ⟨j, y, hj, hy, hf⟩ | ⟨hall, hf⟩
      · refine .inl ⟨j, y, hj, hy, ?_⟩
        simp [Instr.findKey, run_underlying ht, h0, hf]
      · exact .inr ⟨hall, by simp [Instr.findKey, run_underlying ht, h0, hf]⟩
  stays w k := by
    have : Instr.sameBits 10000 (KN k) (KN k) = true := by
      show ((b8s k.1).toArray.size == (b8s k.1).toArray.size && ((b8s k.1).toArray.toList.zip (b8s k.1).toArray.toList).all fun (x, y) => Instr.sameBits 9999 x y) = true
      simp only [beq_self_eq_true, Bool.true_and]
      exact same_u8s 9999 k.1
    simp [Instr.keyThatStays, this]
/-! ### m[k] = f(m[k]): the entry first, then what is stored in it -/
section
variable {κ : Type} [DecidableEq κ] {enc : κ → Value}
def EntAt (enc : κ → Value) (w : World) (b : Nat) (l : List (κ × Value)) (k : κ) (st : Nat) : Prop :=
  ∃ es clock, w.heap[b]? = some (.map es clock) ∧ es.toList.map (fun e => (e.key, e.val)) = l.map (fun p => (enc p.1, p.2)) ∧ (akeys l).Nodup ∧ (∀ e ∈ es.toList, e.born < clock) ∧ (es.toList.map (·.born)).Nodup ∧ ∃ (i : Nat) (x : MapEntry) (u : Value), es.toList[i]? = some x ∧ x.born = st ∧ l[i]? = some (k, u)
def REnt (enc : κ → Value) (b : Nat) (l : List (κ × Value)) (k : κ) (st : Nat) : Res where
  foot i := i = b
  holds w := EntAt enc w b l k st
  keep f h m := by
    obtain ⟨es, clock, hb, rest⟩ := m
    exact ⟨es, clock, (f.block b (lt_of_heap hb) (h b rfl)).trans hb, rest⟩
  low m hk := by
    obtain ⟨es, clock, hb, rest⟩ := m
    exact hk ▸ lt_of_heap hb
theorem aput_aput {l : List (κ × Value)} {k : κ} {u v : Value} : aput (aput l k u) k v = aput l k v := by
  induction l with
  | nil => simp [aput]
  | cons p r ih =>
    obtain ⟨q, x⟩ := p
    by_cases h : q = k
    · simp [aput, h]
    · simp [aput, h, ih]
theorem run_entryM {P : Program} {w : World} {t kt et : TypeId} {b : Nat} {l : List (κ × Value)} {z : Value} {sz bytes : Nat} (ht : P.underlying t = some (.map kt et)) (hT : TI P et z sz bytes) (K : KeyK P kt enc) (h : MapAt enc w b l) (k : κ) :
    ∃ (st : Nat) (w' : World), (Instr.mapEntry t (.map (some b)) (enc k)).run P w = .ok (.tuple #[(aget l k).getD z, .int .i64 (st : Nat)]) w' ∧ EntAt enc w' b (aput l k ((aget l k).getD z)) k st ∧ Fr (fun i => i = b) w w' := by
  have hn := h.keys
  obtain ⟨es, clock, hb, hl, hborn, hnb, hf⟩ := h.found K k
  have hg : (getObj b).run P w = .ok (.map es clock) w := by simp [getObj, Sem.run, hb]
  have hc := K.check w false k
  rcases hf with ⟨i, x, hi, hp, ha, hx, hf⟩ | ⟨ha, hf⟩
  · have hst := K.stays w k
    have hxi : es[i]? = some x := by simpa using hi
    have hsame : es.modify i (fun e => { e with key := enc k }) = es := by
      apply Array.ext'
      apply List.ext_getElem?
      intro j
      rw [Array.toList_modify, List.getElem?_modify]
      by_cases hij : i = j
      · subst hij
        rw [hi]
        show some (if i = i then ({ x with key := enc k } : MapEntry) else x) = some x
        rw [if_pos rfl, ← hx]
      · simp [hij]
    refine ⟨x.born, setBlock w b (.map es clock), ?_, ⟨es, clock, setBlock_at hb, ?_, aput_nodup hn, hborn, hnb, i, x, x.val, hi, rfl, ?_⟩, setBlock_fr⟩
    · rw [ha]
      simp [Instr.mapEntry, run_underlying ht, hg, hc, hf, hxi, hx, hst, hsame, run_setObjM hb, goInt]
    · rw [ha, aput_at hn hp, hl]
      congr 1
      apply List.ext_getElem?
      intro j
      rw [List.getElem?_set]
      by_cases hij : i = j
      · subst hij
        rw [if_pos rfl, if_pos (List.getElem?_eq_some_iff.1 hp).1, hp]
        rfl
      · rw [if_neg hij]
    · rw [ha, aput_at hn hp, List.getElem?_set, if_pos rfl, if_pos (List.getElem?_eq_some_iff.1 hp).1]
      rfl
  · have hlen : es.toList.length = l.length := by have := congrArg List.length hl; simpa using this
    refine ⟨clock, setBlock w b (.map (es.push { key := enc k, val := z, born := clock }) (clock + 1)), ?_, ⟨_, _, setBlock_at hb, ?_, aput_nodup hn, ?_, ?_, es.toList.length, { key := enc k, val := z, born := clock }, z, by simp, rfl, ?_⟩, setBlock_fr⟩
    · rw [ha]
      simp [Instr.mapEntry, run_underlying ht, hg, hc, hf, run_zero hT, run_setObjM hb, goInt]
    · rw [ha, aput_new ha, Array.toList_push, List.map_append, hl]
      simp
    · intro e he
      rw [Array.toList_push] at he
      rcases List.mem_append.1 he with he | he
      · have := hborn e he; omega
      · rcases List.mem_singleton.1 he with rfl
        exact Nat.lt_succ_self _
    · rw [Array.toList_push, List.map_append]
      refine nodup_snoc hnb (fun hm => ?_)
      obtain ⟨e, he, hk⟩ := List.mem_map.1 hm
      have := hborn e he
      simp only at hk
      omega
    · rw [ha, aput_new ha, hlen]
      simp
theorem run_estoreM {P : Program} {w : World} {t : TypeId} {b : Nat} {l : List (κ × Value)} {k : κ} {st : Nat} (h : EntAt enc w b l k st) (v : Value) :
    ∃ w', (Instr.entryStore t (.map (some b)) (.int .i64 (st : Nat)) v).run P w = .ok () w' ∧ MapAt enc w' b (aput l k v) ∧ Fr (fun i => i = b) w w' := by
  obtain ⟨es, clock, hb, hl, hn, hborn, hnb, i, x, u, hi, rfl, hp⟩ := h
  have hg : (getObj b).run P w = .ok (.map es clock) w := by simp [getObj, Sem.run, hb]
  have hidx : es.findIdx? (fun e => ((e.born : Nat) : Int) == ((x.born : Nat) : Int)) = some i := by
    rw [WideElems.findIdx_arr]
    exact WideElems.findIdx_born hnb hi
  refine ⟨setBlock w b (.map (es.modify i fun e => { e with val := v }) clock), ?_, ⟨_, clock, setBlock_at hb, ?_, aput_nodup hn, ?_, ?_⟩, setBlock_fr⟩
  · simp [Instr.entryStore, hg, asInt, asIntOf, hidx, run_setObjM hb]
  · rw [aput_at hn hp, Array.toList_modify]
    apply List.ext_getElem?
    intro j
    have hj := congrArg (fun q : List (Value × Value) => q[j]?) hl
    simp only [List.getElem?_map] at hj
    simp only [List.getElem?_map, List.getElem?_modify, List.getElem?_set]
    by_cases hij : i = j
    · subst hij
      have hlt := (List.getElem?_eq_some_iff.1 hp).1
      rw [hi, hp] at hj
      simp only [Option.map_some, Option.some.injEq, Prod.mk.injEq] at hj
      simp [hi, hlt, hj.1]
    · simp only [hij, if_false]
      simpa using hj
  · intro e he
    rw [Array.toList_modify] at he
    obtain ⟨j, hj⟩ := List.mem_iff_getElem?.1 he
    rw [List.getElem?_modify] at hj
    cases hej : es.toList[j]? with
    | none => rw [hej] at hj; simp at hj
    | some e0 =>
      have := hborn e0 (List.mem_of_getElem? hej)
      rw [hej] at hj
      simp only [Option.map_eq_map, Option.map_some, Option.some.injEq] at hj
      subst hj
      split <;> exact this
  · have : (es.modify i fun e => { e with val := v }).toList.map (·.born) = es.toList.map (·.born) := by
      apply List.ext_getElem?
      intro j
      rw [Array.toList_modify]
      simp only [List.getElem?_map, List.getElem?_modify]
      cases es.toList[j]? with
      | none => rfl
      | some e0 => simp only [Option.map_eq_map, Option.map_some]; split <;> rfl
    rw [this]
    exact hnb
section
variable {P : Program} {Q : Exit → Act → World → Prop} {N : Nat} {D : List Deferred} {ρ : Env} {b : Base} {X S : List Res} {ty t kt et : TypeId} {x y q : Operand} {K : Value → List Res → List Res → Prop} {g : Nat} {l : List (κ × Value)}
theorem xh_entry {k : κ} {z : Value} {sz bytes : Nat} (i : Nat) (hi : X[i]? = some (RMap enc g l)) (hx : ev ρ x = some (.map (some g))) (hy : ev ρ y = some (enc k)) (ht : P.underlying t = some (.map kt et)) (hT : TI P et z sz bytes) (hK : KeyK P kt enc)
    (kk : ∀ st : Nat, K (.tuple #[(aget l k).getD z, .int .i64 (st : Nat)]) (REnt enc g (aput l k ((aget l k).getD z)) k st :: X.eraseIdx i) S) : XH P Q N D ρ b X S (.mapEntry t x y) ty K := fun w m => by
  obtain ⟨st, w', hrun, hE, hf⟩ := run_entryM ht hT hK (m.mapX i hi) k
  refine xw_of_run (v' := .tuple #[(aget l k).getD z, .int .i64 (st : Nat)]) (w' := w') (fun a _ _ _ _ ha => by simp [execOp, ha.eval hx, ha.eval hy, hrun]) ⟨_, _, ?_, kk st⟩
  have m' := m.perm (takeR_perm [i] X [RMap enc g l] (X.eraseIdx i) (by simp [takeR, hi]))
  exact m'.change (r' := REnt enc g (aput l k ((aget l k).getD z)) k st) hf hE (fun k hk => .inl hk)
theorem xh_estore {k : κ} {st : Nat} {v : Value} (i : Nat) (hi : X[i]? = some (REnt enc g l k st)) (hx : ev ρ x = some (.map (some g))) (hy : ev ρ y = some (.int .i64 (st : Nat))) (hq : ev ρ q = some v)
    (kk : K undef (RMap enc g (aput l k v) :: X.eraseIdx i) S) : XH P Q N D ρ b X S (.entryStore t x y q) ty K := fun w m => by
  have hE : EntAt enc w g l k st := m.hx _ (List.mem_of_getElem? hi)
  obtain ⟨w', hrun, hM, hf⟩ := run_estoreM (P := P) (t := t) hE v
  refine xw_of_run0 (w' := w') (fun a _ _ _ _ ha => by simp [execOp, ha.eval hx, ha.eval hy, ha.eval hq, hrun]) ⟨_, _, ?_, kk⟩
  have m' := m.perm (takeR_perm [i] X [REnt enc g l k st] (X.eraseIdx i) (by simp [takeR, hi]))
  exact m'.change (r' := RMap enc g (aput l k v)) hf hM (fun k hk => .inl hk)
end
end
end Go.Eng
end
section
/- Contracts: bytes in fewer (layer 5): how long a match is. -/
set_option linter.unusedVariables false
set_option linter.unusedSimpArgs false
set_option maxRecDepth 20000
set_option maxHeartbeats 2000000
namespace Go.Proofs.YtfikjheicjamhaaDoor
open Go.Eng Go.Hx
theorem longC {A : Option Addr} {n c i k : Nat} {l : List UInt8} (hn : n ≤ 1000000000) (hl : l.length = n) (hi : i ≤ n) (hk : k ≤ i) : Con Tryd.prog 176 [.slice A n c, .int .i64 (i : Nat), .int .i64 (k : Nat)] [] [RRd 1 A n (b8s l)] (fun v_ X_ S_ => v_ = (.int .i64 (lng l i k : Nat)) ∧ X_ = [] ∧ S_ = []) := by
  refine henter (N := 36) Tryd.func176 rfl rfl (by simp) fun b => ?_
  refine hfactC (fun m => rdB (m.rd 0 rfl)) ?_
  rintro ⟨hl_r, hA_r⟩
  refine hseq <| hreg <| hy (fun _ => y_assign rfl) <| hend <| hthen <| hseq <| hreg <| hy (fun _ => y_assign rfl) <| hend <| hthen <| hseq <| hblock <| ?_
  refine hloop1 (fun m => 131 - m) (fun m => [(7, .int .i64 (m : Nat))]) (fun m => []) (fun m => []) (fun m => m ≤ 131 ∧ i + m ≤ n ∧ lngF l i k (131 - m) m = lng l i k) 0 [(6, _), (0, _), (1, _), (2, _)] ⟨rfl, rfl, rfl, rfl, trivial⟩ [] rfl [] rfl (⟨by decide, hi, rfl⟩) ⟨rfl, trivial⟩ (fun m ⟨hm, him, hL⟩ => ?_)
  refine hseq <| hseq <| hdrw [] [(0, some 0), (1, some 0), (2, some 0), (3, some 0), (4, some 0), (5, some 0), (6, some 0), (7, some 0), (8, some 0), (9, some 0), (10, some 0), (11, some 0), (12, some 0), (13, some 0), (14, some 0), (15, some 0), (16, some 0), (17, some 0), (18, some 0), (19, some 0), (20, some 0), (21, some 0), (22, some 0), (23, some 0), (24, some 0)] (by kernel_rfl) (by kernel_rfl) rfl 99 <| htyU (y_move rfl) <| htyU (y_lss rfl rfl) <| htyU (y_move rfl) <| ?_
  refine htsplit 10 rfl (fun h1 => ?_) (fun h1 => ?_)
  · refine htyUg (o := _) rfl rfl rfl (y_move rfl) <| htyUg (o := _) rfl rfl rfl (y_move rfl) <| htyUg (o := _) rfl rfl rfl (y_add rfl rfl (w64 (by omega) (by omega))) <| htyUg (o := _) rfl rfl rfl (y_move rfl) <| htyUg (o := _) rfl rfl rfl (y_lenS rfl Tryd.underlying32) <| htyUg (o := _) rfl rfl rfl (y_lss rfl rfl) <| htyU (y_pickT rfl rfl) <| htyU (y_move rfl) <| ?_
    refine htsplit 18 rfl (fun h2 => ?_) (fun h2 => ?_)
    · refine htyUg (o := _) rfl rfl rfl (y_move rfl) <| htyUg (o := _) rfl rfl rfl (y_move rfl) <| htyUg (o := _) rfl rfl rfl (y_move rfl) <| htyUg (o := _) rfl rfl rfl (y_add rfl rfl (w64 (by omega) (by omega))) <| htyUg (o := _) rfl rfl rfl (y_idxS1 rfl rfl Tryd.underlying32 sz5 hA_r (show ((i + m : Nat) : Int) = _ by omega) (by omega)) <| htyg (o := _) rfl rfl rfl (fun m => y_ld1 rfl ag5 ((m.rd 0 rfl).cell (b8s_get (by omega)))) <| htyUg (o := _) rfl rfl rfl (y_move rfl) <| htyUg (o := _) rfl rfl rfl (y_move rfl) <| htyUg (o := _) rfl rfl rfl (y_move rfl) <| htyUg (o := _) rfl rfl rfl (y_add rfl rfl (w64 (by omega) (by omega))) <| htyUg (o := _) rfl rfl rfl (y_idxS1 rfl rfl Tryd.underlying32 sz5 hA_r (show ((k + m : Nat) : Int) = _ by omega) (by omega)) <| htyg (o := _) rfl rfl rfl (fun m => y_ld1 rfl ag5 ((m.rd 0 rfl).cell (b8s_get (by omega)))) <| htyUg (o := _) rfl rfl rfl (y_eql rfl rfl) <| htyU (y_pickT rfl rfl) <| htend <| hsub (ρ' := [(32, _), (7, _), (6, _), (0, _), (1, _), (2, _)]) ⟨rfl, rfl, rfl, rfl, rfl, rfl, trivial⟩ <| hthen <| ?_
      refine hif rfl (fun h3 => ?_) (fun h3 => ?_)
      · have e3 : l.getD (i + m) 0 = l.getD (k + m) 0 := UInt8.toNat_inj.1 (by omega)
        rw [lngF_more (by omega) ⟨by omega, e3⟩] at hL
        refine hcskip <| hthen <| hblock <| hreg <| hy (fun _ => y_move rfl) <| hy (fun _ => y_add rfl rfl (w64 (by omega) (by omega))) <| hy (fun _ => y_assign rfl) <| hend <| hsub (ρ' := [(7, _), (32, _), (6, _), (0, _), (1, _), (2, _)]) ⟨rfl, rfl, rfl, rfl, rfl, rfl, trivial⟩ <| hqblock <| ?_
        refine hnext1 (m + 1) ⟨rfl, rfl, rfl, rfl, rfl, trivial⟩ [] rfl [0] rfl (⟨by omega, by omega, by rw [← hL]; rfl⟩) (by omega)
      · rw [lngF_stop (fun q => h3 (by rw [q.2]))] at hL
        rw [← hL]
        refine hexit <| hthen_exit <| hthen_exit <| hqblock_exit <| hthen <| hseq <| hreg <| hy (fun _ => y_move rfl) <| hy (fun _ => y_assign rfl) <| hend <| hsub (ρ' := [(6, _), (32, _), (7, _), (0, _), (1, _), (2, _)]) ⟨rfl, rfl, rfl, rfl, rfl, rfl, trivial⟩ <| hthen <| hret <| ?_
        exact hret1 trivial rfl rfl [] rfl [] rfl ⟨rfl, rfl, rfl⟩
    · rw [lngF_stop (fun q => h2 (by omega))] at hL
      rw [← hL]
      refine htskip rfl rfl rfl (by decide) <| htskip rfl rfl rfl (by decide) <| htskip rfl rfl rfl (by decide) <| htskip rfl rfl rfl (by decide) <| htskip rfl rfl rfl (by decide) <| htskip rfl rfl rfl (by decide) <| htskip rfl rfl rfl (by decide) <| htskip rfl rfl rfl (by decide) <| htskip rfl rfl rfl (by decide) <| htskip rfl rfl rfl (by decide) <| htskip rfl rfl rfl (by decide) <| htskip rfl rfl rfl (by decide) <| htskip rfl rfl rfl (by decide) <| htyU (y_pickF rfl rfl) <| htend <| hsub (ρ' := [(32, _), (7, _), (6, _), (0, _), (1, _), (2, _)]) ⟨rfl, rfl, rfl, rfl, rfl, rfl, trivial⟩ <| hthen <| ?_
      refine hiff rfl (rfl) ?_
      refine hexit <| hthen_exit <| hthen_exit <| hqblock_exit <| hthen <| hseq <| hreg <| hy (fun _ => y_move rfl) <| hy (fun _ => y_assign rfl) <| hend <| hsub (ρ' := [(6, _), (32, _), (7, _), (0, _), (1, _), (2, _)]) ⟨rfl, rfl, rfl, rfl, rfl, rfl, trivial⟩ <| hthen <| hret <| ?_
      exact hret1 trivial rfl rfl [] rfl [] rfl ⟨rfl, rfl, rfl⟩
  · obtain rfl : m = 131 := by omega
    have hL : 131 = lng l i k := hL
    rw [← hL]
    refine htskip rfl rfl rfl (by decide) <| htskip rfl rfl rfl (by decide) <| htskip rfl rfl rfl (by decide) <| htskip rfl rfl rfl (by decide) <| htskip rfl rfl rfl (by decide) <| htskip rfl rfl rfl (by decide) <| htyU (y_pickF rfl rfl) <| htyU (y_move rfl) <| ?_
    refine htskip rfl rfl rfl (by decide) <| htskip rfl rfl rfl (by decide) <| htskip rfl rfl rfl (by decide) <| htskip rfl rfl rfl (by decide) <| htskip rfl rfl rfl (by decide) <| htskip rfl rfl rfl (by decide) <| htskip rfl rfl rfl (by decide) <| htskip rfl rfl rfl (by decide) <| htskip rfl rfl rfl (by decide) <| htskip rfl rfl rfl (by decide) <| htskip rfl rfl rfl (by decide) <| htskip rfl rfl rfl (by decide) <| htskip rfl rfl rfl (by decide) <| htyU (y_pickF rfl rfl) <| htend <| hsub (ρ' := [(32, _), (7, _), (6, _), (0, _), (1, _), (2, _)]) ⟨rfl, rfl, rfl, rfl, rfl, rfl, trivial⟩ <| hthen <| ?_
    refine hiff rfl (rfl) ?_
    refine hexit <| hthen_exit <| hthen_exit <| hqblock_exit <| hthen <| hseq <| hreg <| hy (fun _ => y_move rfl) <| hy (fun _ => y_assign rfl) <| hend <| hsub (ρ' := [(6, _), (32, _), (7, _), (0, _), (1, _), (2, _)]) ⟨rfl, rfl, rfl, rfl, rfl, rfl, trivial⟩ <| hthen <| hret <| ?_
    exact hret1 trivial rfl rfl [] rfl [] rfl ⟨rfl, rfl, rfl⟩
/-! ### the finder: where four bytes stand -/
structure IRow where
  A : Option Addr
  c : Nat
  l : List Nat
def IRow.val (r : IRow) : Value := .slice r.A r.l.length r.c
def nts (l : List Nat) : List Value := l.map fun n => Value.int .i64 (n : Nat)
theorem nts_one {l : List Nat} : ∀ u ∈ nts l, u.oneCell' = true := by
  intro u hu
  obtain ⟨n, _, rfl⟩ := List.mem_map.1 hu
  rfl
def IRow.res (r : IRow) : Res := ROwn 3 1 (.slice r.A r.l.length r.c) r.l.length (nts r.l)
abbrev Fes := List (Bn 4 × IRow)
def fvals (es : Fes) : List (Bn 4 × Value) := es.map fun x => (x.1, x.2.val)
def fress (es : Fes) : List Res := es.map fun x => x.2.res
abbrev RFnd (g gm : Nat) (A : Option Addr) (n c m : Nat) (es : Fes) : Res := RPack [RBlk g 259 [.slice A n c, .map (some gm), .int .i64 (m : Nat)], RMap (KN (n := 4)) gm (fvals es), RPack (fress es)]
def FOk (l : List UInt8) (m : Nat) (es : Fes) : Prop := ∀ k : Bn 4, ((aget es k).map IRow.l).getD [] = posL l m k.1
theorem fvals_get (k : Bn 4) : ∀ es : Fes, aget (fvals es) k = (aget es k).map IRow.val
  | [] => rfl
  | (q, r) :: t => by
    have ih := fvals_get k t
    unfold fvals at ih ⊢
    simp only [List.map_cons, aget]
    split
    · rfl
    · exact ih
theorem fvals_put (k : Bn 4) (r : IRow) : ∀ es : Fes, aput (fvals es) k r.val = fvals (aput es k r)
  | [] => rfl
  | (q, x) :: t => by
    have ih := fvals_put k r t
    unfold fvals at ih ⊢
    simp only [List.map_cons, aput]
    split
    · rfl
    · rw [ih]; rfl
theorem put_absent {k : Bn 4} (r : IRow) : ∀ {es : Fes}, aget es k = none → fress (aput es k r) = fress es ++ [r.res]
  | [], _ => rfl
  | (q, x) :: t, h => by
    simp only [aget] at h
    split at h
    · cases h
    · rename_i hq
      have ih := put_absent r h
      unfold fress at ih ⊢
      simp only [aput, if_neg hq, List.map_cons, ih, List.cons_append]
theorem put_present {k : Bn 4} : ∀ {es : Fes} {x : IRow}, aget es k = some x → ∃ i, (fress es)[i]? = some x.res ∧ ∀ r : IRow, fress (aput es k r) = (fress es).set i r.res
  | [], _, h => by cases h
  | (q, y) :: t, x, h => by
    simp only [aget] at h
    split at h
    · rename_i hq
      cases h
      exact ⟨0, rfl, fun r => by simp [fress, aput, hq]⟩
    · rename_i hq
      obtain ⟨i, h1, h2⟩ := put_present h
      refine ⟨i + 1, by simpa [fress] using h1, fun r => ?_⟩
      have h2 := h2 r
      unfold fress at h2 ⊢
      simp only [aput, if_neg hq, List.map_cons, h2, List.set_cons_succ]
theorem set_perm {α : Type} : ∀ (l : List α) (i : Nat) (x : α), i < l.length → (l.set i x).Perm (x :: l.eraseIdx i)
  | [], i, x, h => by simp at h
  | a :: t, 0, x, h => by simp
  | a :: t, i + 1, x, h => by
    have := set_perm t i x (by simpa using h)
    simp only [List.set_cons_succ, List.eraseIdx_cons_succ]
    exact (this.cons a).trans (List.Perm.swap ..)
theorem fok_put {l : List UInt8} {m : Nat} {es : Fes} {A : Option Addr} {c : Nat} (h : FOk l m es) (hm : m + 4 ≤ l.length) : FOk l (m + 1) (aput es ⟨key4 l m, key4_length hm⟩ ⟨A, c, posL l m (key4 l m) ++ [m]⟩) := by
  intro k
  rw [aget_aput, posL_succ]
  by_cases hk : key4 l m = k.1
  · rw [if_pos (Subtype.ext hk), if_pos hk, ← hk]; rfl
  · rw [if_neg (fun e => hk (congrArg Subtype.val e)), if_neg hk, List.append_nil]
    exact h k
theorem fok_nil (l : List UInt8) : FOk l 0 [] := fun k => rfl
theorem kept_pos {es : Fes} {l : List UInt8} {m : Nat} {k : Bn 4} {r : IRow} (h : FOk l m es) (hr : aget es k = some r) : r.l = posL l m k.1 := by
  have := h k
  rw [hr] at this
  exact this
theorem kept_none {es : Fes} {l : List UInt8} {m : Nat} {k : Bn 4} (h : FOk l m es) (hr : aget es k = none) : posL l m k.1 = [] := by
  have := h k
  rw [hr] at this
  exact this.symm
theorem uptoC {g gm : Nat} {A : Option Addr} {n c p i : Nat} {l : List UInt8} {es : Fes} (hc : n ≤ c) (hn : n ≤ 1000000000) (hl : l.length = n) (hpi : p ≤ i) (hi : i + 4 ≤ n) (hF : FOk l p es) : Con Tryd.prog 174 [.pointer (some ⟨g, 0, none⟩), .int .i64 (i : Nat)] [RFnd g gm A n c p es] [RRd 1 A n (b8s l)] (fun v_ X_ S_ => ∃ es1, v_ = (.tuple #[]) ∧ X_ = [RFnd g gm A n c i es1] ∧ S_ = [] ∧ (FOk l i es1)) := by
  refine henter (N := 61) Tryd.func174 rfl rfl (by simp) fun b => ?_
  refine hfactC (fun m => rdB (m.rd 0 rfl)) ?_
  rintro ⟨hl_r, hA_r⟩
  refine hmemC (fun w m => (m.perm (takeR_perm [0] _ [_] _ rfl)).unpack) ?_
  refine hblock <| ?_
  refine hloop2 (fun p es => i - p) (fun p es => []) (fun p es => [RBlk g 259 [.slice A n c, .map (some gm), .int .i64 (p : Nat)], RMap (KN (n := 4)) gm (fvals es), RPack (fress es)]) (fun p es => []) (fun p es => p ≤ i ∧ FOk l p es) p es [(0, _), (1, _)] ⟨rfl, rfl, trivial⟩ [0, 0, 0] rfl [] rfl (⟨hpi, hF⟩) trivial (fun p es ⟨hpi, hF⟩ => ?_)
  refine hseq <| hseq <| hdrw [] [(0, some 0), (1, some 0), (2, some 0), (3, some 0), (4, some 0), (5, some 0), (6, some 0), (7, some 0), (8, some 0), (9, some 0), (10, some 0), (11, some 0), (12, some 0), (13, some 0), (14, some 0), (15, some 0), (16, some 0), (17, some 0), (18, some 0)] (by kernel_rfl) (by kernel_rfl) rfl 99 <| htyU (y_move rfl) <| htyU (y_nilp rfl) <| htyU (y_fld rfl fa259_2 (by decide)) <| hty (fun m => y_ld1 rfl ag3 (ld_blk (m.blk 0 rfl) rfl)) <| htyU (y_move rfl) <| htyU (y_lss rfl rfl) <| htyU (y_move rfl) <| ?_
  refine htsplit 11 rfl (fun h1 => ?_) (fun h1 => ?_)
  · refine htyUg (o := _) rfl rfl rfl (y_move rfl) <| htyUg (o := _) rfl rfl rfl (y_nilp rfl) <| htyUg (o := _) rfl rfl rfl (y_fld rfl fa259_2 (by decide)) <| htyg (o := _) rfl rfl rfl (fun m => y_ld1 rfl ag3 (ld_blk (m.blk 0 rfl) rfl)) <| htyUg (o := _) rfl rfl rfl (y_add rfl rfl (w64 (by omega) (by omega))) <| htyUg (o := _) rfl rfl rfl (y_move rfl) <| htyUg (o := _) rfl rfl rfl (y_nilp rfl) <| htyUg (o := _) rfl rfl rfl (y_fld rfl fa259_0 (by decide)) <| htyg (o := _) rfl rfl rfl (fun m => y_ld1 rfl ag32 (ld_blk (m.blk 0 rfl) rfl)) <| htyUg (o := _) rfl rfl rfl (y_lenS rfl Tryd.underlying32) <| htyUg (o := _) rfl rfl rfl (y_leq rfl rfl) <| htyU (y_pickT rfl rfl) <| htend <| hsub (ρ' := [(23, _), (0, _), (1, _)]) ⟨rfl, rfl, rfl, trivial⟩ <| hthen <| ?_
    refine hift rfl ((decide_eq_true (by omega))) ?_
    refine hfactC (fun m => (m.rd 0 rfl).some (by omega)) fun h_ => ?_
    obtain ⟨a, rfl⟩ : ∃ a_, A = some a_ := ⟨_, h_⟩
    clear h_
    refine hcskip <| hthen <| hseq <| hblock <| hseq <| hdrw [16, 17] [(0, some 1), (1, some 1), (2, some 1), (3, some 1), (4, some 1), (5, some 1), (6, some 1), (7, some 1), (8, some 1), (9, some 1), (10, some 1), (11, some 1), (12, some 1), (13, some 1), (14, some 1), (15, some 1), (16, none), (17, none)] (by kernel_rfl) (by kernel_rfl) rfl 1 <| htyU (y_move rfl) <| htyU (y_nilp rfl) <| htyU (y_fld rfl fa259_0 (by decide)) <| hty (fun m => y_ld1 rfl ag32 (ld_blk (m.blk 0 rfl) rfl)) <| htyU (y_move rfl) <| htyU (y_nilp rfl) <| htyU (y_fld rfl fa259_2 (by decide)) <| hty (fun m => y_ld1 rfl ag3 (ld_blk (m.blk 0 rfl) rfl)) <| htyU (y_move rfl) <| htyU (y_nilp rfl) <| htyU (y_fld rfl fa259_2 (by decide)) <| hty (fun m => y_ld1 rfl ag3 (ld_blk (m.blk 0 rfl) rfl)) <| htyU (y_add rfl rfl (w64 (by omega) (by omega))) <| htyU (yV (y_slBoth rfl rfl rfl Tryd.underlying32 sz5 rfl (show ((p + 4 : Nat) : Int) = _ by omega) (by omega) (by omega)) ((show Value.slice (if c = p then some a else (some a).map (·.add (p * 1))) (p + 4 - p) (c - p) = .slice (some (a.add p)) 4 (c - p) by rw [if_neg (by omega), Nat.mul_one, Nat.add_sub_cancel_left]; rfl))) <| htyU (y_arrAt rfl Tryd.underlying265 (by omega)) <| hty (fun m => yV (y_ldN rfl ag265 sz265 (by rw [b8s_length]; exact key4_length (by omega)) (Rd.part (m.rd 0 rfl))) ((rfl : Value.agg _ = .agg (b8s (key4 l p)).toArray))) <| ?_
    refine htx (xh_alloc ti265 (fun g4 => ⟨(fun _ => wk [1, 1, 1] [0] rfl rfl), ?_⟩))
    refine htx0 (xh_stA 0 rfl rfl rfl sz265 (by rw [b8s_length]; exact key4_length (by omega)) b8s_one rfl ⟨(fun h => absurd h (by decide)), ?_⟩)
    refine htend <| hsub (ρ' := [(4, _), (23, _), (0, _), (1, _)]) ⟨rfl, rfl, rfl, rfl, trivial⟩ <| hmemQ (X' := [_, _, _, _]) (S' := [_]) (fun _ m => m) <| hthen <| ?_
    refine hdrw [9, 10, 12, 14] [(0, some 1), (1, some 1), (2, some 1), (3, some 1), (4, some 1), (5, some 0), (6, some 0), (7, some 0), (8, some 0), (9, none), (10, none), (11, some 2), (13, some 3), (12, none), (14, none)] (by kernel_rfl) (by kernel_rfl) rfl 1 <| htyU (y_move rfl) <| htyU (y_nilp rfl) <| htyU (y_fld rfl fa259_1 (by decide)) <| hty (fun m => y_ld1 rfl ag257 (ld_blk (m.blk 1 rfl) rfl)) <| hty (fun m => yV (y_ldN rfl ag265 sz265 (by rw [b8s_length]; exact key4_length (by omega)) ((m.blk 0 rfl).cells0)) ((rfl : Value.agg _ = KN ⟨key4 l p, key4_length (by omega)⟩))) <| htyU (y_move rfl) <| htyU (y_nilp rfl) <| htyU (y_fld rfl fa259_2 (by decide)) <| hty (fun m => y_ld1 rfl ag3 (ld_blk (m.blk 1 rfl) rfl)) <| ?_
    refine htx (xh_bsl Tryd.underlying263 ti3 rfl rfl rfl (by simp [Value.cells, B8]) (by decide) (by decide) (fun g57 => ⟨(fun _ => wk [1, 1, 1, 1] [0] rfl rfl), ?_⟩))
    have hA_b57 : 0 < 1 → (some (⟨g57, 0, none⟩ : Addr)) ≠ none := fun _ h => by cases h
    refine htmem (fun w m => m.eqX 0 rfl (show _ = ROwn 3 1 (.slice (some ⟨g57, 0, none⟩) 1 1) 1 (nts [p]) from rfl)) ?_
    refine htx (xh_entry (enc := (KN (n := 4))) (k := ⟨key4 l p, key4_length (by omega)⟩) 3 rfl rfl rfl Tryd.underlying257 ti263 (bnKey Tryd.underlying265 Tryd.underlying5 (by kernel_rfl) (by kernel_rfl) (by kernel_rfl)) (fun st58 => ⟨(fun h => absurd h (by decide)), ?_⟩))
    rw [fvals_get]
    rcases hq : aget es ⟨key4 l p, key4_length (by omega)⟩ with _ | x
    · have e0 := kept_none hF hq
      refine htmem (fun w m => m.addX (r' := ROwn 3 1 (.slice none 0 0) 0 []) (.refl _ _) (Own.nil _ _ _ _) (fun k hk => hk.elim)) ?_
      refine htyU (y_extract rfl rfl) <| htyU (y_extract rfl rfl) <| ?_
      refine htx (xh_app 0 rfl rfl rfl Tryd.underlying263 Tryd.underlying263 (by exact .inl rfl) ti3 rfl (fun m => Src.of_rd (m.ord 2 rfl)) (nts_one (l := [p])) (by unfold maxLen; omega) (by omega) (fun u => ⟨(fun h => absurd h (by decide)), ?_⟩))
      refine htfact (fun m => (m.own 0 rfl).slice) ?_
      rintro ⟨A_x, c_x, rfl, hc_x⟩
      refine htfact (fun m => (m.ord 0 rfl).2.1) fun hA_x => ?_
      refine htx0 (xh_estore (enc := (KN (n := 4))) 1 rfl rfl rfl rfl ⟨(fun h => absurd h (by decide)), ?_⟩)
      refine htend <| hsub (ρ' := [(4, _), (23, _), (0, _), (1, _)]) ⟨rfl, rfl, rfl, rfl, trivial⟩ <| hmemQ (X' := [_, _, _, _, _, _]) (S' := [_]) (fun _ m => m) <| hqblock <| hthen <| hreg <| hy (fun _ => y_move rfl) <| hy (fun _ => y_nilp rfl) <| hy (fun _ => y_fld rfl fa259_2 (by decide)) <| hy (fun m => y_ld1 rfl ag3 (ld_blk (m.blk 4 rfl) rfl)) <| hy (fun _ => y_add rfl rfl (w64 (by omega) (by omega))) <| hy (fun _ => y_nilp rfl) <| hy (fun _ => y_fld rfl fa259_2 (by decide)) <| ?_
      refine hx0 (xh_st1a 4 rfl rfl rfl sz3 rfl (by first | exact Nat.le_of_ble_eq_true rfl | simp) ?_)
      refine hend <| hsub (ρ' := [(4, _), (23, _), (0, _), (1, _)]) ⟨rfl, rfl, rfl, rfl, trivial⟩ <| hmemQ (X' := [_, _, _, _, _, _]) (S' := [_]) (fun _ m => m) <| ?_
      refine hmemQ (fun w m => m.eqX 0 rfl (show _ = RBlk g 259 [.slice (some a) n c, .map (some gm), .int .i64 ((p + 1 : Nat) : Int)] from rfl)) ?_
      refine hmemQ (fun w m => m.eqX 1 rfl (show _ = RMap (KN (n := 4)) gm (fvals (aput es ⟨key4 l p, key4_length (by omega)⟩ ⟨A_x, c_x, [p]⟩)) from congrArg (RMap _ _) (aput_aput.trans (fvals_put _ ⟨A_x, c_x, [p]⟩ es)))) ?_
      refine hmemQ (X' := RPack (fress (aput es ⟨key4 l p, key4_length (by omega)⟩ ⟨A_x, c_x, [p]⟩)) :: _) (fun w m => (Mem.packPut (m.perm (takeR_perm [2, 4] _ [_, _] _ rfl))).packPerm (by rw [put_absent _ hq]; exact (List.perm_append_singleton _ _).symm)) ?_
      refine hnext2 (p + 1) (aput es ⟨key4 l p, key4_length (by omega)⟩ ⟨A_x, c_x, [p]⟩) ⟨rfl, rfl, trivial⟩ [2, 1, 0] rfl [0] rfl (⟨by omega, by have := fok_put (A := A_x) (c := c_x) hF (by omega); rw [e0] at this; exact this⟩) (by omega)
    · obtain ⟨j, hj1, hj2⟩ := put_present hq
      have e0 := kept_pos hF hq
      have hxl : x.l.length ≤ n := by rw [e0]; exact Nat.le_trans (posL_length _ _ _) (by omega)
      refine htmem (X' := ROwn 3 1 (.slice x.A x.l.length x.c) x.l.length (nts x.l) :: _) (fun w m => (m.perm (takeR_perm [4] _ [_] _ rfl)).packTake j hj1) ?_
      refine htyU (y_extract rfl rfl) <| htyU (y_extract rfl rfl) <| ?_
      refine htx (xh_app 0 rfl rfl rfl Tryd.underlying263 Tryd.underlying263 (by exact .inl rfl) ti3 rfl (fun m => Src.of_rd (m.ord 3 rfl)) (nts_one (l := [p])) (by unfold maxLen; omega) (by omega) (fun u => ⟨(fun h => absurd h (by decide)), ?_⟩))
      refine htfact (fun m => (m.own 0 rfl).slice) ?_
      rintro ⟨A_y, c_y, rfl, hc_y⟩
      refine htfact (fun m => (m.ord 0 rfl).2.1) fun hA_y => ?_
      refine htx0 (xh_estore (enc := (KN (n := 4))) 2 rfl rfl rfl rfl ⟨(fun h => absurd h (by decide)), ?_⟩)
      refine htend <| hsub (ρ' := [(4, _), (23, _), (0, _), (1, _)]) ⟨rfl, rfl, rfl, rfl, trivial⟩ <| hmemQ (X' := [_, _, _, _, _, _]) (S' := [_]) (fun _ m => m) <| hqblock <| hthen <| hreg <| hy (fun _ => y_move rfl) <| hy (fun _ => y_nilp rfl) <| hy (fun _ => y_fld rfl fa259_2 (by decide)) <| hy (fun m => y_ld1 rfl ag3 (ld_blk (m.blk 5 rfl) rfl)) <| hy (fun _ => y_add rfl rfl (w64 (by omega) (by omega))) <| hy (fun _ => y_nilp rfl) <| hy (fun _ => y_fld rfl fa259_2 (by decide)) <| ?_
      refine hx0 (xh_st1a 5 rfl rfl rfl sz3 rfl (by first | exact Nat.le_of_ble_eq_true rfl | simp) ?_)
      refine hend <| hsub (ρ' := [(4, _), (23, _), (0, _), (1, _)]) ⟨rfl, rfl, rfl, rfl, trivial⟩ <| hmemQ (X' := [_, _, _, _, _, _]) (S' := [_]) (fun _ m => m) <| ?_
      refine hmemQ (fun w m => m.eqX 0 rfl (show _ = RBlk g 259 [.slice (some a) n c, .map (some gm), .int .i64 ((p + 1 : Nat) : Int)] from rfl)) ?_
      have h1e : aput (fvals es) ⟨key4 l p, key4_length (by omega)⟩ (.slice A_y (x.l.length + 1) c_y) = fvals (aput es ⟨key4 l p, key4_length (by omega)⟩ ⟨A_y, c_y, x.l ++ [p]⟩) := by rw [← fvals_put]; simp [IRow.val]
      refine hmemQ (fun w m => m.eqX 1 rfl (show _ = RMap (KN (n := 4)) gm (fvals (aput es ⟨key4 l p, key4_length (by omega)⟩ ⟨A_y, c_y, x.l ++ [p]⟩)) from congrArg (RMap _ _) (aput_aput.trans h1e))) ?_
      have h2e : ROwn 3 1 (.slice A_y (x.l.length + 1) c_y) (x.l.length + 1) (nts x.l ++ nts [p]) = (⟨A_y, c_y, x.l ++ [p]⟩ : IRow).res := by simp [IRow.res, nts]
      refine hmemQ (fun w m => m.eqX 2 rfl (show _ = (⟨A_y, c_y, x.l ++ [p]⟩ : IRow).res from h2e)) ?_
      have hjl := (List.getElem?_eq_some_iff.1 hj1).1
      refine hmemQ (X' := RPack (fress (aput es ⟨key4 l p, key4_length (by omega)⟩ ⟨A_y, c_y, x.l ++ [p]⟩)) :: _) (fun w m => (Mem.packPut (m.perm (takeR_perm [0, 2] _ [_, _] _ rfl))).packPerm (by rw [hj2]; exact (set_perm _ _ _ hjl).symm)) ?_
      refine hnext2 (p + 1) (aput es ⟨key4 l p, key4_length (by omega)⟩ ⟨A_y, c_y, x.l ++ [p]⟩) ⟨rfl, rfl, trivial⟩ [2, 1, 0] rfl [0] rfl (⟨by omega, by have := fok_put (A := A_y) (c := c_y) hF (by omega); rw [← e0] at this; exact this⟩) (by omega)
  · obtain rfl : p = i := by omega
    refine htskip rfl rfl rfl (by decide) <| htskip rfl rfl rfl (by decide) <| htskip rfl rfl rfl (by decide) <| htskip rfl rfl rfl (by decide) <| htskip rfl rfl rfl (by decide) <| htskip rfl rfl rfl (by decide) <| htskip rfl rfl rfl (by decide) <| htskip rfl rfl rfl (by decide) <| htskip rfl rfl rfl (by decide) <| htskip rfl rfl rfl (by decide) <| htskip rfl rfl rfl (by decide) <| htyU (y_pickF rfl rfl) <| htend <| hsub (ρ' := [(23, _), (0, _), (1, _)]) ⟨rfl, rfl, rfl, trivial⟩ <| hthen <| ?_
    refine hiff rfl (rfl) ?_
    refine hexit <| hthen_exit <| hthen_exit <| hqblock_exit <| ?_
    refine hmemQ (X' := RFnd g gm A n c p es :: _) (fun w m => (m.perm (takeR_perm [0, 0, 0] _ [_, _, _] _ rfl)).pack) ?_
    exact hret0 trivial rfl [0] rfl [] rfl ⟨es, rfl, rfl, rfl, hF⟩
end Go.Proofs.YtfikjheicjamhaaDoor
end
section
/- The engine within a round of a range over a function: the same rules of control, under the round's fence. No statement is proved here. -/
set_option linter.unusedVariables false
set_option linter.unusedSimpArgs false
set_option linter.unusedSectionVars false
namespace Go.Eng
open Go.RowKit
def isDef : Op → Bool
  | .defer _ => true
  | _ => false
abbrev rfence (l : Nat) : Fence := Fence.wide.inRound l
section
variable {P : Program} {Q : Exit → Act → World → Prop} {a : Act} {w : World} {l n : Nat}
theorem op_in {o : Oper} {next next' : Act → World → Prop} (h : o.wp P a w next Q) (hd : isDef o.op = false) (hn : ∀ a w, next a w → next' a w) : o.wpIn (rfence l) n P a w next' Q := by
  refine ⟨fun _ _ => trivial, ?_⟩
  have e : o.semAt (rfence l).round a.eval = execOp a.eval o := Oper.semAt_eq _ _ _ (fun c hc => by rw [hc] at hd; cases hd)
  rw [e]
  unfold Oper.wp at h
  generalize (execOp a.eval o).run P w = r at h
  match r, h with
  | .ok (.value v) w', h => exact hn _ _ h
  | .ok .skip w', h => exact hn _ _ h
  | .ok (.defer d) w', h => exact hn _ _ h
  | .ok (.enter f args) w', h =>
    refine ⟨fun h => by simp [Fence.wide] at h, CallsIn.inRound l (callsIn_wide.2 (Calls.mono h ?_))⟩
    intro e w'' q
    cases e with
    | returned v => exact hn _ _ q
    | panicked c => exact q
    | outgrown => exact q
  | .ok (.row row args) w', h => exact ⟨fun h => by simp [Fence.wide] at h, fun c cs _ => let ⟨v, w'', r, s⟩ := h c cs; ⟨v, w'', hn _ _ r, stepsIn_wide.2 s⟩⟩
  | .halt (.panic v) w', h => exact h
theorem ops_in {ops : Array Oper} (hQ : ¬ LetsOut Q) (hd : ops.toList.all (fun o => !isDef o.op) = true) : ∀ (il : List Nat) (a : Act) (w : World), wpOps P ops Q il a w → wpOpsIn (rfence l) n P ops Q il a w
  | [], a, w, h => h
  | i :: rest, a, w, h => by
    unfold wpOps at h
    unfold wpOpsIn
    cases ho : ops[i]? with
    | none => simp only [ho] at h ⊢; exact ops_in hQ hd rest a w h
    | some o =>
      simp only [ho] at h ⊢
      have hod : isDef o.op = false := by
        have h1 := List.all_eq_true.1 hd o (by obtain ⟨hi, he⟩ := Array.getElem?_eq_some_iff.1 ho; rw [← he]; exact Array.getElem_mem_toList ..)
        simpa using h1
      split
      · rename_i hw
        rw [if_pos hw] at h
        rcases h with h | ⟨_, h⟩
        · exact op_in h hod (fun a w h => ops_in hQ hd rest a w h)
        · exact absurd h hQ
      · rename_i hw
        rw [if_neg hw] at h
        exact ⟨fun _ _ => trivial, ops_in hQ hd rest _ w h⟩
end
/-- the judgement within round l -/
def HCR (l n : Nat) (P : Program) (Q : Exit → Act → World → Prop) (N : Nat) (D : List Deferred) (c : Code) (ρ : Env) (b : Base) (X S : List Res) : Prop :=
  ¬ LetsOut Q → ∀ w, Mem b X S w → ∀ a, Ag N D ρ a → c.wpIn (rfence l) n P Q a w
section
variable {P : Program} {Q : Exit → Act → World → Prop} {N : Nat} {D : List Deferred} {ρ ρ' : Env} {b : Base} {X X' X1 Xr S S' S1 : List Res} {c c' : Code} {l n : Nat} {ops : Array Oper}
theorem letsOut_then {K : Act → World → Prop} : LetsOut (Exit.then K Q) → LetsOut Q := fun ⟨a, w, h⟩ => ⟨a, w, h⟩
theorem letsOut_block {id : Nat} : LetsOut (Exit.inBlock id Q) → LetsOut Q := fun ⟨a, w, h⟩ => ⟨a, w, h⟩
theorem letsOut_noPan : LetsOut (NoPan Q) → LetsOut Q := fun ⟨a, w, h⟩ => ⟨a, w, by first | exact h | exact h.elim⟩
theorem hseqR (h : HCR l n P (Exit.then (fun a w => ¬ LetsOut Q → c'.wpIn (rfence l) n P Q a w) Q) N D c ρ b X S) : HCR l n P Q N D (.seq c c') ρ b X S := fun hQ w m a ha =>
  wpIn_seq (wpIn_mono (h (fun k => hQ (letsOut_then k)) w m a ha) (fun e a w q => by cases e <;> first | exact q hQ | exact q))
theorem hregR {id : Nat} {il : List Oper} (h : HL P il.toArray Q N D il ρ b X S) (hd : il.all (fun o => !isDef o.op) = true := by rfl) : HCR l n P Q N D (.region id il.toArray false) ρ b X S := fun hQ w m a ha => by
  refine wpIn_region (ops_in hQ (by simpa using hd) _ _ _ ?_)
  have h1 := h w m a ha
  rw [List.range_eq_range', ← Array.length_toList, wpOps_eq_wpList il.toArray.toList 0 (by simp)]
  simpa using h1
theorem hcskipR (h : HQ Q N D .normal ρ b X S) : HCR l n P Q N D .skip ρ b X S := fun hQ w m a ha => wpIn_skip (h w m a ha)
theorem hexitR {id : Nat} (h : HQ Q N D (.exit id) ρ b X S) : HCR l n P Q N D (.exit id) ρ b X S := fun hQ w m a ha => wpIn_exit (h w m a ha)
theorem hblockR {id : Nat} (h : HCR l n P (Exit.inBlock id Q) N D c ρ b X S) : HCR l n P Q N D (.block id c) ρ b X S := fun hQ w m a ha => wpIn_block (h (fun k => hQ (letsOut_block k)) w m a ha)
theorem hifR {p : Prop} [Decidable p] {x : Operand} (hc : ev ρ x = some (.bool (decide p))) (ht : p → HCR l n P Q N D c ρ b X S) (he : ¬ p → HCR l n P Q N D c' ρ b X S) : HCR l n P Q N D (.cond x c c') ρ b X S :=
  fun hQ w m a ha => wpIn_cond_split (ha.eval hc) (fun h => ht (of_decide_eq_true h) hQ w m a ha) (fun h => he (of_decide_eq_false h) hQ w m a ha)
theorem hthenR (h : HCR l n P Q N D c ρ b X S) : HQ (Exit.then (fun a w => ¬ LetsOut Q → c.wpIn (rfence l) n P Q a w) Q) N D .normal ρ b X S := fun w m a ha hQ => h hQ w m a ha
theorem hdrwR {id : Nat} {il : List (Option Nat × Oper)} (Xs : List Nat) (L : List (Nat × Option Nat)) (hm : P.follows .mixedOrders = true) (hk : (Region.noSelect ops && seqOkG ops Xs L (Array.replicate ops.size false) && decide (L.length ≤ ops.size)) = true)
    (hp : pickG ops L = some il) (cc : Nat) (h : HT P ops (NoPan Q) (TT b X S cc) N D 0 il ρ b X S) (hd : ops.toList.all (fun o => !isDef o.op) = true := by rfl) : HCR l n P Q N D (.region id ops true) ρ b X S := fun hQ w m a ha => by
  simp only [Bool.and_eq_true, decide_eq_true_eq] at hk
  refine wpIn_mono (Q := NoPan Q) ?_ (fun e a w q => by cases e <;> first | exact q | exact q.elim)
  refine wpIn_region_draw fun t => ops_in (fun k => hQ (letsOut_noPan k)) hd _ _ _ ?_
  simp only [Region.schedule, hm, Bool.true_or, if_true]
  refine wpAny_sound ops.size t _ a _ ?_
  refine wpAny_of_wpG _ _ _ _ (wpG_of_seq (X := Xs) hk.1.1 (fun c a d v w q => q.elim) L il _ a _ _ 0 hp hk.1.2 hk.2 ?_ ?_ (T := TT b X S cc) (fun _ => m.lift (Fr.drew w)) (h _ (m.lift (Fr.drew w)) a ha))
  · intro j hj
    simp [Array.getElem?_replicate] at hj
    split at hj <;> cases hj
  · unfold cnt
    rw [List.countP_eq_zero]
    intro x _
    simp [Array.getElem?_replicate]
    split <;> rfl
theorem hdrwBR {id : Nat} {il : List (Option Nat × Oper)} (is js : List Nat) (hX : takeR is X = some (X1, Xr)) (hS : getR js S = some S1) (Xs : List Nat) (L : List (Nat × Option Nat)) (hm : P.follows .mixedOrders = true) (hk : (Region.noSelect ops && seqOkG ops Xs L (Array.replicate ops.size false) && decide (L.length ≤ ops.size)) = true)
    (hp : pickG ops L = some il) (cc : Nat) (h : HT P ops (NoPan Q) (TT b X1 S1 cc) N D 0 il ρ b X S) (hd : ops.toList.all (fun o => !isDef o.op) = true := by rfl) : HCR l n P Q N D (.region id ops true) ρ b X S := fun hQ w m a ha => by
  simp only [Bool.and_eq_true, decide_eq_true_eq] at hk
  refine wpIn_mono (Q := NoPan Q) ?_ (fun e a w q => by cases e <;> first | exact q | exact q.elim)
  refine wpIn_region_draw fun t => ops_in (fun k => hQ (letsOut_noPan k)) hd _ _ _ ?_
  simp only [Region.schedule, hm, Bool.true_or, if_true]
  refine wpAny_sound ops.size t _ a _ ?_
  refine wpAny_of_wpG _ _ _ _ (wpG_of_seq (X := Xs) hk.1.1 (fun c a d v w q => q.elim) L il _ a _ _ 0 hp hk.1.2 hk.2 ?_ ?_ (T := TT b X1 S1 cc) (fun _ => (wk is js hX hS).mem (m.lift (Fr.drew w))) (h _ (m.lift (Fr.drew w)) a ha))
  · intro j hj
    simp [Array.getElem?_replicate] at hj
    split at hj <;> cases hj
  · unfold cnt
    rw [List.countP_eq_zero]
    intro x _
    simp [Array.getElem?_replicate]
    split <;> rfl
end
end Go.Eng
end
section
/- A range over a function in the engine over things in memory. No statement is proved here. -/
set_option linter.unusedVariables false
set_option linter.unusedSimpArgs false
set_option linter.unusedSectionVars false
namespace Go.Eng
open Go.RowKit
/-- the block that gathers a loop's deferred calls: there are none -/
def RCol (D : Nat) : Res where
  foot k := k = D
  holds w := w.heap[D]? = some (.deferred (some []))
  keep := fun {S w w'} f h e => by
    have hlt := (Array.getElem?_eq_some_iff.1 e).1
    exact (f.block D hlt (h D rfl)).trans e
  low := fun {w k} e hk => by
    have hk' : k = D := hk
    rw [hk']; exact (Array.getElem?_eq_some_iff.1 e).1
theorem Mem.grown {b : Base} {X S : List Res} {w w' : World} {R : Nat → Prop} (m : Mem b X S w) (f : Fr R w w') (h1 : ∀ k, R k → b.w.heap.size ≤ k) (h2 : ∀ k, R k → ∀ x ∈ X, ¬ x.foot k) (h3 : ∀ k, R k → ∀ s ∈ S, ¬ s.foot k) : Mem b X S w' :=
  ⟨m.fr.trans f (fun _ e => e) (fun i hi e => absurd (h1 i e) (by omega)), m.xx, m.xs, fun x hx => x.keep f (fun k hk hr => h2 k hr x hx hk) (m.hx x hx), fun s hs => s.keep f (fun k hk hr => h3 k hr s hs hk) (m.hs s hs), m.nx, m.ns⟩
theorem fr_of_grown {w w' : World} {row : Option Nat} (h : w.grownBy w' row) : Fr (fun k => row = some k) w w' := ⟨h.os, h.tape, h.output, h.size, fun k hk hn => h.block k hk (fun e => hn e.symm)⟩
/-- what a round keeps below B: all but M -/
def KpM (B : Nat) (M : Nat → Prop) (W W' : World) : Prop := ∀ k, k < B → ¬ M k → W'.heap[k]? = W.heap[k]?
def penv (ps : Array Tmp) (vs : List Value) : Env := (ps.toList.zip vs)
theorem Mem.addCol {b : Base} {X S : List Res} {w : World} {D B : Nat} (m : Mem b X S w) (hb : b.w.heap.size ≤ B) (hD : B ≤ D) (hx : ∀ x ∈ X, ∀ k, x.foot k → k < B) (hs : ∀ s ∈ S, ∀ k, s.foot k → k < B) (h : w.heap[D]? = some (.deferred (some []))) : Mem b (RCol D :: X) S w := by
  refine ⟨m.fr, List.pairwise_cons.2 ⟨fun y hy k hk hy' => ?_, m.xx⟩, fun x hx' s hs' k hk hk' => ?_, fun x hx' => ?_, m.hs, fun x hx' k hk => ?_, m.ns⟩
  · have hk' : k = D := hk
    have := hx y hy k hy'
    omega
  · rcases List.mem_cons.1 hx' with rfl | hx'
    · have h1 : k = D := hk
      have := hs s hs' k hk'
      omega
    · exact m.xs x hx' s hs' k hk hk'
  · rcases List.mem_cons.1 hx' with rfl | hx'
    · exact h
    · exact m.hx x hx'
  · rcases List.mem_cons.1 hx' with rfl | hx'
    · have h1 : k = D := hk
      exact .inr (by omega)
    · exact m.nx x hx' k hk
theorem Mem.off {b : Base} {X S X1 Xr : List Res} {w : World} {is : List Nat} (m : Mem b X S w) (hX : takeR is X = some (X1, Xr)) (j : Nat) {r : Res} (hj : Xr[j]? = some r) {k : Nat} (hk : r.foot k) : ¬ feet X1 k := by
  have m1 := m.perm (takeR_perm _ _ _ _ hX)
  rintro ⟨x, hx, hxk⟩
  exact (List.pairwise_append.1 m1.xx).2.2 x hx r (List.mem_of_getElem? hj) k hxk hk
/-- how a round may be left -/
def RQ {α σ : Type} (b : Base) (X1 : σ → List Res) (Sb : List Res) (id : Nat) (step : σ → α → σ) (brk : σ → α → Prop) (s : σ) (x : α) : Exit → Act → World → Prop
  | .normal, _, w => Mem b (X1 (step s x)) Sb w
  | .exit i, _, w => i = id ∧ Mem b (X1 s) Sb w ∧ brk s x
  | _, _, _ => False
theorem hrq_nextE {α σ : Type} {b : Base} {X1 : σ → List Res} {Sb : List Res} {id : Nat} {step : σ → α → σ} {brk : σ → α → Prop} {s : σ} {x : α} {N : Nat} {D : List Deferred} {ρ : Env} {X S Xz : List Res} (s' : σ) (he : step s x = s') (is : List Nat) (hX : takeR is X = some (X1 s', Xz)) (js : List Nat) (hS : getR js S = some Sb) :
    HQ (RQ b X1 Sb id step brk s x) N D .normal ρ b X S := fun w m a ha => by
  show Mem b (X1 (step s x)) Sb w
  rw [he]
  exact m.out is hX js hS
theorem hrq_break {α σ : Type} {b : Base} {X1 : σ → List Res} {Sb : List Res} {id : Nat} {step : σ → α → σ} {brk : σ → α → Prop} {s : σ} {x : α} {N : Nat} {D : List Deferred} {ρ : Env} {X S Xz : List Res} (is : List Nat) (hX : takeR is X = some (X1 s, Xz)) (js : List Nat) (hS : getR js S = some Sb) (hb : brk s x) :
    HQ (RQ b X1 Sb id step brk s x) N D (.exit id) ρ b X S := fun w m a ha => ⟨rfl, m.out is hX js hS, hb⟩
section
variable {P : Program} {Q : Exit → Act → World → Prop} {N : Nat} {D : List Deferred} {ρ ρ' : Env} {b : Base} {X X' Xr S S' Sb : List Res}
theorem hrange {α σ : Type} {g gf id : Nat} {ps : Array Tmp} {assign body : Code} {lb : List Value} (X1 : σ → List Res) (s0 : σ) (step : σ → α → σ) (brk : σ → α → Prop) (encs : α → List Value) (xs : List α) (ρx : α → Env) (ρk : Env) (hk : SubB ρk ρ)
    (hv : get ρ g = some (.func (.func gf) #[] lb.toArray)) (heg : ∀ args w, (callFunc gf args).run P w = .ok (.enter gf args) w)
    (is : List Nat) (hX : takeR is X = some (X1 s0, Xr)) (hft : ∀ s k, feet (X1 s) k ↔ feet (X1 s0) k) (js : List Nat) (hS : getR js S = some Sb)
    (hseq : ∀ w, Mem b X S w → SeqStopsK Fence.wide 2 P gf lb.toArray (fun x => (encs x).toArray) (KpM w.heap.size (feet (X1 s0))) (fun ys => ys = xs) (fun pre => pre <+: xs) xs.length w)
    (hps : ∀ x, (encs x).length = ps.size) (hpn : ∀ p ∈ ps.toList, p < N) (hnd : ∀ x (a : Act), Ag N D ρ a → Ag N [] (ρ' ++ penv ps (encs x) ++ ρ) { tmps := (ps.zip (encs x).toArray).foldl (fun t (p, v) => t.setIfInBounds p v) a.tmps, defers := [] })
    (hasg : ∀ (l : Nat) (b' : Base) (s : σ) (x : α) (Q' : Exit → Act → World → Prop), HQ Q' N [] .normal (ρx x ++ ρk) b' (X1 s) Sb → HCR l 1 P Q' N [] assign (ρ' ++ penv ps (encs x) ++ ρ) b' (X1 s) Sb)
    (hbody : ∀ (l : Nat) (b' : Base) (s : σ) (x : α), HCR l 1 P (RQ b' X1 Sb id step brk s x) N [] body (ρx x ++ ρk) b' (X1 s) Sb)
    (k : ∀ (Dk : Nat) (s : σ), (s = xs.foldl step s0 ∨ ∃ pre x rest, xs = pre ++ x :: rest ∧ s = pre.foldl step s0 ∧ brk s x) → HQ Q N (⟨.collected Dk, #[]⟩ :: D) .normal ρ b (RCol Dk :: (X1 s ++ Xr)) S) :
    HC P Q N D (.block id (.rangeFunc (.tmp g) ps assign body)) ρ b X S := by
  intro w m a ha
  have m1 := m.perm (takeR_perm _ _ _ _ hX)
  have hSb := getR_sub _ _ _ hS
  obtain ⟨M, hM⟩ : ∃ M, M = feet (X1 s0) := ⟨_, rfl⟩
  have hbz : b.w.heap.size ≤ w.heap.size := m.fr.size
  have lowM : ∀ k, M k → k < w.heap.size := by
    rw [hM]
    rintro k ⟨x, hx, hk⟩
    exact x.low (m1.hx x (List.mem_append_left _ hx)) hk
  have lowX : ∀ s x, x ∈ X1 s ++ Xr → ∀ k, x.foot k → k < w.heap.size := by
    intro s x hx k hk
    rcases List.mem_append.1 hx with hx | hx
    · exact lowM k (by rw [hM]; exact (hft s k).1 ⟨x, hx, hk⟩)
    · exact x.low (m1.hx x (List.mem_append_right _ hx)) hk
  have lowS : ∀ s ∈ S, ∀ k, s.foot k → k < w.heap.size := fun s hs k hk => s.low (m.hs s hs) hk
  refine wpIn_wide (n := 3).1 (wpIn_block ?_)
  have hown : ∀ {s : σ} {W W' : World} {row : Option Nat}, Mem b (X1 s ++ Xr) S W → W.grownBy W' row → (∀ r, row = some r → w.heap.size ≤ r ∧ ∃ o : Obj, W.heap[r]? = some o ∧ o.isCells = false) → Mem b (X1 s ++ Xr) S W' := by
    intro s W W' row mW hg hr
    refine mW.grown (fr_of_grown hg) (fun k e => Nat.le_trans hbz (hr k e).1) (fun k e x hx hk => ?_) (fun k e x hx hk => ?_)
    · have h1 := lowX s x hx k hk
      have h2 := (hr k e).1
      omega
    · have h1 := lowS x hx k hk
      have h2 := (hr k e).1
      omega
  have hround : ∀ {s : σ} {W W' : World} {Y : List Res}, Mem b (X1 s ++ Xr) S W → w.heap.size ≤ W.heap.size → Mem ⟨W, feet (X1 s), feet Sb⟩ Y Sb W' → KeepsFrom w.heap.size W W' ∧ KpM w.heap.size M W W' ∧ Mem b (Y ++ Xr) S W' := by
    intro s W W' Y mW hsz mY
    have e : ∀ k, feet (X1 s) k ↔ M k := fun k => by rw [hM]; exact hft s k
    refine ⟨⟨mY.fr.size, fun k o hk ho _ => ?_⟩, fun k hk hn => ?_, (mW.frame hSb mY).subS (fun x hx => List.mem_append_right _ hx)⟩
    · have hlt := (Array.getElem?_eq_some_iff.1 ho).1
      exact (mY.fr.block k hlt (fun q => by have := lowM k ((e k).1 q); omega)).trans ho
    · exact mY.fr.block k (by show k < W.heap.size; omega) (fun q => hn ((e k).1 q))
  refine wpIn_rangeFunc_ownH (n := 3) (α := α) (gf := gf) (lb := lb.toArray) rfl (by decide) (ha.eval hv) trivial heg (hseq w m)
    (fun {A B C} h1 h2 k hk hn => (h2 k hk hn).trans (h1 k hk hn)) (fun W l o o' hl ho _ _ k hk hn => World.putObj_heap_other (by omega)) (Below.refl _ w) (fun x => by simpa using hps x)
    (fun pre W => w.heap.size ≤ W.heap.size ∧ Mem b (X1 (pre.foldl step s0) ++ Xr) S W) (fun c pre W => c = .exit id ∧ ∃ pre' x, pre = pre' ++ [x] ∧ Mem b (X1 (pre'.foldl step s0) ++ Xr) S W ∧ brk (pre'.foldl step s0) x)
    (fun pre W W' row h hg hr => ⟨Nat.le_trans h.1 hg.size, hown h.2 hg hr⟩)
    (fun c pre W W' row h hg hr => by
      obtain ⟨hc, pre', x, e, h1, h2⟩ := h
      exact ⟨hc, pre', x, e, hown h1 hg hr, h2⟩)
    ⟨Nat.le_refl _, m1⟩ (fun x a' _ => Ag N [] (ρx x ++ ρk) a') (fun x a' => ownFrom_pure _ (fun _ => Ag N [] (ρx x ++ ρk) a')) ?_ ?_ ?_ ?_
  · rintro l pre x W K ⟨hsz, mW⟩ hK
    refine hasg l ⟨W, feet (X1 (pre.foldl step s0)), feet Sb⟩ (pre.foldl step s0) x _ (fun W' m' a' ha' => ?_) (fun ⟨_, _, h⟩ => h) W (mW.part hSb) _ (hnd x a ha)
    obtain ⟨h1, h2, h3⟩ := hround mW hsz m'
    exact hK a' W' h1 (by rw [← hM]; exact h2) ⟨Nat.le_trans hsz h1.size, h3⟩ ha'
  · rintro l pre x a' W _ _ ⟨hsz, mW⟩ hax _
    refine wpIn_mono (hbody l ⟨W, feet (X1 (pre.foldl step s0)), feet Sb⟩ (pre.foldl step s0) x (fun ⟨_, _, h⟩ => h) W (mW.part hSb) a' hax) ?_
    intro e a2 W2 q
    cases e with
    | normal =>
      have q' : Mem _ (X1 (step (pre.foldl step s0) x)) Sb W2 := q
      obtain ⟨h1, h2, h3⟩ := hround mW hsz q'
      refine ⟨h1, by rw [← hM]; exact h2, Nat.le_trans hsz h1.size, ?_⟩
      rw [List.foldl_append]
      exact h3
    | exit i =>
      obtain ⟨rfl, q1, q2⟩ := q
      obtain ⟨h1, h2, h3⟩ := hround mW hsz q1
      exact ⟨h1, rfl, pre, x, rfl, h3, q2⟩
    | ret => exact q.elim
    | goto t => exact q.elim
    | panic c => exact q.elim
    | outgrown => exact q.elim
  · rintro Dk ys W hD rfl ⟨hsz, mW⟩ hdef
    exact k Dk _ (.inl rfl) W (mW.addCol hbz hD (lowX _) lowS hdef) _ ⟨ha.sz, by rw [ha.df], ha.gt⟩
  · rintro Dk c pre W hD hpre ⟨rfl, pre', x, rfl, mW, hb⟩ hdef
    obtain ⟨rest, hr⟩ := hpre
    refine wpIn_exit ?_
    have hq := k Dk _ (.inr ⟨pre', x, rest, by rw [← hr]; simp, rfl, hb⟩) W (mW.addCol hbz hD (lowX _) lowS hdef) { a with defers := ⟨.collected Dk, #[]⟩ :: a.defers } ⟨ha.sz, by show _ :: a.defers = _; rw [ha.df], ha.gt⟩
    show (Exit.inBlock id Q) (.exit id) _ W
    simp only [Exit.inBlock, if_pos]
    exact hq
end
theorem ag_nd2 {N p q : Nat} {D : List Deferred} {ρ : Env} {a : Act} {u v : Value} (hpq : (p == q) = false) (hp : p < N) (hq : q < N) (ha : Ag N D ρ a) :
    Ag N [] ([] ++ penv #[p, q] [u, v] ++ ρ) { tmps := ((#[p, q] : Array Tmp).zip [u, v].toArray).foldl (fun t (p, v) => t.setIfInBounds p v) a.tmps, defers := [] } := by
  have hne : p ≠ q := by simpa using hpq
  have e : (((#[p, q] : Array Tmp).zip [u, v].toArray).foldl (fun t (p, v) => t.setIfInBounds p v) a.tmps) = (a.tmps.setIfInBounds p u).setIfInBounds q v := by simp
  rw [e]
  have hsz := ha.sz
  refine ⟨by simpa using hsz, rfl, fun t z ht => ?_⟩
  simp only [penv, List.nil_append, List.zip_cons_cons, List.zip_nil_right, List.cons_append, get] at ht
  show ((a.tmps.setIfInBounds p u).setIfInBounds q v)[t]? = some z
  cases h1 : Nat.beq p t with
  | true =>
    rw [h1] at ht
    have h1' : p = t := Nat.eq_of_beq_eq_true h1
    simp only [cond_true, Option.some.injEq] at ht
    subst h1'; subst ht
    rw [Array.getElem?_setIfInBounds_ne (Ne.symm hne), Array.getElem?_setIfInBounds_self_of_lt (by omega)]
  | false =>
    rw [h1] at ht
    simp only [cond_false] at ht
    have h1' : p ≠ t := Nat.ne_of_beq_eq_false h1
    cases h2 : Nat.beq q t with
    | true =>
      rw [h2] at ht
      have h2' : q = t := Nat.eq_of_beq_eq_true h2
      simp only [cond_true, Option.some.injEq] at ht
      subst h2'; subst ht
      rw [Array.getElem?_setIfInBounds_self_of_lt (by simp; omega)]
    | false =>
      rw [h2] at ht
      have h2' : q ≠ t := Nat.ne_of_beq_eq_false h2
      rw [Array.getElem?_setIfInBounds_ne h2', Array.getElem?_setIfInBounds_ne h1']
      exact ha.gt t z (by simpa using ht)
/-! ### In and out of a function with such a loop -/
theorem henterM {P : Program} {f : Nat} {fn : Func} {c : Code} {vs : List Value} {R : Value → List Res → List Res → Prop} {N : Nat} {X0 S0 : List Res} (hf : P.funcs[f]? = some fn) (hb : fn.body = some c) (hN : fn.ntmps = N) (hl : vs.length ≤ N)
    (h : ∀ b, HC P (bodyPostM Fence.wide 3 P fn (RB b R)) N [] c (argsEnv vs 0) b X0 S0) : Con P f vs X0 S0 R := fun w m => by
  refine callsIn_wide (n := 3).1 (callsIn_of_wp_marks hf hb trivial (wpIn_wide.2 (h _ w m _ ⟨?_, rfl, fun t v ht => ?_⟩)))
  · simp [hN]; omega
  · obtain ⟨_, h2⟩ := get_argsEnv vs 0 t v ht
    have hlt := (List.getElem?_eq_some_iff.1 h2).1
    rw [Array.getElem?_append_left (by simpa using hlt)]
    simpa using h2
section
variable {P : Program} {fn : Func} {R : Value → List Res → List Res → Prop} {N n : Nat} {D : List Deferred} {ρ : Env} {b : Base} {X X' Xz S S' : List Res} {e : Exit}
/-- the block is given back -/
theorem hcol {Dk : Nat} (he : Leaves e) (is : List Nat) (hX : takeR is X = some ([RCol Dk], X')) (k : HQ (bodyPostM Fence.wide n P fn (RB b R)) N D e ρ b X' S) : HQ (bodyPostM Fence.wide n P fn (RB b R)) N (⟨.collected Dk, #[]⟩ :: D) e ρ b X S := by
  intro w m a ha
  have m1 := m.perm (takeR_perm _ _ _ _ hX)
  have hc : w.heap[Dk]? = some (.deferred (some [])) := m1.hx (RCol Dk) (by simp)
  have hx1 := (List.pairwise_cons.1 m1.xx).1
  have hr := run_takeDeferred (P := P) hc
  have hf : Fr (fun k => k = Dk) w (w.putObj Dk (.deferred none)) := ⟨rfl, rfl, rfl, by simp, fun k _ hk => World.putObj_heap_other hk⟩
  have hbz : b.w.heap.size ≤ Dk ∨ b.M Dk := (m1.nx (RCol Dk) (by simp) Dk rfl).symm
  have m2 : Mem b X' S (w.putObj Dk (.deferred none)) := by
    refine ⟨m1.fr.trans hf (fun _ e => e) (fun i hi e => ?_), (List.pairwise_cons.1 m1.xx).2, fun x hx => m1.xs x (List.mem_cons_of_mem _ hx), fun x hx => x.keep hf (fun k hk e => ?_) (m1.hx x (List.mem_cons_of_mem _ hx)), fun s hs => s.keep hf (fun k hk e => ?_) (m1.hs s hs), fun x hx => m1.nx x (List.mem_cons_of_mem _ hx), m1.ns⟩
    · subst e
      rcases hbz with h | h
      · omega
      · exact h
    · exact hx1 x hx k e hk
    · exact m1.xs (RCol Dk) (by simp) s hs k e hk
  have hk := k _ m2 { a with defers := D } ⟨ha.sz, rfl, ha.gt⟩
  cases e with
  | normal =>
    show LeavesInM Fence.wide n P fn a.tmps _ a.defers .returning w
    rw [ha.df]
    exact ⟨by simp, .inl ⟨Dk, _, rfl, hr, hk⟩⟩
  | ret =>
    show LeavesInM Fence.wide n P fn a.tmps _ a.defers .returning w
    rw [ha.df]
    exact ⟨by simp, .inl ⟨Dk, _, rfl, hr, hk⟩⟩
  | _ => exact he.elim
theorem hretM {v : Value} (he : Leaves e) (h : ∀ a, Ag N [] ρ a → ∀ w, (results fn a.tmps).run P w = .ok v w) (is : List Nat) (hX : takeR is X = some (X', Xz)) (js : List Nat) (hS : getR js S = some S') (hR : R v X' S') : HQ (bodyPostM Fence.wide n P fn (RB b R)) N [] e ρ b X S := by
  intro w m a ha
  have hm := m.out is hX js hS
  cases e with
  | normal =>
    show LeavesInM Fence.wide n P fn a.tmps _ a.defers .returning w
    rw [ha.df]
    exact ⟨v, h a ha w, _, _, _, rfl, hR, hm⟩
  | ret =>
    show LeavesInM Fence.wide n P fn a.tmps _ a.defers .returning w
    rw [ha.df]
    exact ⟨v, h a ha w, _, _, _, rfl, hR, hm⟩
  | _ => exact he.elim
theorem hretM2 {t t' : Nat} {v v' : Value} (he : Leaves e) (hr : fn.results = #[.tmp t, .tmp t']) (hv : get ρ t = some v) (hv' : get ρ t' = some v') (is : List Nat) (hX : takeR is X = some (X', Xz)) (js : List Nat) (hS : getR js S = some S') (hR : R (.tuple #[v, v']) X' S') : HQ (bodyPostM Fence.wide n P fn (RB b R)) N [] e ρ b X S :=
  hretM he (fun a ha w => by have h1 := ha.getD hv; have h2 := ha.getD hv'; simp at h1 h2; simp [results, hr, h1, h2]) is hX js hS hR
end
end Go.Eng
end
section
/- The library's slices.Backward over a slice of numbers: what it hands to a loop's body, and in which order. -/
set_option linter.unusedVariables false
set_option linter.unusedSimpArgs false
namespace Go.Proofs.YtfikjheicjamhaaDoor
open Go.Eng Go.RowKit Go.Shelf
attribute [local go_sem] Oper.semAt_some
set_option maxRecDepth 100000 in
set_option maxHeartbeats 4000000 in
theorem back1_in (F : Fence) (n : Nat) (h7 : F.fn 189) (hro : F.round = none) (hn : 1 ≤ n) (l Bs B b off cap : Nat) (M : Nat → Prop) (zs : List Int) {α : Type} (L : List α) (encs : α → List Value) (hL : L.length = zs.length) (henc : ∀ (k : Nat) (x : α), L[k]? = some x → encs x = [.int .i64 ((zs.length - 1 - k : Nat) : Int), .int .i64 (zs[zs.length - 1 - k]?.getD 0)]) (hreach : zs.length * 8 ≤ 140737488351232) (hbs : Bs < B ∧ ¬ M Bs) (hb : b < B ∧ ¬ M b) (J Jx : List α → World → Prop)
    (hY : ∀ pre x W, J pre W → pre.length < L.length → YieldAt F (n - 1) Tryd.prog l (encs x).toArray W fun e W' =>
      (e = .returned (.bool true) ∧ J (pre ++ [x]) W' ∧ KpM B M W W') ∨ (e = .returned (.bool false) ∧ Jx (pre ++ [x]) W'))
    (W : World) (hBs : W.cell? ⟨Bs, 0, none⟩ = some (.slice (some ⟨b, off, none⟩) zs.length cap)) (hc : ∀ j, j < zs.length → W.cell? ⟨b, off + j, none⟩ = some (.int .i64 (zs[j]?.getD 0))) (h0 : J [] W) :
    CallsIn F n Tryd.prog 189 #[.func (.yield l) #[] #[], .pointer (some ⟨Bs, 0, none⟩)] W fun e W' => (∃ v, e = .returned v) ∧
      ((∃ ys, ys = L ∧ J ys W') ∨ (∃ pre, pre <+: L ∧ Jx pre W')) := by
  refine callsIn_of_wp Tryd.func189 rfl h7 ?_ hro
  simp only [Tryd.ntmps189, List.size_toArray, List.length_cons, List.length_nil, Nat.reduceAdd, Nat.reduceSub, Array.replicate_succ, Array.replicate_zero, List.push_toArray, List.append_toArray, List.nil_append, List.cons_append]
  gi_wp2
  gi_loopw [3] (fun i wr => ∃ k : Nat, k ≤ zs.length ∧ i = .int .i64 ((zs.length : Int) - 1 - (k : Int)) ∧ J (L.take k) wr ∧ KpM B M W wr)
    (fun i _ => (intOf i + 1).toNat)
  case atStart => exact ⟨0, Nat.zero_le _, by simp, h0, fun _ _ _ => rfl⟩
  case round =>
    obtain ⟨k, hk, rfl, hJs, hnx⟩ := hrel
    have hBs' : wr.cell? ⟨Bs, 0, none⟩ = some (.slice (some ⟨b, off, none⟩) zs.length cap) := by rw [← hBs]; simp only [World.cell?, hnx Bs hbs.1 hbs.2]
    have hcx : ∀ j, j < zs.length → wr.cell? ⟨b, off + j, none⟩ = some (.int .i64 (zs[j]?.getD 0)) := fun j h => by rw [← hc j h]; simp only [World.cell?, hnx b hb.1 hb.2]
    by_cases hlt : k < zs.length
    · obtain ⟨j, hj⟩ : ∃ j : Nat, j + 1 + k = zs.length := ⟨zs.length - 1 - k, by omega⟩
      have hjk : zs.length - 1 - k = j := by omega
      have hji : (zs.length : Int) - 1 - (k : Int) = (j : Int) := by omega
      obtain ⟨x, hx⟩ : ∃ x, L[k]? = some x := ⟨_, List.getElem?_eq_getElem (by omega)⟩
      have htk : L.take (k + 1) = L.take k ++ [x] := by rw [List.take_add_one, hx]; rfl
      obtain ⟨fn, tmps, assign, body, hy, hR⟩ := hY _ x wr hJs (by rw [List.length_take]; omega)
      rw [henc k x hx, hjk] at hy
      have hcx' := hcx j (by omega)
      obtain ⟨z, hz⟩ : ∃ z, zs[j]?.getD 0 = z := ⟨_, rfl⟩
      rw [hz] at hcx' hy
      clear hcx hz hc
      rw [hji]
      have hge : ¬ ((j : Int) < 0) := by omega
      have hjl : j < zs.length := by omega
      gi_wp2
      refine hR.mono ?_
      rintro e W3 (⟨rfl, hJ3, hk3⟩ | ⟨rfl, hJx3⟩)
      · gi_wp2
        go_roundw
        case rel => exact ⟨k + 1, by omega, by congr 1 <;> omega, by rw [htk]; exact hJ3, fun q h1 h2 => (hk3 q h1 h2).trans (hnx q h1 h2)⟩
        case measure => simp [intOf] <;> omega
      · gi_wp2
        refine bodyPost_ret (results_none rfl _ _ _) rfl ?_
        exact ⟨⟨_, rfl⟩, .inr ⟨_, by rw [← htk]; exact List.take_prefix _ _, hJx3⟩⟩
    · obtain rfl : k = zs.length := by omega
      have hge : ¬ ((zs.length : Int) - 1 - (zs.length : Int) ≥ 0) := by omega
      gi_wp2
      go_end0
      exact ⟨⟨_, rfl⟩, .inl (by rw [← hL, List.take_length] at hJs; exact hJs)⟩
set_option maxRecDepth 100000 in
set_option maxHeartbeats 4000000 in
theorem back0_in (F : Fence) (n : Nat) (h7 : F.fn 189) (hro : F.round = none) (l Bs cap : Nat) (A : Option Addr) (J : World → Prop)
    (W : World) (hBs : W.cell? ⟨Bs, 0, none⟩ = some (.slice A 0 cap)) (h0 : J W) :
    CallsIn F n Tryd.prog 189 #[.func (.yield l) #[] #[], .pointer (some ⟨Bs, 0, none⟩)] W fun e W' => (∃ v, e = .returned v) ∧ J W' := by
  refine callsIn_of_wp Tryd.func189 rfl h7 ?_ hro
  simp only [Tryd.ntmps189, List.size_toArray, List.length_cons, List.length_nil, Nat.reduceAdd, Nat.reduceSub, Array.replicate_succ, Array.replicate_zero, List.push_toArray, List.append_toArray, List.nil_append, List.cons_append]
  gi_wp2
  gi_loopw [3] (fun i wr => i = .int .i64 (-1) ∧ J wr) (fun _ _ => 0)
  case atStart => exact ⟨by simp, h0⟩
  case round =>
    obtain ⟨rfl, hJs⟩ := hrel
    gi_wp2
    go_end0
    exact ⟨⟨_, rfl⟩, hJs⟩
theorem back_stops (F : Fence) (n : Nat) (h7 : F.fn 189) (hro : F.round = none) (hn : 1 ≤ n) {w : World} {Bs e : Nat} {v : Value} {zs : List Int} {M : Nat → Prop} {α : Type} (L : List α) (encs : α → List Value) (hL : L.length = zs.length) (henc : ∀ (k : Nat) (x : α), L[k]? = some x → encs x = [.int .i64 ((zs.length - 1 - k : Nat) : Int), .int .i64 (zs[zs.length - 1 - k]?.getD 0)]) (hreach : zs.length * 8 ≤ 140737488351232)
    (hBs : w.cell? ⟨Bs, 0, none⟩ = some v) (hMB : ¬ M Bs) (h : Go.Eng.Own w 0 e 1 v zs.length (zs.map (Value.int .i64))) (hMA : ∀ k, vblk v k → ¬ M k) :
    SeqStopsK F n Tryd.prog 189 #[.pointer (some ⟨Bs, 0, none⟩)] (fun x => (encs x).toArray) (KpM w.heap.size M) (fun ys => ys = L) (fun pre => pre <+: L) L.length w := by
  intro l J Jx W hW _ _ hY h0
  have hlt := lt_of_cell hBs
  have hc' : W.cell? ⟨Bs, 0, none⟩ = some v := (hW.cell (p := ⟨Bs, 0, none⟩) hlt).trans hBs
  obtain ⟨hl, ⟨rfl, hz⟩ | ⟨g, o, cap, cur, rfl, _, hb, hcap, hml, hcl, hx⟩⟩ := h
  · have hL0 : L = [] := List.eq_nil_of_length_eq_zero (by omega)
    subst hL0
    exact (back0_in F n h7 hro l Bs 0 none (J []) W hc' h0).mono fun e W' ⟨he, hj⟩ => ⟨he, .inl ⟨_, rfl, hj⟩⟩
  · by_cases hz : zs.length = 0
    · have hL0 : L = [] := List.eq_nil_of_length_eq_zero (by omega)
      subst hL0
      rw [hz] at hc'
      exact (back0_in F n h7 hro l Bs cap _ (J []) W hc' h0).mono fun e W' ⟨he, hj⟩ => ⟨he, .inl ⟨_, rfl, hj⟩⟩
    · have hcs : ∀ j, j < zs.length → W.cell? ⟨g, o + j, none⟩ = some (.int .i64 (zs[j]?.getD 0)) := fun j hj => by
        refine (hW.cell (p := ⟨g, o + j, none⟩) hb.lt).trans (hb.cell ?_)
        have h1 : ((cur.drop o).take (zs.length * 1))[j]? = (zs.map (Value.int .i64))[j]? := by rw [hx]
        rw [List.getElem?_take, if_pos (by omega), List.getElem?_drop, List.getElem?_map, List.getElem?_eq_getElem hj] at h1
        rw [h1, List.getElem?_eq_getElem hj]
        rfl
      have hsz := hW.size
      have := back1_in F n h7 hro hn l Bs w.heap.size g o cap M zs L encs hL henc hreach ⟨hlt, hMB⟩ ⟨hb.lt, hMA g rfl⟩ J Jx hY W hc' hcs h0
      refine this.mono ?_
      rintro e W' ⟨he, ⟨ys, rfl, hj⟩ | ⟨pre, hp, hj⟩⟩
      · exact ⟨he, .inl ⟨_, rfl, hj⟩⟩
      · exact ⟨he, .inr ⟨_, hp, hj⟩⟩
end Go.Proofs.YtfikjheicjamhaaDoor
end
section
/- Contracts: bytes in fewer (layer 5): the match at a place. -/
set_option linter.unusedVariables false
set_option linter.unusedSimpArgs false
set_option maxRecDepth 20000
set_option maxHeartbeats 2000000
namespace Go.Proofs.YtfikjheicjamhaaDoor
open Go.Eng Go.Hx
/-- places from behind, each with its number -/
def backPos (zs : List Nat) (i : Nat) (h : ∀ z ∈ zs, z < i) : List {x : Nat × Nat // x.2 < i} := (zs.attach.zipIdx.map fun x => (⟨(x.2, x.1.1), h _ x.1.2⟩ : {x : Nat × Nat // x.2 < i})).reverse
theorem backPos_length (zs : List Nat) (i : Nat) (h : ∀ z ∈ zs, z < i) : (backPos zs i h).length = zs.length := by simp [backPos]
theorem backPos_map (zs : List Nat) (i : Nat) (h : ∀ z ∈ zs, z < i) : (backPos zs i h).map (fun x => x.1.2) = zs.reverse := by
  unfold backPos
  rw [List.map_reverse, List.map_map]
  congr 1
  apply List.ext_getElem
  · simp
  · intro j h1 h2
    simp
theorem backPos_get (zs : List Nat) (i : Nat) (h : ∀ z ∈ zs, z < i) (k : Nat) (x : {x : Nat × Nat // x.2 < i}) (hx : (backPos zs i h)[k]? = some x) : k < zs.length ∧ x.1.1 = zs.length - 1 - k ∧ zs[zs.length - 1 - k]? = some x.1.2 := by
  have hk : k < zs.length := by rw [← backPos_length zs i h]; exact (List.getElem?_eq_some_iff.1 hx).1
  unfold backPos at hx
  rw [List.getElem?_reverse (by simpa using hk)] at hx
  simp only [List.length_map, List.length_zipIdx, List.length_attach, List.getElem?_map, List.getElem?_zipIdx, Nat.zero_add] at hx
  have hlt : zs.length - 1 - k < zs.attach.length := by simp; omega
  rw [List.getElem?_eq_getElem hlt] at hx
  simp only [Option.map_some, Option.some.injEq] at hx
  subst hx
  refine ⟨hk, rfl, ?_⟩
  rw [List.getElem?_eq_getElem (by simpa using hlt)]
  simp
theorem foldl_backPos (f : Nat × Nat → Nat → Nat × Nat) (s : Nat × Nat) (i : Nat) (L : List {x : Nat × Nat // x.2 < i}) : L.foldl (fun s x => f s x.1.2) s = (L.map (fun x => x.1.2)).foldl f s := by rw [List.foldl_map]
theorem match_ends {l : List UInt8} {i : Nat} {zs : List Nat} (hz : zs = posL l i (key4 l i)) (hi : i + 4 ≤ l.length) (h : ∀ z ∈ zs, z < i) {s : Nat × Nat}
    (hs : s = (backPos zs i h).foldl (fun s x => pstep l i s x.1.2) (0, 0) ∨ ∃ pre x rest, backPos zs i h = pre ++ x :: rest ∧ s = pre.foldl (fun s x => pstep l i s x.1.2) (0, 0) ∧ 1024 < i - x.1.2) : s = matchL l i := by
  subst hz
  rcases hs with rfl | ⟨pre, x, rest, e, rfl, hb⟩
  · rw [foldl_backPos, backPos_map, match_eq hi]
  · have e2 := congrArg (List.map fun x => x.1.2) e
    rw [backPos_map, List.map_append, List.map_cons] at e2
    rw [foldl_backPos, ← match_eq hi]
    exact (match_brk e2 hb).symm
def nints (l : List Nat) : List Int := l.map fun n : Nat => (n : Int)
theorem nints_length (l : List Nat) : (nints l).length = l.length := List.length_map ..
theorem own_ints {w : World} {e : TypeId} {v : Value} {l : List Nat} (h : Go.Eng.Own w 0 e 1 v l.length (nts l)) : Go.Eng.Own w 0 e 1 v (nints l).length ((nints l).map (Value.int .i64)) := by
  rw [nints_length]
  unfold nints
  rw [List.map_map]
  exact h
theorem z_back {es : Fes} {j : Nat} {x : IRow} (h : (fress es)[j]? = some x.res) : (x.res :: (fress es).eraseIdx j).Perm (fress es) := by
  obtain ⟨h1, h2⟩ := List.getElem?_eq_some_iff.1 h
  have := eraseIdx_perm (fress es) j h1
  rwa [h2] at this
theorem backC {A : Option Addr} {n c : Nat} : Con Tryd.prog 175 [.slice A n c] [] [] (fun v_ X_ S_ => ∃ gB, v_ = (.func (.func 189) #[] #[.pointer (some ⟨gB, 0, none⟩)]) ∧ X_ = [RBlk gB 263 [.slice A n c]] ∧ S_ = []) := by
  refine henter (N := 4) Tryd.func175 rfl rfl (by simp) fun b => ?_
  refine hseq <| hreg <| ?_
  refine hx (xh_box rfl (fun g1 => ?_))
  refine hy (fun _ => y_assign rfl) <| hend <| hmemQ (X' := [_]) (S' := []) (fun _ m => m) <| hthen <| hseq <| hreg <| hy (fun _ => y_mkf rfl rfl) <| hy (fun _ => y_assign rfl) <| hend <| hsub (ρ' := [(2, _), (1, _), (0, _)]) ⟨rfl, rfl, rfl, trivial⟩ <| hthen <| hret <| ?_
  refine hmemQ (fun w m => m.eqX 0 rfl (show _ = RBlk g1 263 [.slice A n c] from rfl)) ?_
  exact hret1 trivial rfl rfl [0] rfl [] rfl ⟨_, rfl, rfl, rfl⟩
theorem overC {A : Option Addr} {n c : Nat} : Con Tryd.prog 156 [.slice A n c] [] [] (fun v_ X_ S_ => ∃ g gm, v_ = (.pointer (some ⟨g, 0, none⟩)) ∧ X_ = [RFnd g gm A n c 0 []] ∧ S_ = []) := by
  refine henter (N := 7) Tryd.func156 rfl rfl (by simp) fun b => ?_
  refine hseq <| hreg <| hy (fun _ => y_assign rfl) <| hend <| hthen <| hseq <| hreg <| hy (fun _ => y_move rfl) <| ?_
  refine hx (xh_mkmap (KN (n := 4)) (fun g4 => ?_))
  refine hy (fun _ => y_build ti259 rfl rfl (by kernel_rfl) (.cons (o := 0) (sz := 1) (by kernel_rfl) rfl rfl (Nat.le_of_ble_eq_true rfl) (.cons (o := 1) (sz := 1) (by kernel_rfl) rfl rfl (Nat.le_of_ble_eq_true rfl) .nil))) <| ?_
  refine hx (xh_box rfl (fun g6 => ?_))
  refine hy (fun _ => y_assign rfl) <| hend <| hsub (ρ' := [(2, _), (0, _)]) ⟨rfl, rfl, trivial⟩ <| hmemQ (X' := [_, _]) (S' := []) (fun _ m => m) <| hthen <| hret <| ?_
  refine hmemQ (fun w m => m.packNil) ?_
  refine hmemQ (fun w m => m.eqX 1 rfl (show _ = RBlk g6 259 [.slice A n c, .map (some g4), .int .i64 ((0 : Nat) : Int)] from rfl)) ?_
  refine hmemQ (X' := RFnd g6 g4 A n c 0 [] :: _) (fun w m => (m.perm (takeR_perm [0, 1, 0] _ [_, _, _] _ rfl)).pack) ?_
  exact hret1 trivial rfl rfl [0] rfl [] rfl ⟨_, _, rfl, rfl, rfl⟩
theorem enc_ok (zs : List Nat) (i : Nat) (h : ∀ z ∈ zs, z < i) (k : Nat) (x : {x : Nat × Nat // x.2 < i}) (hx : (backPos zs i h)[k]? = some x) : [Value.int .i64 (x.1.1 : Nat), .int .i64 (x.1.2 : Nat)] = [.int .i64 (((nints zs).length - 1 - k : Nat) : Int), .int .i64 ((nints zs)[(nints zs).length - 1 - k]?.getD 0)] := by
  obtain ⟨h1, h2, h3⟩ := backPos_get zs i h k x hx
  rw [nints_length]
  unfold nints
  rw [List.getElem?_map, h3, h2]
  rfl
theorem matchC {g gm : Nat} {A : Option Addr} {n c p i : Nat} {l : List UInt8} {es : Fes} (hc : n ≤ c) (hn : n ≤ 1000000000) (hl : l.length = n) (hpi : p ≤ i) (hi : i ≤ n) (hF : FOk l p es) : Con Tryd.prog 158 [.pointer (some ⟨g, 0, none⟩), .int .i64 (i : Nat)] [RFnd g gm A n c p es] [RRd 1 A n (b8s l)] (fun v_ X_ S_ => ∃ p1 es1, v_ = (.tuple #[.int .i64 ((matchL l i).1 : Nat), .int .i64 ((matchL l i).2 : Nat)]) ∧ X_ = [RFnd g gm A n c p1 es1] ∧ S_ = [] ∧ (p1 ≤ i ∧ FOk l p1 es1)) := by
  refine henterM (N := 60) Tryd.func158 rfl rfl (by simp) fun b => ?_
  refine hfactC (fun m => rdB (m.rd 0 rfl)) ?_
  rintro ⟨hl_r, hA_r⟩
  refine hmemC (fun w m => (m.perm (takeR_perm [0] _ [_] _ rfl)).unpack) ?_
  refine hseq <| hreg <| ?_
  refine hx (xh_box rfl (fun g2 => ?_))
  refine hx (xh_box rfl (fun g3 => ?_))
  refine hy (fun _ => y_assign rfl) <| hy (fun _ => y_assign rfl) <| hend <| hmemQ (X' := [_, _, _, _, _]) (S' := [_]) (fun _ m => m) <| hthen <| hseq <| hseq <| hdrw [] [(0, some 0), (1, some 0), (2, some 0), (3, some 0), (4, some 0), (5, some 0), (6, some 0), (7, some 0)] (by kernel_rfl) (by kernel_rfl) rfl 99 <| hty (fun m => y_ld1 rfl ag3 (ld_blk (m.blk 0 rfl) rfl)) <| htyU (y_add rfl rfl (w64 (by omega) (by omega))) <| hty (fun m => y_ld1 rfl ag238 (ld_blk (m.blk 1 rfl) rfl)) <| htyU (y_nilp rfl) <| htyU (y_fld rfl fa259_0 (by decide)) <| hty (fun m => y_ld1 rfl ag32 (ld_blk (m.blk 2 rfl) rfl)) <| htyU (y_lenS rfl Tryd.underlying32) <| htyU (y_gtr rfl rfl) <| htend <| hsub (ρ' := [(18, _), (5, _), (4, _), (3, _), (2, _), (0, _), (1, _)]) ⟨rfl, rfl, rfl, rfl, rfl, rfl, rfl, trivial⟩ <| hthen <| ?_
  refine hif rfl (fun h1 => ?_) (fun h1 => ?_)
  · have e := match_short (b := l) (i := i) (by omega) (by omega)
    rw [e]
    refine hseq <| hreg <| hy (fun _ => y_assign rfl) <| hy (fun _ => y_assign rfl) <| hend <| hthen <| hret <| hthen_ret <| ?_
    refine hmemQ (X' := RFnd g gm A n c p es :: _) (fun w m => (m.perm (takeR_perm [2, 2, 2] _ [_, _, _] _ rfl)).pack) ?_
    exact hretM2 trivial rfl rfl rfl [0] rfl [] rfl ⟨p, es, rfl, rfl, rfl, ⟨hpi, hF⟩⟩
  · have hi4 : i + 4 ≤ n := by omega
    refine hcskip <| hthen <| hseq <| ?_
    refine hmemC (X' := RFnd g gm A n c p es :: _) (fun w m => (m.perm (takeR_perm [2, 2, 2] _ [_, _, _] _ rfl)).pack) ?_
    refine hreg <| hy (fun m => y_ld1 rfl ag238 (ld_blk (m.blk 2 rfl) rfl)) <| hy (fun m => y_ld1 rfl ag3 (ld_blk (m.blk 1 rfl) rfl)) <| ?_
    refine hx (xh_call rfl Tryd.call174 (uptoC (by omega) (by omega) hl (by omega) (by omega) hF) [0] rfl [0] rfl ?_)
    rintro _ _ _ ⟨es1, rfl, rfl, rfl, hp⟩
    have hF1 := hp
    refine hend <| hsub (ρ' := [(18, _), (5, _), (4, _), (3, _), (2, _), (0, _), (1, _)]) ⟨rfl, rfl, rfl, rfl, rfl, rfl, rfl, trivial⟩ <| hmemQ (X' := [_, _, _]) (S' := [_]) (fun _ m => m) <| hthen <| hseq <| hreg <| ?_
    refine hx (xh_alloc ti3 (fun g6 => ?_))
    refine hx (xh_alloc ti3 (fun g7 => ?_))
    refine hx0 (xh_st1 1 rfl rfl rfl sz3 rfl (by first | exact Nat.le_of_ble_eq_true rfl | simp) ?_)
    refine hx0 (xh_st1 1 rfl rfl rfl sz3 rfl (by first | exact Nat.le_of_ble_eq_true rfl | simp) ?_)
    refine hend <| hmemQ (X' := [_, _, _, _, _]) (S' := [_]) (fun _ m => m) <| hthen <| hseq <| hseq <| ?_
    refine hmemC (fun w m => (m.perm (takeR_perm [2] _ [_] _ rfl)).unpack) ?_
    refine hfactC (fun m => (m.rd 0 rfl).some (by omega)) fun h_ => ?_
    obtain ⟨a, rfl⟩ : ∃ a_, A = some a_ := ⟨_, h_⟩
    clear h_
    rcases hq : aget es1 ⟨key4 l i, key4_length (by omega)⟩ with _ | x
    · have e0 := kept_none hF1 hq
      refine hdrw [15] [(0, some 1), (1, some 0), (2, some 0), (3, some 0), (4, some 1), (5, some 1), (6, some 1), (7, some 1), (8, some 1), (9, some 1), (10, some 1), (11, some 0), (12, some 0), (13, some 0), (14, some 0), (15, none)] (by kernel_rfl) (by kernel_rfl) rfl 99 <| hty (fun m => y_ld1 rfl ag238 (ld_blk (m.blk 6 rfl) rfl)) <| htyU (y_nilp rfl) <| htyU (y_fld rfl fa259_1 (by decide)) <| hty (fun m => y_ld1 rfl ag257 (ld_blk (m.blk 0 rfl) rfl)) <| hty (fun m => y_ld1 rfl ag238 (ld_blk (m.blk 6 rfl) rfl)) <| htyU (y_nilp rfl) <| htyU (y_fld rfl fa259_0 (by decide)) <| hty (fun m => y_ld1 rfl ag32 (ld_blk (m.blk 0 rfl) rfl)) <| hty (fun m => y_ld1 rfl ag3 (ld_blk (m.blk 5 rfl) rfl)) <| hty (fun m => y_ld1 rfl ag3 (ld_blk (m.blk 5 rfl) rfl)) <| htyU (y_add rfl rfl (w64 (by omega) (by omega))) <| htyU (yV (y_slBoth rfl rfl rfl Tryd.underlying32 sz5 rfl (show ((i + 4 : Nat) : Int) = _ by omega) (by omega) (by omega)) ((show Value.slice (if c = i then some a else (some a).map (·.add (i * 1))) (i + 4 - i) (c - i) = .slice (some (a.add i)) 4 (c - i) by rw [if_neg (by omega), Nat.mul_one, Nat.add_sub_cancel_left]; rfl))) <| htyU (y_arrAt rfl Tryd.underlying265 (by omega)) <| hty (fun m => yV (y_ldN rfl ag265 sz265 (by rw [b8s_length]; exact key4_length (by omega)) (Rd.part (m.rd 0 rfl))) ((show Value.agg (b8s ((l.drop i).take 4)).toArray = KN ⟨key4 l i, key4_length (by omega)⟩ from rfl))) <| hty (fun m => yV (y_lookM (enc := (KN (n := 4))) (k := ⟨key4 l i, key4_length (by omega)⟩) rfl rfl Tryd.underlying257 ti263 (bnKey Tryd.underlying265 Tryd.underlying5 (by kernel_rfl) (by kernel_rfl) (by kernel_rfl)) (m.mapX 1 rfl)) ((show lookVal false (.slice none 0 0) (aget (fvals es1) ⟨key4 l i, key4_length (by omega)⟩) = .slice none 0 0 by rw [fvals_get, hq]; rfl))) <| ?_
      refine htx (xh_call rfl Tryd.call175 (backC) [] rfl [] rfl ?_)
      rintro _ _ _ ⟨gB, rfl, rfl, rfl⟩
      refine ⟨(fun _ => wk [1, 1, 1, 1, 1, 1, 1] [0] rfl rfl), ?_⟩
      refine htend <| hsub (ρ' := [(37, _), (7, _), (6, _), (18, _), (5, _), (4, _), (3, _), (2, _), (0, _), (1, _)]) ⟨rfl, rfl, rfl, rfl, rfl, rfl, rfl, rfl, rfl, rfl, trivial⟩ <| hmemQ (X' := [_, _, _, _, _, _, _, _]) (S' := [_]) (fun _ m => m) <| hthen <| ?_
      have hlt : ∀ z ∈ ([] : List Nat), z < i := fun z hz => by cases hz
      refine hrange (σ := Nat × Nat) (α := {x : Nat × Nat // x.2 < i}) (ρ' := []) (fun s_ : Nat × Nat => [RBlk g6 3 [.int .i64 (s_.1 : Nat)], RBlk g7 3 [.int .i64 (s_.2 : Nat)], RBlk g3 3 [.int .i64 (i : Nat)], RBlk g2 238 [.pointer (some ⟨g, 0, none⟩)], RBlk g 259 [.slice (some a) n c, .map (some gm), .int .i64 (i : Nat)]]) (0, 0) (fun s_ x_ => pstep l i s_ x_.1.2) (fun s_ x_ => 1024 < i - x_.1.2) (fun x_ => [.int .i64 (x_.1.1 : Nat), .int .i64 (x_.1.2 : Nat)]) (backPos (([] : List Nat)) i hlt) (fun x_ => [(9, .int .i64 (x_.1.2 : Nat))]) [(37, _), (7, _), (6, _), (18, _), (5, _), (4, _), (3, _), (2, _), (0, _), (1, _)] ⟨rfl, rfl, rfl, rfl, rfl, rfl, rfl, rfl, rfl, rfl, trivial⟩ rfl Tryd.call189 [5, 4, 4, 4, 1] rfl (fun s_ k_ => by simp [feet, RBlk]) [0] rfl (fun w m => back_stops Fence.wide 2 trivial rfl (by decide) (zs := nints (([] : List Nat))) (e := 3) (backPos (([] : List Nat)) i hlt) (fun x_ => [.int .i64 (x_.1.1 : Nat), .int .i64 (x_.1.2 : Nat)]) (by rw [backPos_length, nints_length]) (enc_ok _ _ _) (by rw [nints_length]; first | omega | simp) (ld_blk (m.blk 0 rfl) rfl) (m.off (is := [5, 4, 4, 4, 1]) rfl 0 rfl rfl) (Go.Eng.Own.nil _ _ _ _) (fun k hk => hk.elim)) (fun _ => rfl) (by decide) (fun _ _ ha_ => ag_nd2 rfl (by decide) (by decide) ha_) (fun l_ b_ s_ x_ Q_ h_ => ?_) (fun l_ b s_ x_ => ?_) (fun Dk_ s_ hs_ => ?_)
      · exact hregR (hy (fun _ => y_assign rfl) ((hend (by refine hsub ?_ h_; exact ⟨rfl, rfl, rfl, rfl, rfl, rfl, rfl, rfl, rfl, rfl, rfl, trivial⟩))))
      · obtain ⟨u1, u2⟩ := s_
        obtain ⟨⟨j, q⟩, hq2⟩ := x_
        try dsimp only
        have hq2 : q < i := hq2
        refine hblockR <| hseqR <| hseqR <| hregR <| hy (fun m => y_ld1 rfl ag3 (ld_blk (m.blk 2 rfl) rfl)) <| hy (fun _ => y_move rfl) <| hy (fun _ => y_sub rfl rfl (w64 (by omega) (by omega))) <| hy (fun _ => y_gtr rfl rfl) <| hend <| hsub (ρ' := [(43, _), (9, _), (37, _), (7, _), (6, _), (18, _), (5, _), (4, _), (3, _), (2, _), (0, _), (1, _)]) ⟨rfl, rfl, rfl, rfl, rfl, rfl, rfl, rfl, rfl, rfl, rfl, rfl, trivial⟩ <| hthenR <| ?_
        refine hifR rfl (fun hb => ?_) (fun hb => ?_)
        · refine hexitR <| hthen_exit <| hqblock_exit' (by decide) <| ?_
          exact hrq_break [0, 0, 0, 0, 0] rfl [0] rfl ((show 1024 < i - q by omega))
        · refine hcskipR <| hthenR <| hseqR <| hdrwR [6] [(0, some 0), (1, some 0), (2, some 0), (3, some 0), (4, some 0), (5, some 0), (6, none), (7, some 1)] (by kernel_rfl) (by kernel_rfl) rfl 99 <| hty (fun m => y_ld1 rfl ag238 (ld_blk (m.blk 3 rfl) rfl)) <| htyU (y_nilp rfl) <| htyU (y_fld rfl fa259_0 (by decide)) <| hty (fun m => y_ld1 rfl ag32 (ld_blk (m.blk 4 rfl) rfl)) <| hty (fun m => y_ld1 rfl ag3 (ld_blk (m.blk 2 rfl) rfl)) <| htyU (y_move rfl) <| ?_
          refine htx (xh_call rfl Tryd.call176 (longC (by omega) hl (by omega) (by omega)) [] rfl [0] rfl ?_)
          rintro _ _ _ ⟨rfl, rfl, rfl⟩
          refine ⟨(fun _ => wk [0, 0, 0, 0, 0] [0] rfl rfl), ?_⟩
          refine htyU (y_assign rfl) <| htend <| hsub (ρ' := [(10, _), (43, _), (9, _), (37, _), (7, _), (6, _), (18, _), (5, _), (4, _), (3, _), (2, _), (0, _), (1, _)]) ⟨rfl, rfl, rfl, rfl, rfl, rfl, rfl, rfl, rfl, rfl, rfl, rfl, rfl, trivial⟩ <| hmemQ (X' := [_, _, _, _, _]) (S' := [_]) (fun _ m => m) <| hthenR <| hseqR <| hregR <| hy (fun _ => y_move rfl) <| hy (fun m => y_ld1 rfl ag3 (ld_blk (m.blk 0 rfl) rfl)) <| hy (fun _ => y_gtr rfl rfl) <| hend <| hsub (ρ' := [(53, _), (10, _), (43, _), (9, _), (37, _), (7, _), (6, _), (18, _), (5, _), (4, _), (3, _), (2, _), (0, _), (1, _)]) ⟨rfl, rfl, rfl, rfl, rfl, rfl, rfl, rfl, rfl, rfl, rfl, rfl, rfl, rfl, trivial⟩ <| hthenR <| ?_
          refine hifR rfl (fun hx1 => ?_) (fun hx1 => ?_)
          · refine hdrwBR [2, 2, 2] [0] rfl rfl [4, 5] [(0, some 0), (1, some 1), (2, some 1), (3, some 1), (4, none), (5, none)] (by kernel_rfl) (by kernel_rfl) rfl 99 <| htyU (y_move rfl) <| hty (fun m => y_ld1 rfl ag3 (ld_blk (m.blk 0 rfl) rfl)) <| htyU (y_move rfl) <| htyU (yV (y_sub rfl rfl (w64 (by omega) (by omega))) ((show Value.int .i64 ((i : Int) - (q : Int)) = .int .i64 ((i - q : Nat) : Int) by congr 1; omega))) <| ?_
            refine htx0 (xh_st1 0 rfl rfl rfl sz3 rfl (by first | exact Nat.le_of_ble_eq_true rfl | simp) ⟨(fun _ => wk [2, 2, 2] [0] rfl rfl), ?_⟩)
            refine htx0 (xh_st1 1 rfl rfl rfl sz3 rfl (by first | exact Nat.le_of_ble_eq_true rfl | simp) ⟨(fun _ => wk [2, 2, 2] [0] rfl rfl), ?_⟩)
            refine htend <| hsub (ρ' := [(53, _), (10, _), (43, _), (9, _), (37, _), (7, _), (6, _), (18, _), (5, _), (4, _), (3, _), (2, _), (0, _), (1, _)]) ⟨rfl, rfl, rfl, rfl, rfl, rfl, rfl, rfl, rfl, rfl, rfl, rfl, rfl, rfl, trivial⟩ <| hmemQ (X' := [_, _, _, _, _]) (S' := [_]) (fun _ m => m) <| hqblock <| ?_
            exact hrq_nextE (lng l i q, i - q) (by show pstep l i (u1, u2) q = _; unfold pstep; rw [if_neg (by omega), if_pos (by show u1 < _; omega)]) [1, 0, 0, 0, 0] rfl [0] rfl
          · refine hcskipR <| hqblock <| ?_
            exact hrq_nextE (u1, u2) (by show pstep l i (u1, u2) q = _; unfold pstep; rw [if_neg (by omega), if_neg (by show ¬ u1 < _; omega)]) [0, 0, 0, 0, 0] rfl [0] rfl
      · obtain ⟨u1, u2⟩ := s_
        have hend := match_ends e0.symm (by omega) hlt hs_
        have hu1 : u1 = (matchL l i).1 := congrArg Prod.fst hend
        have hu2 : u2 = (matchL l i).2 := congrArg Prod.snd hend
        refine hthen <| hseq <| hdrw [] [(0, some 0), (1, some 0), (2, some 0), (3, some 0)] (by kernel_rfl) (by kernel_rfl) rfl 99 <| hty (fun m => y_ld1 rfl ag3 (ld_blk (m.blk 1 rfl) rfl)) <| hty (fun m => y_ld1 rfl ag3 (ld_blk (m.blk 2 rfl) rfl)) <| htyU (y_assign rfl) <| htyU (y_assign rfl) <| htend <| hsub (ρ' := [(5, _), (4, _), (37, _), (7, _), (6, _), (18, _), (3, _), (2, _), (0, _), (1, _)]) ⟨rfl, rfl, rfl, rfl, rfl, rfl, rfl, rfl, rfl, rfl, trivial⟩ <| hthen <| hret <| ?_
        refine hcol trivial [0] rfl ?_
        skip
        refine hmemQ (X' := RFnd g gm (some a) n c i es1 :: _) (fun w m => (m.perm (takeR_perm [4, 5, 5] _ [_, _, _] _ rfl)).pack) ?_
        exact hretM2 trivial rfl rfl rfl [0] rfl [] rfl ⟨i, es1, (by rw [← hu1, ← hu2]), rfl, rfl, ⟨Nat.le_refl _, hF1⟩⟩
    · have e0 := kept_pos hF1 hq
      refine hdrw [15] [(0, some 1), (1, some 0), (2, some 0), (3, some 0), (4, some 1), (5, some 1), (6, some 1), (7, some 1), (8, some 1), (9, some 1), (10, some 1), (11, some 0), (12, some 0), (13, some 0), (14, some 0), (15, none)] (by kernel_rfl) (by kernel_rfl) rfl 99 <| hty (fun m => y_ld1 rfl ag238 (ld_blk (m.blk 6 rfl) rfl)) <| htyU (y_nilp rfl) <| htyU (y_fld rfl fa259_1 (by decide)) <| hty (fun m => y_ld1 rfl ag257 (ld_blk (m.blk 0 rfl) rfl)) <| hty (fun m => y_ld1 rfl ag238 (ld_blk (m.blk 6 rfl) rfl)) <| htyU (y_nilp rfl) <| htyU (y_fld rfl fa259_0 (by decide)) <| hty (fun m => y_ld1 rfl ag32 (ld_blk (m.blk 0 rfl) rfl)) <| hty (fun m => y_ld1 rfl ag3 (ld_blk (m.blk 5 rfl) rfl)) <| hty (fun m => y_ld1 rfl ag3 (ld_blk (m.blk 5 rfl) rfl)) <| htyU (y_add rfl rfl (w64 (by omega) (by omega))) <| htyU (yV (y_slBoth rfl rfl rfl Tryd.underlying32 sz5 rfl (show ((i + 4 : Nat) : Int) = _ by omega) (by omega) (by omega)) ((show Value.slice (if c = i then some a else (some a).map (·.add (i * 1))) (i + 4 - i) (c - i) = .slice (some (a.add i)) 4 (c - i) by rw [if_neg (by omega), Nat.mul_one, Nat.add_sub_cancel_left]; rfl))) <| htyU (y_arrAt rfl Tryd.underlying265 (by omega)) <| hty (fun m => yV (y_ldN rfl ag265 sz265 (by rw [b8s_length]; exact key4_length (by omega)) (Rd.part (m.rd 0 rfl))) ((show Value.agg (b8s ((l.drop i).take 4)).toArray = KN ⟨key4 l i, key4_length (by omega)⟩ from rfl))) <| hty (fun m => yV (y_lookM (enc := (KN (n := 4))) (k := ⟨key4 l i, key4_length (by omega)⟩) rfl rfl Tryd.underlying257 ti263 (bnKey Tryd.underlying265 Tryd.underlying5 (by kernel_rfl) (by kernel_rfl) (by kernel_rfl)) (m.mapX 1 rfl)) ((show lookVal false (.slice none 0 0) (aget (fvals es1) ⟨key4 l i, key4_length (by omega)⟩) = .slice x.A x.l.length x.c by rw [fvals_get, hq]; rfl))) <| ?_
      refine htx (xh_call rfl Tryd.call175 (backC) [] rfl [] rfl ?_)
      rintro _ _ _ ⟨gB, rfl, rfl, rfl⟩
      refine ⟨(fun _ => wk [1, 1, 1, 1, 1, 1, 1] [0] rfl rfl), ?_⟩
      refine htend <| hsub (ρ' := [(37, _), (7, _), (6, _), (18, _), (5, _), (4, _), (3, _), (2, _), (0, _), (1, _)]) ⟨rfl, rfl, rfl, rfl, rfl, rfl, rfl, rfl, rfl, rfl, trivial⟩ <| hmemQ (X' := [_, _, _, _, _, _, _, _]) (S' := [_]) (fun _ m => m) <| hthen <| ?_
      have hlt : ∀ z ∈ x.l, z < i := fun z hz => (posL_lt (e0 ▸ hz)).1
      have hxl : x.l.length ≤ n := by rw [e0]; exact Nat.le_trans (posL_length _ _ _) (by omega)
      obtain ⟨j, hj1, _⟩ := put_present hq
      refine hmemC (X' := ROwn 3 1 (.slice x.A x.l.length x.c) x.l.length (nts x.l) :: _) (fun w m => (m.perm (takeR_perm [3] _ [_] _ rfl)).packTake j hj1) ?_
      refine hrange (σ := Nat × Nat) (α := {x : Nat × Nat // x.2 < i}) (ρ' := []) (fun s_ : Nat × Nat => [RBlk g6 3 [.int .i64 (s_.1 : Nat)], RBlk g7 3 [.int .i64 (s_.2 : Nat)], RBlk g3 3 [.int .i64 (i : Nat)], RBlk g2 238 [.pointer (some ⟨g, 0, none⟩)], RBlk g 259 [.slice (some a) n c, .map (some gm), .int .i64 (i : Nat)]]) (0, 0) (fun s_ x_ => pstep l i s_ x_.1.2) (fun s_ x_ => 1024 < i - x_.1.2) (fun x_ => [.int .i64 (x_.1.1 : Nat), .int .i64 (x_.1.2 : Nat)]) (backPos (x.l) i hlt) (fun x_ => [(9, .int .i64 (x_.1.2 : Nat))]) [(37, _), (7, _), (6, _), (18, _), (5, _), (4, _), (3, _), (2, _), (0, _), (1, _)] ⟨rfl, rfl, rfl, rfl, rfl, rfl, rfl, rfl, rfl, rfl, trivial⟩ rfl Tryd.call189 [6, 5, 5, 5, 3] rfl (fun s_ k_ => by simp [feet, RBlk]) [0] rfl (fun w m => back_stops Fence.wide 2 trivial rfl (by decide) (zs := nints (x.l)) (e := 3) (backPos (x.l) i hlt) (fun x_ => [.int .i64 (x_.1.1 : Nat), .int .i64 (x_.1.2 : Nat)]) (by rw [backPos_length, nints_length]) (enc_ok _ _ _) (by rw [nints_length]; first | omega | simp) (ld_blk (m.blk 2 rfl) rfl) (m.off (is := [6, 5, 5, 5, 3]) rfl 2 rfl rfl) (own_ints (m.own 0 rfl)) (fun k hk => m.off (is := [6, 5, 5, 5, 3]) rfl 0 rfl hk)) (fun _ => rfl) (by decide) (fun _ _ ha_ => ag_nd2 rfl (by decide) (by decide) ha_) (fun l_ b_ s_ x_ Q_ h_ => ?_) (fun l_ b s_ x_ => ?_) (fun Dk_ s_ hs_ => ?_)
      · exact hregR (hy (fun _ => y_assign rfl) ((hend (by refine hsub ?_ h_; exact ⟨rfl, rfl, rfl, rfl, rfl, rfl, rfl, rfl, rfl, rfl, rfl, trivial⟩))))
      · obtain ⟨u1, u2⟩ := s_
        obtain ⟨⟨j, q⟩, hq2⟩ := x_
        try dsimp only
        have hq2 : q < i := hq2
        refine hblockR <| hseqR <| hseqR <| hregR <| hy (fun m => y_ld1 rfl ag3 (ld_blk (m.blk 2 rfl) rfl)) <| hy (fun _ => y_move rfl) <| hy (fun _ => y_sub rfl rfl (w64 (by omega) (by omega))) <| hy (fun _ => y_gtr rfl rfl) <| hend <| hsub (ρ' := [(43, _), (9, _), (37, _), (7, _), (6, _), (18, _), (5, _), (4, _), (3, _), (2, _), (0, _), (1, _)]) ⟨rfl, rfl, rfl, rfl, rfl, rfl, rfl, rfl, rfl, rfl, rfl, rfl, trivial⟩ <| hthenR <| ?_
        refine hifR rfl (fun hb => ?_) (fun hb => ?_)
        · refine hexitR <| hthen_exit <| hqblock_exit' (by decide) <| ?_
          exact hrq_break [0, 0, 0, 0, 0] rfl [0] rfl ((show 1024 < i - q by omega))
        · refine hcskipR <| hthenR <| hseqR <| hdrwR [6] [(0, some 0), (1, some 0), (2, some 0), (3, some 0), (4, some 0), (5, some 0), (6, none), (7, some 1)] (by kernel_rfl) (by kernel_rfl) rfl 99 <| hty (fun m => y_ld1 rfl ag238 (ld_blk (m.blk 3 rfl) rfl)) <| htyU (y_nilp rfl) <| htyU (y_fld rfl fa259_0 (by decide)) <| hty (fun m => y_ld1 rfl ag32 (ld_blk (m.blk 4 rfl) rfl)) <| hty (fun m => y_ld1 rfl ag3 (ld_blk (m.blk 2 rfl) rfl)) <| htyU (y_move rfl) <| ?_
          refine htx (xh_call rfl Tryd.call176 (longC (by omega) hl (by omega) (by omega)) [] rfl [0] rfl ?_)
          rintro _ _ _ ⟨rfl, rfl, rfl⟩
          refine ⟨(fun _ => wk [0, 0, 0, 0, 0] [0] rfl rfl), ?_⟩
          refine htyU (y_assign rfl) <| htend <| hsub (ρ' := [(10, _), (43, _), (9, _), (37, _), (7, _), (6, _), (18, _), (5, _), (4, _), (3, _), (2, _), (0, _), (1, _)]) ⟨rfl, rfl, rfl, rfl, rfl, rfl, rfl, rfl, rfl, rfl, rfl, rfl, rfl, trivial⟩ <| hmemQ (X' := [_, _, _, _, _]) (S' := [_]) (fun _ m => m) <| hthenR <| hseqR <| hregR <| hy (fun _ => y_move rfl) <| hy (fun m => y_ld1 rfl ag3 (ld_blk (m.blk 0 rfl) rfl)) <| hy (fun _ => y_gtr rfl rfl) <| hend <| hsub (ρ' := [(53, _), (10, _), (43, _), (9, _), (37, _), (7, _), (6, _), (18, _), (5, _), (4, _), (3, _), (2, _), (0, _), (1, _)]) ⟨rfl, rfl, rfl, rfl, rfl, rfl, rfl, rfl, rfl, rfl, rfl, rfl, rfl, rfl, trivial⟩ <| hthenR <| ?_
          refine hifR rfl (fun hx1 => ?_) (fun hx1 => ?_)
          · refine hdrwBR [2, 2, 2] [0] rfl rfl [4, 5] [(0, some 0), (1, some 1), (2, some 1), (3, some 1), (4, none), (5, none)] (by kernel_rfl) (by kernel_rfl) rfl 99 <| htyU (y_move rfl) <| hty (fun m => y_ld1 rfl ag3 (ld_blk (m.blk 0 rfl) rfl)) <| htyU (y_move rfl) <| htyU (yV (y_sub rfl rfl (w64 (by omega) (by omega))) ((show Value.int .i64 ((i : Int) - (q : Int)) = .int .i64 ((i - q : Nat) : Int) by congr 1; omega))) <| ?_
            refine htx0 (xh_st1 0 rfl rfl rfl sz3 rfl (by first | exact Nat.le_of_ble_eq_true rfl | simp) ⟨(fun _ => wk [2, 2, 2] [0] rfl rfl), ?_⟩)
            refine htx0 (xh_st1 1 rfl rfl rfl sz3 rfl (by first | exact Nat.le_of_ble_eq_true rfl | simp) ⟨(fun _ => wk [2, 2, 2] [0] rfl rfl), ?_⟩)
            refine htend <| hsub (ρ' := [(53, _), (10, _), (43, _), (9, _), (37, _), (7, _), (6, _), (18, _), (5, _), (4, _), (3, _), (2, _), (0, _), (1, _)]) ⟨rfl, rfl, rfl, rfl, rfl, rfl, rfl, rfl, rfl, rfl, rfl, rfl, rfl, rfl, trivial⟩ <| hmemQ (X' := [_, _, _, _, _]) (S' := [_]) (fun _ m => m) <| hqblock <| ?_
            exact hrq_nextE (lng l i q, i - q) (by show pstep l i (u1, u2) q = _; unfold pstep; rw [if_neg (by omega), if_pos (by show u1 < _; omega)]) [1, 0, 0, 0, 0] rfl [0] rfl
          · refine hcskipR <| hqblock <| ?_
            exact hrq_nextE (u1, u2) (by show pstep l i (u1, u2) q = _; unfold pstep; rw [if_neg (by omega), if_neg (by show ¬ u1 < _; omega)]) [0, 0, 0, 0, 0] rfl [0] rfl
      · obtain ⟨u1, u2⟩ := s_
        have hend := match_ends e0 (by omega) hlt hs_
        have hu1 : u1 = (matchL l i).1 := congrArg Prod.fst hend
        have hu2 : u2 = (matchL l i).2 := congrArg Prod.snd hend
        refine hthen <| hseq <| hdrw [] [(0, some 0), (1, some 0), (2, some 0), (3, some 0)] (by kernel_rfl) (by kernel_rfl) rfl 99 <| hty (fun m => y_ld1 rfl ag3 (ld_blk (m.blk 1 rfl) rfl)) <| hty (fun m => y_ld1 rfl ag3 (ld_blk (m.blk 2 rfl) rfl)) <| htyU (y_assign rfl) <| htyU (y_assign rfl) <| htend <| hsub (ρ' := [(5, _), (4, _), (37, _), (7, _), (6, _), (18, _), (3, _), (2, _), (0, _), (1, _)]) ⟨rfl, rfl, rfl, rfl, rfl, rfl, rfl, rfl, rfl, rfl, trivial⟩ <| hthen <| hret <| ?_
        refine hcol trivial [0] rfl ?_
        refine hmemQ (X' := RPack (fress es1) :: _) (fun w m => (Mem.packPut (m.perm (takeR_perm [5, 5] _ [_, _] _ rfl))).packPerm (z_back hj1)) ?_
        refine hmemQ (X' := RFnd g gm (some a) n c i es1 :: _) (fun w m => (m.perm (takeR_perm [5, 6, 0] _ [_, _, _] _ rfl)).pack) ?_
        exact hretM2 trivial rfl rfl rfl [0] rfl [] rfl ⟨i, es1, (by rw [← hu1, ← hu2]), rfl, rfl, ⟨Nat.le_refl _, hF1⟩⟩
end Go.Proofs.YtfikjheicjamhaaDoor
end
section
/- Scopes in which the run jumps back to one label, in the engine over things in memory (printed by scopegen.py). No statement is proved here. -/
set_option linter.unusedVariables false
set_option linter.unusedSimpArgs false
set_option linter.unusedSectionVars false
namespace Go.Eng
open Go.RowKit
theorem wp_scope_rel {P : Program} {Q : Exit → Act → World → Prop} {ι : Type} {c rest : Code} (l : Nat) (J : ι → Act → World → Prop) (μ : ι → Nat) (hf : findLabel c l = some rest) {a : Act} {w : World}
    (first : c.wp P (Exit.jump l (fun a w => ∃ j, J j a w) Q) a w)
    (pass : ∀ i a w, J i a w → rest.wp P (Exit.jump l (fun a' w' => ∃ j, J j a' w' ∧ μ j < μ i) Q) a w) : (Code.scope c).wp P Q a w := by
  intro b k cs
  have hg : gotoIn l (.inScope c :: k) = some (.code rest :: .inScope c :: k) := by simp [gotoIn, hf]
  have key : ∀ n i a w, μ i = n → J i a w → ∃ e a' w', Q e a' w' ∧ Arrives P (lone (b.at a (.code rest :: .inScope c :: k)) cs w) b k cs e a' w' := by
    intro n
    induction n using Nat.strongRecOn with
    | _ n ih =>
      intro i a w hn hJ
      obtain ⟨e, a₁, w₁, hq, harr⟩ := pass i a w hJ b (.inScope c :: k) cs
      cases e with
      | normal => exact ⟨.normal, a₁, w₁, hq, Steps.trans harr (.one step_inScope)⟩
      | exit id => exact ⟨.exit id, a₁, w₁, hq, fun k' hk => harr k' (by simp [exitTo, hk])⟩
      | goto l' =>
        obtain ⟨rfl, j, hJ', hlt⟩ := hq
        obtain ⟨e₂, a₂, w₂, hq₂, harr₂⟩ := ih _ (by omega) j a₁ w₁ rfl hJ'
        exact ⟨e₂, a₂, w₂, hq₂, .of_steps (harr _ hg) harr₂⟩
      | ret => exact ⟨_, a₁, w₁, hq, harr⟩
      | panic ch => exact ⟨_, a₁, w₁, hq, harr⟩
      | outgrown => exact ⟨_, a₁, w₁, hq, harr⟩
  obtain ⟨e, a₁, w₁, hq, harr⟩ := first b (.inScope c :: k) cs
  cases e with
  | normal => exact ⟨.normal, a₁, w₁, hq, .head step_scope (Steps.trans harr (.one step_inScope))⟩
  | exit id => exact ⟨.exit id, a₁, w₁, hq, fun k' hk => .head step_scope (harr k' (by simp [exitTo, hk]))⟩
  | goto l' =>
    obtain ⟨rfl, j, hJ'⟩ := hq
    obtain ⟨e₂, a₂, w₂, hq₂, harr₂⟩ := key _ j a₁ w₁ rfl hJ'
    exact ⟨e₂, a₂, w₂, hq₂, .of_steps (.head step_scope (harr _ hg)) harr₂⟩
  | ret => exact ⟨_, a₁, w₁, hq, .of_steps (.one step_scope) harr⟩
  | panic ch => exact ⟨_, a₁, w₁, hq, .of_steps (.one step_scope) harr⟩
  | outgrown => exact ⟨_, a₁, w₁, hq, .of_steps (.one step_scope) harr⟩
section
variable {P : Program} {Q : Exit → Act → World → Prop} {N : Nat} {D : List Deferred} {ρ : Env} {b : Base} {X S : List Res} {c : Code}
theorem hscope {ι : Type} {l : Nat} {rest : Code} (μ : ι → Nat) (R : ι → Env) (X1 S1 : ι → List Res) (I : ι → Prop) (ρk : Env) (Xr Sr : List Res) (hf : findLabel c l = some rest)
    (first : HC P (Exit.jump l (fun a' w' => ∃ j, Ag N D (R j ++ ρk) a' ∧ Mem b (X1 j ++ Xr) (S1 j ++ Sr) w' ∧ I j) Q) N D c ρ b X S)
    (pass : ∀ i, I i → HC P (Exit.jump l (fun a' w' => ∃ j, Ag N D (R j ++ ρk) a' ∧ Mem b (X1 j ++ Xr) (S1 j ++ Sr) w' ∧ I j ∧ μ j < μ i) Q) N D rest (R i ++ ρk) b (X1 i ++ Xr) (S1 i ++ Sr)) : HC P Q N D (.scope c) ρ b X S := fun w m a ha =>
  wp_scope_rel l (fun j a' w' => Ag N D (R j ++ ρk) a' ∧ Mem b (X1 j ++ Xr) (S1 j ++ Sr) w' ∧ I j) μ hf (first w m a ha)
    (fun i a' w' h => Code.wp_mono (fun e a' w' q => by
      cases e <;> first | exact q | (obtain ⟨h0, j, h1, h2, h3, h4⟩ := q; exact ⟨h0, j, ⟨h1, h2, h3⟩, h4⟩)) (pass i h.2.2 w' h.2.1 a' h.1))
theorem hcgoto {l : Nat} (h : HQ Q N D (.goto l) ρ b X S) : HC P Q N D (.goto l) ρ b X S := fun w m a ha => wp_goto (h w m a ha)
theorem hthen_goto {K : Act → World → Prop} {l : Nat} (h : HQ Q N D (.goto l) ρ b X S) : HQ (Exit.then K Q) N D (.goto l) ρ b X S := h
theorem hjump_ret {l : Nat} {J : Act → World → Prop} (h : HQ Q N D .ret ρ b X S) : HQ (Exit.jump l J Q) N D .ret ρ b X S := h
theorem hfallH {l : Nat} {J : Act → World → Prop} {r : Code} (h : HQ (Exit.jump l J Q) N D (.goto l) ρ b X S) (k : ∀ a w, J a w → r.wp P (Exit.jump l J Q) a w) : HC P (Exit.jump l J Q) N D (.seq (.label l) r) ρ b X S := fun w m a ha => wp_seq (wp_label (k a w (h w m a ha).2))
theorem hscope1 {α : Type} {l : Nat} {rest : Code} (μ : α → Nat) (R : α → Env) (X1 S1 : α → List Res) (I : α → Prop) (ρk : Env) (Xr Sr : List Res) (hf : findLabel c l = some rest)
    (first : HC P (Exit.jump l (fun a' w' => ∃ x, Ag N D (R x ++ ρk) a' ∧ Mem b (X1 x ++ Xr) (S1 x ++ Sr) w' ∧ I x) Q) N D c ρ b X S)
    (pass : ∀ a, I a → HC P (Exit.jump l (fun a' w' => ∃ x, Ag N D (R x ++ ρk) a' ∧ Mem b (X1 x ++ Xr) (S1 x ++ Sr) w' ∧ I x ∧ μ x < μ a) Q) N D rest (R a ++ ρk) b (X1 a ++ Xr) (S1 a ++ Sr)) : HC P Q N D (.scope c) ρ b X S :=
  hscope (ι := α) (fun i => μ i) (fun i => R i) (fun i => X1 i) (fun i => S1 i) (fun i => I i) ρk Xr Sr hf
    (fun w m a ha => Code.wp_mono (fun e a' w' q => by
      cases e <;> first | exact q | (obtain ⟨h0, x, h⟩ := q; exact ⟨h0, x, h⟩)) (first w m a ha))
    (fun i hi w m a ha => Code.wp_mono (fun e a' w' q => by
      cases e <;> first | exact q | (obtain ⟨h0, x, h⟩ := q; exact ⟨h0, x, h⟩)) (pass i hi w m a ha))
theorem hscopeF1 {α : Type} {l : Nat} {r : Code} (μ : α → Nat) (R : α → Env) (X1 S1 : α → List Res) (I : α → Prop) (ρk : Env) (hk : SubB ρk ρ) (is : List Nat) {Xt Xr : List Res} (hX : takeR is X = some (Xt, Xr)) (hf : findLabel c l = some (.seq .skip r))
    (pass : ∀ a, I a → HC P (Exit.jump l (fun a' w' => ∃ x, Ag N D (R x ++ ρk) a' ∧ Mem b (X1 x ++ Xr) (S1 x ++ S) w' ∧ I x ∧ μ x < μ a) Q) N D r (R a ++ ρk) b (X1 a ++ Xr) (S1 a ++ S))
    (first : (∀ a w, (∃ x, Ag N D (R x ++ ρk) a ∧ Mem b (X1 x ++ Xr) (S1 x ++ S) w ∧ I x) → r.wp P (Exit.jump l (fun a' w' => ∃ x, Ag N D (R x ++ ρk) a' ∧ Mem b (X1 x ++ Xr) (S1 x ++ S) w' ∧ I x) Q) a w) →
      HC P (Exit.jump l (fun a' w' => ∃ x, Ag N D (R x ++ ρk) a' ∧ Mem b (X1 x ++ Xr) (S1 x ++ S) w' ∧ I x) Q) N D c ρ b X S) : HC P Q N D (.scope c) ρ b X S :=
  hscope1 (l := l) (rest := .seq .skip r) μ R X1 S1 I ρk Xr S hf
    (first fun a w h => by
      obtain ⟨x, h1, h2, h3⟩ := h
      exact Code.wp_mono (fun e a' w' q => by
        cases e <;> first | exact q | (obtain ⟨h0, x_, g1, g2, g3, g4⟩ := q; exact ⟨h0, x_, g1, g2, g3⟩)) (pass x h3 w h2 a h1))
    (fun a h => fun w m a9 ha => wp_seq (wp_skip (pass a h w m a9 ha)))
theorem hgoto1 {α : Type} {l M : Nat} {μ : α → Nat} {R : α → Env} {X1 S1 : α → List Res} {Xr Sr : List Res} {ρ0 : Env} {I : α → Prop} (x : α) (hs : SubB (R x ++ ρ0) ρ) (is : List Nat) {Xz : List Res} (hX : takeR is X = some (X1 x ++ Xr, Xz)) (js : List Nat) (hS : getR js S = some (S1 x ++ Sr)) (hI : I x) (hlt : μ x < M) :
    HQ (Exit.jump l (fun a' w' => ∃ x, Ag N D (R x ++ ρ0) a' ∧ Mem b (X1 x ++ Xr) (S1 x ++ Sr) w' ∧ I x ∧ μ x < M) Q) N D (.goto l) ρ b X S :=
  fun w m a ha => ⟨rfl, x, ha.sub hs.sub, ((m.perm (takeR_perm _ _ _ _ hX)).dropX).subS (getR_sub _ _ _ hS), hI, hlt⟩
theorem hfall1 {α : Type} {l : Nat} {R : α → Env} {X1 S1 : α → List Res} {Xr Sr : List Res} {ρ0 : Env} {I : α → Prop} (x : α) (hs : SubB (R x ++ ρ0) ρ) (is : List Nat) {Xz : List Res} (hX : takeR is X = some (X1 x ++ Xr, Xz)) (js : List Nat) (hS : getR js S = some (S1 x ++ Sr)) (hI : I x) :
    HQ (Exit.jump l (fun a' w' => ∃ x, Ag N D (R x ++ ρ0) a' ∧ Mem b (X1 x ++ Xr) (S1 x ++ Sr) w' ∧ I x) Q) N D (.goto l) ρ b X S :=
  fun w m a ha => ⟨rfl, x, ha.sub hs.sub, ((m.perm (takeR_perm _ _ _ _ hX)).dropX).subS (getR_sub _ _ _ hS), hI⟩
end
end Go.Eng
end
section
/- Contracts: bytes in fewer (layer 5): packing. -/
set_option linter.unusedVariables false
set_option linter.unusedSimpArgs false
set_option maxRecDepth 20000
set_option maxHeartbeats 2000000
namespace Go.Proofs.YtfikjheicjamhaaDoor
open Go.Eng Go.Hx
theorem putC {g0 g1 : Nat} {A1 A2 : Option Addr} {c1 c2 : Nat} {own out : List UInt8} (hlen : out.length + 2 * own.length ≤ 4000000000) : Con Tryd.prog 157 [.pointer (some ⟨g0, 0, none⟩), .pointer (some ⟨g1, 0, none⟩)] [RBlk g0 32 [.slice A1 own.length c1], ROwn 5 1 (.slice A1 own.length c1) own.length (b8s own), RBlk g1 32 [.slice A2 out.length c2], ROwn 5 1 (.slice A2 out.length c2) out.length (b8s out)] [] (fun v_ X_ S_ => ∃ A3 A4 c3 c4, v_ = (.tuple #[]) ∧ X_ = [RBlk g0 32 [.slice A3 0 c3], ROwn 5 1 (.slice A3 0 c3) 0 [], RBlk g1 32 [.slice A4 (out ++ litL own).length c4], ROwn 5 1 (.slice A4 (out ++ litL own).length c4) (out ++ litL own).length (b8s (out ++ litL own))] ∧ S_ = []) := by
  obtain ⟨o0, ho0⟩ : ∃ o0, o0 = out ++ litL own := ⟨_, rfl⟩
  rw [← ho0]
  refine henter (N := 22) Tryd.func157 rfl rfl (by simp) fun b => ?_
  refine hblock <| ?_
  refine hloop6 (fun own out A1 c1 A2 c2 => own.length) (fun own out A1 c1 A2 c2 => []) (fun own out A1 c1 A2 c2 => [RBlk g0 32 [.slice A1 own.length c1], ROwn 5 1 (.slice A1 own.length c1) own.length (b8s own), RBlk g1 32 [.slice A2 out.length c2], ROwn 5 1 (.slice A2 out.length c2) out.length (b8s out)]) (fun own out A1 c1 A2 c2 => []) (fun own out A1 c1 A2 c2 => out.length + 2 * own.length ≤ 4000000000 ∧ out ++ litL own = o0) own out A1 c1 A2 c2 [(0, _), (1, _)] ⟨rfl, rfl, trivial⟩ [0, 0, 0, 0] rfl [] rfl (⟨hlen, ho0.symm⟩) trivial (fun own out A1 c1 A2 c2 ⟨hlen, hE⟩ => ?_)
  refine hseq <| hseq <| hreg <| hy (fun m => y_ld1 rfl ag32 (ld_blk (m.blk 0 rfl) rfl)) <| hy (fun _ => y_lenS rfl Tryd.underlying32) <| hy (fun _ => y_gtr rfl rfl) <| hend <| hsub (ρ' := [(5, _), (0, _), (1, _)]) ⟨rfl, rfl, rfl, trivial⟩ <| hthen <| ?_
  refine hif rfl (fun h0 => ?_) (fun h0 => ?_)
  · have hne : own ≠ [] := fun e => by rw [e] at h0; exact absurd h0 (by decide)
    rw [litL_cons hne] at hE
    obtain ⟨k, hk⟩ : ∃ k, k = min own.length 128 := ⟨_, rfl⟩
    have hk1 : 1 ≤ k ∧ k ≤ 128 ∧ k ≤ own.length := by omega
    rw [← hk] at hE
    have htk : own.take 128 = own.take k := by
      rcases Nat.lt_or_ge own.length 128 with h | h
      · rw [List.take_of_length_le (by omega), List.take_of_length_le (by omega)]
      · rw [show k = 128 by omega]
    have hdk : own.drop 128 = own.drop k := by
      rcases Nat.lt_or_ge own.length 128 with h | h
      · rw [List.drop_of_length_le (by omega), List.drop_of_length_le (by omega)]
      · rw [show k = 128 by omega]
    rw [htk, hdk] at hE
    refine hfactC (fun m => (Own.rd (m.own 1 rfl)).2.1) fun hc1 => ?_
    refine hcskip <| hthen <| hblock <| hseq <| hreg <| hy (fun m => y_ld1 rfl ag32 (ld_blk (m.blk 0 rfl) rfl)) <| hy (fun _ => y_lenS rfl Tryd.underlying32) <| hy (fun _ => yV (y_min rfl rfl) ((show Value.int .i64 _ = .int .i64 (k : Nat) by congr 1; omega))) <| hy (fun _ => y_assign rfl) <| hend <| hsub (ρ' := [(2, _), (5, _), (0, _), (1, _)]) ⟨rfl, rfl, rfl, rfl, trivial⟩ <| hthen <| hseq <| hdrwB [0, 0, 0] [] rfl rfl [4, 5, 9, 10] [(0, some 1), (1, some 3), (2, some 0), (3, some 0), (6, some 2), (7, some 2), (8, some 2), (4, none), (5, none), (9, none), (10, none)] (by kernel_rfl) (by kernel_rfl) rfl 3 <| hty (fun m => y_ld1 rfl ag32 (ld_blk (m.blk 2 rfl) rfl)) <| htyU (y_move rfl) <| htyU (yV (y_sub rfl rfl (w64 (by omega) (by omega))) ((show Value.int .i64 ((k : Int) - 1) = .int .i64 ((k - 1 : Nat) : Int) by congr 1; omega))) <| htyU (yV (y_conv rfl Tryd.underlying3 Tryd.underlying5 (u8mod (k - 1))) ((show Value.int .u8 _ = B8 (UInt8.ofNat (k - 1)) from rfl))) <| hty (fun m => y_ld1 rfl ag32 (ld_blk (m.blk 0 rfl) rfl)) <| htyU (y_move rfl) <| htyU (y_slTo rfl rfl Tryd.underlying32 sz5 rfl (by omega)) <| ?_
    refine htx (xh_bsl Tryd.underlying32 ti5 rfl rfl rfl (by simp [Value.cells, B8]) (by decide) (by decide) (fun g13 => ⟨(fun _ => wk [1, 1, 1] [] rfl rfl), ?_⟩))
    have hA_b13 : 0 < 1 → (some (⟨g13, 0, none⟩ : Addr)) ≠ none := fun _ h => by cases h
    refine htx (xh_app 4 rfl rfl rfl Tryd.underlying32 Tryd.underlying32 (by exact .inl rfl) ti5 rfl (fun m => Src.of_rd (m.ord 0 rfl)) (b8s_one (l := [UInt8.ofNat (k - 1)])) (by unfold maxLen; omega) (by omega) (fun u => ⟨(fun _ => wk [2, 2, 2] [] rfl rfl), ?_⟩))
    refine htfact (fun m => (m.own 0 rfl).slice) ?_
    rintro ⟨A_y, c_y, rfl, hc_y⟩
    refine htfact (fun m => (m.ord 0 rfl).2.1) fun hA_y => ?_
    refine htx (xh_app 0 rfl rfl rfl Tryd.underlying32 Tryd.underlying32 (by exact .inl rfl) ti5 rfl (fun m => Src.of_rd (Rd.takeM (m.ord 3 rfl) hk1.2.2)) b8s_one (by unfold maxLen; omega) (by omega) (fun u2 => ⟨(fun _ => wk [2, 2, 2] [] rfl rfl), ?_⟩))
    refine htfact (fun m => (m.own 0 rfl).slice) ?_
    rintro ⟨A_y2, c_y2, rfl, hc_y⟩
    refine htfact (fun m => (m.ord 0 rfl).2.1) fun hA_y => ?_
    refine htx0 (xh_st1 4 rfl rfl rfl sz32 rfl (by first | exact Nat.le_of_ble_eq_true rfl | simp) ⟨(fun h => absurd h (by decide)), ?_⟩)
    refine htend <| hsub (ρ' := [(2, _), (5, _), (0, _), (1, _)]) ⟨rfl, rfl, rfl, rfl, trivial⟩ <| hmemQ (X' := [_, _, _, _, _]) (S' := []) (fun _ m => m) <| hthen <| hreg <| hy (fun m => y_ld1 rfl ag32 (ld_blk (m.blk 3 rfl) rfl)) <| hy (fun _ => y_move rfl) <| hy (fun _ => y_slFrom rfl rfl Tryd.underlying32 sz5 rfl (by omega)) <| ?_
    refine hx0 (xh_st1 3 rfl rfl rfl sz32 rfl (by first | exact Nat.le_of_ble_eq_true rfl | simp) ?_)
    refine hend <| hsub (ρ' := [(2, _), (5, _), (0, _), (1, _)]) ⟨rfl, rfl, rfl, rfl, trivial⟩ <| hmemQ (X' := [_, _, _, _, _]) (S' := []) (fun _ m => m) <| hqblock <| ?_
    refine hmemQ (X' := ROwn 5 1 (.slice (if c1 = k then A1 else A1.map (·.add (k * 1))) (own.length - k) (c1 - k)) (own.length - k) ((b8s own).drop (k * 1)) :: _) (fun w m => (m.perm (takeR_perm [4] _ [_] _ rfl)).viewX (View.ownDrop hk1.2.2 hc1)) ?_
    have hdl : own.length - k = (own.drop k).length := by rw [List.length_drop]
    have hol : out.length + 1 + k = (out ++ (UInt8.ofNat (k - 1) :: own.take k)).length := by simp; omega
    rw [hdl, hol]
    refine hmemQ (fun w m => m.eqX 0 rfl (show _ = ROwn 5 1 (.slice (if c1 = k then A1 else A1.map (·.add (k * 1))) (own.drop k).length (c1 - k)) (own.drop k).length (b8s (own.drop k)) from congrArg (ROwn _ _ _ _) (by rw [Nat.mul_one, b8s_drop]))) ?_
    refine hmemQ (fun w m => m.eqX 3 rfl (show _ = ROwn 5 1 (.slice A_y2 (out ++ (UInt8.ofNat (k - 1) :: own.take k)).length c_y2) (out ++ (UInt8.ofNat (k - 1) :: own.take k)).length (b8s (out ++ (UInt8.ofNat (k - 1) :: own.take k))) from congrArg (ROwn _ _ _ _) (show b8s out ++ b8s [UInt8.ofNat (k - 1)] ++ b8s (own.take k) = _ by rw [← b8s_append, ← b8s_append, List.append_assoc]; rfl))) ?_
    refine hnext6 (own.drop k) (out ++ (UInt8.ofNat (k - 1) :: own.take k)) _ _ _ _ ⟨rfl, rfl, trivial⟩ [2, 1, 1, 0] rfl [] rfl (⟨by rw [← hdl, ← hol]; omega, by rw [← hE]; simp⟩) (by rw [← hdl]; omega)
  · have hne : own = [] := List.eq_nil_of_length_eq_zero (by omega)
    rw [hne, litL_nil, List.append_nil] at hE
    subst hne
    subst hE
    refine hexit <| hthen_exit <| hthen_exit <| hqblock_exit <| ?_
    exact hret0 trivial rfl [0, 0, 0, 0] rfl [] rfl ⟨_, _, _, _, rfl, rfl, rfl⟩
structure PSt where
  g : Nat
  gm : Nat
  g4 : Nat
  g5 : Nat
  i : Nat
  p : Nat
  c1 : Nat
  c2 : Nat
  A1 : Option Addr
  A2 : Option Addr
  own : List UInt8
  out : List UInt8
  es : Fes
theorem packC {A : Option Addr} {n c : Nat} {l : List UInt8} (hc : n ≤ c) (hn : n ≤ 500000000) (hl : l.length = n) : Con Tryd.prog 139 [.slice A n c] [] [RRd 1 A n (b8s l)] (fun v_ X_ S_ => ∃ v, v_ = v ∧ X_ = [ROwn 5 1 v (packL l).length (b8s (packL l))] ∧ S_ = []) := by
  refine henter (N := 56) Tryd.func139 rfl rfl (by simp) fun b => ?_
  refine hfactC (fun m => rdB (m.rd 0 rfl)) ?_
  rintro ⟨hl_r, hA_r⟩
  refine hseq <| hreg <| hy (fun _ => y_assign rfl) <| hend <| hthen <| ?_
  refine hscopeF1 (l := 0) (fun (t:PSt) => n - t.i) (fun (t:PSt) => [(7, .int .i64 (t.i : Nat)), (3, .pointer (some ⟨t.g, 0, none⟩)), (4, .pointer (some ⟨t.g4, 0, none⟩)), (5, .pointer (some ⟨t.g5, 0, none⟩)), (6, .func (.func 157) #[] #[.pointer (some ⟨t.g5, 0, none⟩), .pointer (some ⟨t.g4, 0, none⟩)])]) (fun (t:PSt) => [RFnd t.g t.gm A n c t.p t.es, RBlk t.g5 32 [.slice t.A1 t.own.length t.c1], ROwn 5 1 (.slice t.A1 t.own.length t.c1) t.own.length (b8s t.own), RBlk t.g4 32 [.slice t.A2 t.out.length t.c2], ROwn 5 1 (.slice t.A2 t.out.length t.c2) t.out.length (b8s t.out)]) (fun (t:PSt) => []) (fun (t:PSt) => t.i ≤ n ∧ t.p ≤ t.i ∧ FOk l t.p t.es ∧ t.out.length + 2 * t.own.length ≤ 2 * t.i ∧ packF l t.i t.own t.out = packL l) [(0, _)] ⟨rfl, trivial⟩ [] rfl rfl (fun t ⟨hin, hpi, hF, hlen, hE⟩ => ?_) (fun hfall_ => ?_)
  · obtain ⟨g, gm, g4, g5, i, p, c1, c2, A1, A2, own, out, es⟩ := t
    dsimp only at hin hpi hF hlen hE ⊢
    refine hseq <| hseq <| hreg <| hy (fun _ => y_move rfl) <| hy (fun _ => y_move rfl) <| hy (fun _ => y_lenS rfl Tryd.underlying32) <| hy (fun _ => y_eql rfl rfl) <| hend <| hsub (ρ' := [(16, _), (7, _), (3, _), (4, _), (5, _), (6, _), (0, _)]) ⟨rfl, rfl, rfl, rfl, rfl, rfl, rfl, trivial⟩ <| hthen <| ?_
    refine hifb rfl (fun hfin => ?_) (fun hfin => ?_)
    · have hi : i = n := by have := of_decide_eq_true hfin; omega
      rw [packF_end (by omega)] at hE
      refine hseq <| hreg <| hy (fun _ => y_move rfl) <| ?_
      refine hx (xh_callv rfl rfl Tryd.call157 (putC (by omega)) [1, 1, 1, 1] rfl [] rfl ?_)
      rintro _ _ _ ⟨A3, A4, c3, c4, rfl, rfl, rfl⟩
      rw [hE]
      refine hend <| hsub (ρ' := [(16, _), (7, _), (3, _), (4, _), (5, _), (6, _), (0, _)]) ⟨rfl, rfl, rfl, rfl, rfl, rfl, rfl, trivial⟩ <| hmemQ (X' := [_, _, _, _, _]) (S' := [_]) (fun _ m => m) <| hthen <| hseq <| hreg <| hy (fun m => y_ld1 rfl ag32 (ld_blk (m.blk 2 rfl) rfl)) <| hy (fun _ => y_assign rfl) <| hend <| hsub (ρ' := [(2, _), (16, _), (7, _), (3, _), (4, _), (5, _), (6, _), (0, _)]) ⟨rfl, rfl, rfl, rfl, rfl, rfl, rfl, rfl, trivial⟩ <| hthen <| hret <| hthen_ret <| hjump_ret <| ?_
      exact hret1 trivial rfl rfl [3] rfl [] rfl ⟨_, rfl, rfl, rfl⟩
    · have hi : i < n := by have := of_decide_eq_false hfin; omega
      refine hcskip <| hthen <| hseq <| hreg <| hy (fun _ => y_move rfl) <| hy (fun _ => y_move rfl) <| ?_
      refine hx (xh_call rfl Tryd.call158 (matchC (by omega) (by omega) hl (by omega) (by omega) hF) [0] rfl [0] rfl ?_)
      rintro _ _ _ ⟨p1, es1, rfl, rfl, rfl, hp⟩
      obtain ⟨hp1, hF1⟩ := hp
      refine hy (fun _ => y_move rfl) <| hy (fun _ => y_extract rfl rfl) <| hy (fun _ => y_extract rfl rfl) <| hy (fun _ => y_assign rfl) <| hy (fun _ => y_assign rfl) <| hend <| hsub (ρ' := [(9, _), (8, _), (16, _), (7, _), (3, _), (4, _), (5, _), (6, _), (0, _)]) ⟨rfl, rfl, rfl, rfl, rfl, rfl, rfl, rfl, rfl, trivial⟩ <| hmemQ (X' := [_, _, _, _, _]) (S' := [_]) (fun _ m => m) <| hthen <| hseq <| hseq <| hreg <| hy (fun _ => y_move rfl) <| hy (fun _ => y_eql rfl rfl) <| hend <| hsub (ρ' := [(27, _), (9, _), (8, _), (16, _), (7, _), (3, _), (4, _), (5, _), (6, _), (0, _)]) ⟨rfl, rfl, rfl, rfl, rfl, rfl, rfl, rfl, rfl, rfl, trivial⟩ <| hthen <| ?_
      refine hif rfl (fun h0 => ?_) (fun h0 => ?_)
      · rw [packF_own (by omega) (by omega)] at hE
        refine hseq <| hdrwB [0, 0, 1, 1] [0] rfl rfl [5, 6, 7] [(0, some 1), (1, some 0), (2, some 0), (3, some 0), (4, some 0), (5, none), (6, none), (7, none)] (by kernel_rfl) (by kernel_rfl) rfl 2 <| hty (fun m => y_ld1 rfl ag32 (ld_blk (m.blk 1 rfl) rfl)) <| htyU (y_move rfl) <| htyU (y_move rfl) <| htyU (y_idxS1 rfl rfl Tryd.underlying32 sz5 hA_r rfl (by omega)) <| hty (fun m => y_ld1 rfl ag5 ((m.rd 0 rfl).cell (b8s_get (by omega)))) <| ?_
        refine htx (xh_bsl Tryd.underlying32 ti5 rfl rfl rfl (by simp [Value.cells, B8]) (by decide) (by decide) (fun g33 => ⟨(fun _ => wk [1, 1, 2, 2] [0] rfl rfl), ?_⟩))
        have hA_b33 : 0 < 1 → (some (⟨g33, 0, none⟩ : Addr)) ≠ none := fun _ h => by cases h
        refine htmem (fun w m => m.eqX 0 rfl (show _ = ROwn 5 1 (.slice (some ⟨g33, 0, none⟩) 1 1) 1 (b8s [l.getD i 0]) from rfl)) ?_
        refine htx (xh_app 3 rfl rfl rfl Tryd.underlying32 Tryd.underlying32 (by exact .inl rfl) ti5 rfl (fun m => Src.of_rd (m.ord 0 rfl)) b8s_one (by unfold maxLen; omega) (by omega) (fun u => ⟨(fun _ => wk [2, 2, 2, 2] [0] rfl rfl), ?_⟩))
        refine htfact (fun m => (m.own 0 rfl).slice) ?_
        rintro ⟨A_x, c_x, rfl, hc_x⟩
        refine htfact (fun m => (m.ord 0 rfl).2.1) fun hA_x => ?_
        refine htx0 (xh_st1 3 rfl rfl rfl sz32 rfl (by first | exact Nat.le_of_ble_eq_true rfl | simp) ⟨(fun h => absurd h (by decide)), ?_⟩)
        refine htend <| hsub (ρ' := [(27, _), (9, _), (8, _), (16, _), (7, _), (3, _), (4, _), (5, _), (6, _), (0, _)]) ⟨rfl, rfl, rfl, rfl, rfl, rfl, rfl, rfl, rfl, rfl, trivial⟩ <| hmemQ (X' := [_, _, _, _, _, _]) (S' := [_]) (fun _ m => m) <| hthen <| hseq <| hreg <| hy (fun _ => y_move rfl) <| hy (fun _ => y_add rfl rfl (w64 (by omega) (by omega))) <| hy (fun _ => y_assign rfl) <| hend <| hsub (ρ' := [(7, _), (27, _), (9, _), (8, _), (16, _), (3, _), (4, _), (5, _), (6, _), (0, _)]) ⟨rfl, rfl, rfl, rfl, rfl, rfl, rfl, rfl, rfl, rfl, trivial⟩ <| hthen <| hcgoto <| hthen_goto <| ?_
        have hol : own.length + 1 = (own ++ [l.getD i 0]).length := by simp
        rw [hol]
        refine hmemQ (fun w m => m.eqX 1 rfl (show _ = ROwn 5 1 (.slice A_x (own ++ [l.getD i 0]).length c_x) (own ++ [l.getD i 0]).length (b8s (own ++ [l.getD i 0])) from congrArg (ROwn _ _ _ _) (b8s_append _ _).symm)) ?_
        exact hgoto1 (⟨g, gm, g4, g5, i + 1, p1, c_x, c2, A_x, A2, own ++ [l.getD i 0], out, es1⟩) ⟨rfl, rfl, rfl, rfl, rfl, rfl, trivial⟩ [3, 1, 0, 1, 1] rfl [0] rfl (⟨hi, Nat.le_succ_of_le hp1, hF1, by show out.length + 2 * (own ++ [l.getD i 0]).length ≤ 2 * (i + 1); rw [← hol]; omega, hE⟩) (by show n - (i + 1) < n - i; omega)
      · have hm := matchL_ok (b := l) (i := i) (by omega)
        rw [packF_match (by omega) (by omega)] at hE
        obtain ⟨m1, m2, m3, m4, m5, m6⟩ := hm.resolve_left (fun e => h0 (by rw [e]; rfl))
        refine hcskip <| hthen <| hseq <| hreg <| hy (fun _ => y_move rfl) <| ?_
        refine hx (xh_callv rfl rfl Tryd.call157 (putC (by omega)) [1, 1, 1, 1] rfl [] rfl ?_)
        rintro _ _ _ ⟨A3, A4, c3, c4, rfl, rfl, rfl⟩
        refine hend <| hsub (ρ' := [(27, _), (9, _), (8, _), (16, _), (7, _), (3, _), (4, _), (5, _), (6, _), (0, _)]) ⟨rfl, rfl, rfl, rfl, rfl, rfl, rfl, rfl, rfl, rfl, trivial⟩ <| hmemQ (X' := [_, _, _, _, _]) (S' := [_]) (fun _ m => m) <| hthen <| hseq <| hreg <| hy (fun m => y_ld1 rfl ag32 (ld_blk (m.blk 2 rfl) rfl)) <| hy (fun _ => y_move rfl) <| hy (fun _ => y_add rfl rfl (w64 (by omega) (by omega))) <| hy (fun _ => yV (y_sub rfl rfl (w64 (by omega) (by omega))) ((show Value.int .i64 (128 + ((matchL l i).1 : Int) - 4) = .int .i64 ((124 + (matchL l i).1 : Nat) : Int) by congr 1; omega))) <| hy (fun _ => yV (y_conv rfl Tryd.underlying3 Tryd.underlying5 (u8mod _)) ((show Value.int .u8 _ = B8 (UInt8.ofNat (124 + (matchL l i).1)) from rfl))) <| hy (fun _ => y_move rfl) <| hy (fun _ => yV (y_sub rfl rfl (w64 (by omega) (by omega))) ((show Value.int .i64 (((matchL l i).2 : Int) - 1) = .int .i64 (((matchL l i).2 - 1 : Nat) : Int) by congr 1; omega))) <| hy (fun _ => yV (y_conv rfl Tryd.underlying3 Tryd.underlying5 (u8mod _)) ((show Value.int .u8 _ = B8 (UInt8.ofNat ((matchL l i).2 - 1)) from rfl))) <| hy (fun _ => y_move rfl) <| hy (fun _ => yV (y_sub rfl rfl (w64 (by omega) (by omega))) ((show Value.int .i64 (((matchL l i).2 : Int) - 1) = .int .i64 (((matchL l i).2 - 1 : Nat) : Int) by congr 1; omega))) <| hy (fun _ => yV (y_shr (p := 256) rfl rfl (by decide) (by decide) (by decide)) ((show Value.int .i64 ((((matchL l i).2 - 1 : Nat) : Int) / 256) = .int .i64 ((((matchL l i).2 - 1) / 256 : Nat) : Int) by congr 1))) <| hy (fun _ => yV (y_conv rfl Tryd.underlying3 Tryd.underlying5 (u8mod _)) ((show Value.int .u8 _ = B8 (UInt8.ofNat (((matchL l i).2 - 1) / 256)) from rfl))) <| ?_
        refine hx (xh_bsl Tryd.underlying32 ti5 rfl rfl rfl (by simp [Value.cells, B8]) (by decide) (by decide) (fun g51 => ?_))
        have hA_b51 : 0 < 3 → (some (⟨g51, 0, none⟩ : Addr)) ≠ none := fun _ h => by cases h
        refine hmemL (fun w m => m.eqX 0 rfl (show _ = ROwn 5 1 (.slice (some ⟨g51, 0, none⟩) 3 3) 3 (b8s (tokM (matchL l i))) from rfl)) ?_
        have hll := litL_length own
        have hlo : (out ++ litL own).length = out.length + (litL own).length := by simp
        refine hx (xh_app 4 rfl rfl rfl Tryd.underlying32 Tryd.underlying32 (by exact .inl rfl) ti5 rfl (fun m => Src.of_rd (m.ord 0 rfl)) b8s_one (by unfold maxLen; omega) (by omega) (fun u => ?_))
        refine hfactL (fun m => (m.own 0 rfl).slice) ?_
        rintro ⟨A_y, c_y, rfl, hc_y⟩
        refine hfactL (fun m => (m.ord 0 rfl).2.1) fun hA_y => ?_
        refine hx0 (xh_st1 4 rfl rfl rfl sz32 rfl (by first | exact Nat.le_of_ble_eq_true rfl | simp) ?_)
        refine hend <| hsub (ρ' := [(27, _), (9, _), (8, _), (16, _), (7, _), (3, _), (4, _), (5, _), (6, _), (0, _)]) ⟨rfl, rfl, rfl, rfl, rfl, rfl, rfl, rfl, rfl, rfl, trivial⟩ <| hmemQ (X' := [_, _, _, _, _, _]) (S' := [_]) (fun _ m => m) <| hthen <| hseq <| hreg <| hy (fun _ => y_move rfl) <| hy (fun _ => y_move rfl) <| hy (fun _ => yV (y_add rfl rfl (w64 (by omega) (by omega))) ((show Value.int .i64 ((i : Int) + ((matchL l i).1 : Int)) = .int .i64 ((i + (matchL l i).1 : Nat) : Int) by congr 1))) <| hy (fun _ => y_assign rfl) <| hend <| hsub (ρ' := [(7, _), (27, _), (9, _), (8, _), (16, _), (3, _), (4, _), (5, _), (6, _), (0, _)]) ⟨rfl, rfl, rfl, rfl, rfl, rfl, rfl, rfl, rfl, rfl, trivial⟩ <| hthen <| hcgoto <| ?_
        have hol : (out ++ litL own).length + 3 = (out ++ litL own ++ tokM (matchL l i)).length := by simp [tokM]; omega
        rw [hol]
        refine hmemQ (fun w m => m.eqX 1 rfl (show _ = ROwn 5 1 (.slice A_y (out ++ litL own ++ tokM (matchL l i)).length c_y) (out ++ litL own ++ tokM (matchL l i)).length (b8s (out ++ litL own ++ tokM (matchL l i))) from congrArg (ROwn _ _ _ _) (b8s_append _ _).symm)) ?_
        exact hgoto1 (⟨g, gm, g4, g5, i + (matchL l i).1, p1, c3, c_y, A3, A_y, [], out ++ litL own ++ tokM (matchL l i), es1⟩) ⟨rfl, rfl, rfl, rfl, rfl, rfl, trivial⟩ [5, 3, 3, 1, 0] rfl [0] rfl (⟨by show i + (matchL l i).1 ≤ n; omega, by show p1 ≤ i + (matchL l i).1; omega, hF1, by show (out ++ litL own ++ tokM (matchL l i)).length + 2 * 0 ≤ 2 * (i + (matchL l i).1); rw [← hol]; omega, hE⟩) (by show n - (i + (matchL l i).1) < n - i; omega)
  · refine hseq <| hreg <| hy (fun _ => y_move rfl) <| ?_
    refine hx (xh_call rfl Tryd.call156 (overC) [] rfl [] rfl ?_)
    rintro _ _ _ ⟨g, gm, rfl, rfl, rfl⟩
    refine hy (fun _ => y_assign rfl) <| hend <| hsub (ρ' := [(3, _), (2, _), (0, _)]) ⟨rfl, rfl, rfl, trivial⟩ <| hmemQ (X' := [_]) (S' := [_]) (fun _ m => m) <| hthen <| hseq <| hreg <| ?_
    refine hx (xh_alloc ti32 (fun g4 => ?_))
    refine hx (xh_alloc ti32 (fun g5 => ?_))
    refine hend <| hmemQ (X' := [_, _, _]) (S' := [_]) (fun _ m => m) <| hthen <| hseq <| hreg <| hy (fun _ => y_mkf rfl rfl) <| hy (fun _ => y_assign rfl) <| hend <| hsub (ρ' := [(6, _), (5, _), (4, _), (3, _), (2, _), (0, _)]) ⟨rfl, rfl, rfl, rfl, rfl, rfl, trivial⟩ <| hthen <| hseq <| hreg <| hy (fun _ => y_assign rfl) <| hend <| hthen <| ?_
    refine hmemC (fun w m => m.eqX 1 rfl (show _ = RBlk g4 32 [.slice none 0 0] from rfl)) ?_
    refine hmemC (fun w m => m.eqX 1 rfl (show _ = RBlk g5 32 [.slice none 0 0] from rfl)) ?_
    refine hmemC (fun w m => m.addX (r' := ROwn 5 1 (.slice none 0 0) 0 []) (.refl _ _) (Own.nil _ _ _ _) (fun k hk => hk.elim)) ?_
    refine hmemC (fun w m => m.addX (r' := ROwn 5 1 (.slice none 0 0) 0 []) (.refl _ _) (Own.nil _ _ _ _) (fun k hk => hk.elim)) ?_
    exact hfallH (hfall1 (R := fun (t:PSt) => [(7, .int .i64 (t.i : Nat)), (3, .pointer (some ⟨t.g, 0, none⟩)), (4, .pointer (some ⟨t.g4, 0, none⟩)), (5, .pointer (some ⟨t.g5, 0, none⟩)), (6, .func (.func 157) #[] #[.pointer (some ⟨t.g5, 0, none⟩), .pointer (some ⟨t.g4, 0, none⟩)])]) (X1 := fun (t:PSt) => [RFnd t.g t.gm A n c t.p t.es, RBlk t.g5 32 [.slice t.A1 t.own.length t.c1], ROwn 5 1 (.slice t.A1 t.own.length t.c1) t.own.length (b8s t.own), RBlk t.g4 32 [.slice t.A2 t.out.length t.c2], ROwn 5 1 (.slice t.A2 t.out.length t.c2) t.out.length (b8s t.out)]) (S1 := fun (t:PSt) => []) (I := fun (t:PSt) => t.i ≤ n ∧ t.p ≤ t.i ∧ FOk l t.p t.es ∧ t.out.length + 2 * t.own.length ≤ 2 * t.i ∧ packF l t.i t.own t.out = packL l) (⟨g, gm, g4, g5, 0, 0, 0, 0, none, none, [], [], []⟩) ⟨rfl, rfl, rfl, rfl, rfl, rfl, trivial⟩ [4, 2, 1, 1, 0] rfl [0] rfl (⟨Nat.zero_le _, Nat.le_refl _, fok_nil _, Nat.le_refl _, rfl⟩)) hfall_
end Go.Proofs.YtfikjheicjamhaaDoor
end
section
/- Frames (layer 6), over plain lists. No program. -/
set_option linter.unusedVariables false
set_option linter.unusedSimpArgs false
namespace Go.Hx
open Go.Eng
/-- is it packed? -/
def pkd (b : List UInt8) : Bool := decide ((packL b).length < b.length)
def fbody (b : List UInt8) : List UInt8 := if pkd b then packL b else b
/-- bytes' frame -/
def sealL (b : List UInt8) : List UInt8 := [76, if pkd b then 1 else 0] ++ le4 b.length ++ fbody b ++ le4 (crcSum b)
theorem fbody_length (b : List UInt8) : (fbody b).length ≤ b.length := by
  unfold fbody pkd
  split
  · rename_i h; have := of_decide_eq_true h; omega
  · exact Nat.le_refl _
theorem sealL_length (b : List UInt8) : (sealL b).length = (fbody b).length + 10 := by simp [sealL, le4_length]; omega
theorem sealL_le (b : List UInt8) : 10 ≤ (sealL b).length ∧ (sealL b).length ≤ b.length + 10 := by
  have := fbody_length b
  rw [sealL_length]
  omega
end Go.Hx
end
section
/- Contracts: frames (layer 6): sealing, lengths. -/
set_option linter.unusedVariables false
set_option linter.unusedSimpArgs false
set_option maxRecDepth 20000
set_option maxHeartbeats 2000000
namespace Go.Proofs.YtfikjheicjamhaaDoor
open Go.Eng Go.Hx
theorem crcSumC {A : Option Addr} {n c : Nat} {l : List UInt8} (hn : n ≤ 70368744177664) : Con Tryd.prog 117 [.slice A n c] [] [RRd 1 A n (b8s l)] (fun v_ X_ S_ => v_ = (.int .u32 (crcSum l : Nat)) ∧ X_ = [] ∧ S_ = []) := by
  exact con_pure fun m => Calls.mono (crcSum_c A n c l _ (m.rd 0 rfl) (by omega)) (fun e w' ⟨h, hf⟩ => ⟨_, h, ⟨rfl, rfl, rfl⟩, hf⟩)
theorem fnumberC {k : Nat} (hk : k < 4294967296) : Con Tryd.prog 116 [.int .u32 (k : Nat)] [] [] (fun v_ X_ S_ => ∃ v, v_ = v ∧ X_ = [ROwn 5 1 v 4 (b8s (le4 k))] ∧ S_ = []) := by
  refine henter (N := 15) Tryd.func116 rfl rfl (by simp) fun b => ?_
  refine hseq <| hreg <| hy (fun _ => y_assign rfl) <| hend <| hthen <| hseq <| hreg <| hy (fun _ => y_move rfl) <| hy (fun _ => yV (y_conv rfl Tryd.underlying120 Tryd.underlying5 (u8mod _)) ((show Value.int .u8 _ = B8 (UInt8.ofNat k) from rfl))) <| hy (fun _ => y_move rfl) <| hy (fun _ => yV (y_shr (p := 256) rfl rfl (by decide) (by decide) (by decide)) ((show Value.int .u32 ((k : Int) / 256) = .int .u32 ((k / 256 : Nat) : Int) by congr 1))) <| hy (fun _ => yV (y_conv rfl Tryd.underlying120 Tryd.underlying5 (u8mod _)) ((show Value.int .u8 _ = B8 (UInt8.ofNat (k / 256)) from rfl))) <| hy (fun _ => y_move rfl) <| hy (fun _ => yV (y_shr (p := 65536) rfl rfl (by decide) (by decide) (by decide)) ((show Value.int .u32 ((k : Int) / 65536) = .int .u32 ((k / 65536 : Nat) : Int) by congr 1))) <| hy (fun _ => yV (y_conv rfl Tryd.underlying120 Tryd.underlying5 (u8mod _)) ((show Value.int .u8 _ = B8 (UInt8.ofNat (k / 65536)) from rfl))) <| hy (fun _ => y_move rfl) <| hy (fun _ => yV (y_shr (p := 16777216) rfl rfl (by decide) (by decide) (by decide)) ((show Value.int .u32 ((k : Int) / 16777216) = .int .u32 ((k / 16777216 : Nat) : Int) by congr 1))) <| hy (fun _ => yV (y_conv rfl Tryd.underlying120 Tryd.underlying5 (u8mod _)) ((show Value.int .u8 _ = B8 (UInt8.ofNat (k / 16777216)) from rfl))) <| ?_
  refine hx (xh_bsl Tryd.underlying32 ti5 rfl rfl rfl (by simp [Value.cells, B8]) (by decide) (by decide) (fun g14 => ?_))
  have hA_b14 : 0 < 4 → (some (⟨g14, 0, none⟩ : Addr)) ≠ none := fun _ h => by cases h
  refine hy (fun _ => y_assign rfl) <| hend <| hsub (ρ' := [(2, _), (0, _)]) ⟨rfl, rfl, trivial⟩ <| hmemQ (X' := [_]) (S' := []) (fun _ m => m) <| hthen <| hret <| ?_
  refine hmemQ (fun w m => m.eqX 0 rfl (show _ = ROwn 5 1 (.slice (some ⟨g14, 0, none⟩) 4 4) 4 (b8s (le4 k)) from rfl)) ?_
  exact hret1 trivial rfl rfl [0] rfl [] rfl ⟨_, rfl, rfl, rfl⟩
theorem sealC {A : Option Addr} {n c : Nat} {l : List UInt8} (hc : n ≤ c) (hn : n ≤ 100000000) (hl : l.length = n) : Con Tryd.prog 95 [.slice A n c] [] [RRd 1 A n (b8s l)] (fun v_ X_ S_ => ∃ v, v_ = v ∧ X_ = [ROwn 5 1 v (sealL l).length (b8s (sealL l))] ∧ S_ = []) := by
  have hpl := packL_length l
  have hlt : n < 4294967296 := by omega
  have hcl := crcSum_lt l
  refine henter (N := 31) Tryd.func95 rfl rfl (by simp) fun b => ?_
  refine hfactC (fun m => rdB (m.rd 0 rfl)) ?_
  rintro ⟨hl_r, hA_r⟩
  refine hseq <| hreg <| hy (fun _ => y_assign rfl) <| hend <| hthen <| hseq <| hreg <| hy (fun _ => y_move rfl) <| hy (fun _ => y_assign rfl) <| hy (fun _ => y_assign rfl) <| hend <| hsub (ρ' := [(4, _), (3, _), (2, _), (0, _)]) ⟨rfl, rfl, rfl, rfl, trivial⟩ <| hthen <| hseq <| hseq <| hreg <| hy (fun _ => y_move rfl) <| ?_
  refine hx (xh_call rfl Tryd.call139 (packC (by omega) (by omega) (by omega)) [] rfl [0] rfl ?_)
  rintro _ _ _ ⟨v, rfl, rfl, rfl⟩
  refine hfactL (fun m => (m.own 0 rfl).slice) ?_
  rintro ⟨A_y, c_y, rfl, hc_y⟩
  refine hfactL (fun m => (m.ord 0 rfl).2.1) fun hA_y => ?_
  refine hy (fun _ => y_assign rfl) <| hend <| hsub (ρ' := [(5, _), (4, _), (3, _), (2, _), (0, _)]) ⟨rfl, rfl, rfl, rfl, rfl, trivial⟩ <| hmemQ (X' := [_]) (S' := [_]) (fun _ m => m) <| hthen <| hseq <| hreg <| hy (fun _ => y_move rfl) <| hy (fun _ => y_lenS rfl Tryd.underlying32) <| hy (fun _ => y_move rfl) <| hy (fun _ => y_lenS rfl Tryd.underlying32) <| hy (fun _ => y_lss rfl rfl) <| hend <| hsub (ρ' := [(14, _), (5, _), (4, _), (3, _), (2, _), (0, _)]) ⟨rfl, rfl, rfl, rfl, rfl, rfl, trivial⟩ <| hthen <| ?_
  refine hif rfl (fun hp => ?_) (fun hp => ?_)
  · have hq : sealL l = [76, 1] ++ le4 l.length ++ packL l ++ le4 (crcSum l) := by
      have : pkd l = true := by unfold pkd; exact decide_eq_true (by omega)
      unfold sealL fbody
      rw [this]; rfl
    refine hreg <| hy (fun _ => y_move rfl) <| hy (fun _ => y_assign rfl) <| hy (fun _ => y_assign rfl) <| hend <| hsub (ρ' := [(4, _), (3, _), (14, _), (5, _), (2, _), (0, _)]) ⟨rfl, rfl, rfl, rfl, rfl, rfl, trivial⟩ <| hthen <| hseq <| hreg <| hy (fun _ => y_move rfl) <| ?_
    refine hx (xh_bsl Tryd.underlying32 ti5 rfl rfl rfl (by simp [Value.cells, B8]) (by decide) (by decide) (fun g17 => ?_))
    have hA_b17 : 0 < 2 → (some (⟨g17, 0, none⟩ : Addr)) ≠ none := fun _ h => by cases h
    refine hy (fun _ => y_move rfl) <| hy (fun _ => y_lenS rfl Tryd.underlying32) <| hy (fun _ => y_conv rfl Tryd.underlying3 Tryd.underlying120 (w32 (by omega) (by omega))) <| ?_
    refine hx (xh_call rfl Tryd.call116 (fnumberC (by omega)) [] rfl [] rfl ?_)
    rintro _ _ _ ⟨v2, rfl, rfl, rfl⟩
    refine hfactL (fun m => (m.own 0 rfl).slice) ?_
    rintro ⟨A_x, c_x, rfl, hc_x⟩
    refine hfactL (fun m => (m.ord 0 rfl).2.1) fun hA_x => ?_
    refine hmemL (fun w m => m.eqX 1 rfl (show _ = ROwn 5 1 (.slice (some ⟨g17, 0, none⟩) 2 2) 2 (b8s [76, 1]) from rfl)) ?_
    refine hx (xh_app 0 rfl rfl rfl Tryd.underlying32 Tryd.underlying32 (by exact .inl rfl) ti5 rfl (fun m => Src.of_rd (m.ord 1 rfl)) b8s_one (by unfold maxLen; omega) (by omega) (fun u => ?_))
    refine hfactL (fun m => (m.own 0 rfl).slice) ?_
    rintro ⟨A_b17, c_b17, rfl, hc_b17⟩
    refine hfactL (fun m => (m.ord 0 rfl).2.1) fun hA_b17 => ?_
    refine hy (fun _ => y_assign rfl) <| hend <| hsub (ρ' := [(6, _), (4, _), (3, _), (14, _), (5, _), (2, _), (0, _)]) ⟨rfl, rfl, rfl, rfl, rfl, rfl, rfl, trivial⟩ <| hmemQ (X' := [_, _, _]) (S' := [_]) (fun _ m => m) <| hthen <| hseq <| hreg <| hy (fun _ => y_move rfl) <| hy (fun _ => y_move rfl) <| ?_
    refine hx (xh_app 0 rfl rfl rfl Tryd.underlying32 Tryd.underlying32 (by exact .inl rfl) ti5 rfl (fun m => Src.of_rd (m.ord 2 rfl)) b8s_one (by unfold maxLen; omega) (by omega) (fun u2 => ?_))
    refine hfactL (fun m => (m.own 0 rfl).slice) ?_
    rintro ⟨A_b172, c_b172, rfl, hc_b17⟩
    refine hfactL (fun m => (m.ord 0 rfl).2.1) fun hA_b17 => ?_
    refine hy (fun _ => y_assign rfl) <| hend <| hsub (ρ' := [(6, _), (4, _), (3, _), (14, _), (5, _), (2, _), (0, _)]) ⟨rfl, rfl, rfl, rfl, rfl, rfl, rfl, trivial⟩ <| hmemQ (X' := [_, _, _]) (S' := [_]) (fun _ m => m) <| hthen <| hseq <| hreg <| hy (fun _ => y_move rfl) <| hy (fun _ => y_move rfl) <| ?_
    refine hx (xh_call rfl Tryd.call117 (crcSumC (by omega)) [] rfl [0] rfl ?_)
    rintro _ _ _ ⟨rfl, rfl, rfl⟩
    refine hx (xh_call rfl Tryd.call116 (fnumberC (by omega)) [] rfl [] rfl ?_)
    rintro _ _ _ ⟨v3, rfl, rfl, rfl⟩
    refine hfactL (fun m => (m.own 0 rfl).slice) ?_
    rintro ⟨A_x2, c_x2, rfl, hc_x2⟩
    refine hfactL (fun m => (m.ord 0 rfl).2.1) fun hA_x2 => ?_
    refine hx (xh_app 1 rfl rfl rfl Tryd.underlying32 Tryd.underlying32 (by exact .inl rfl) ti5 rfl (fun m => Src.of_rd (m.ord 0 rfl)) b8s_one (by unfold maxLen; omega) (by omega) (fun u3 => ?_))
    refine hfactL (fun m => (m.own 0 rfl).slice) ?_
    rintro ⟨A_b173, c_b173, rfl, hc_b17⟩
    refine hfactL (fun m => (m.ord 0 rfl).2.1) fun hA_b17 => ?_
    refine hy (fun _ => y_assign rfl) <| hend <| hsub (ρ' := [(2, _), (6, _), (4, _), (3, _), (14, _), (5, _), (0, _)]) ⟨rfl, rfl, rfl, rfl, rfl, rfl, rfl, trivial⟩ <| hmemQ (X' := [_, _, _, _]) (S' := [_]) (fun _ m => m) <| hthen <| hret <| ?_
    have hol : 2 + 4 + (packL l).length + 4 = (sealL l).length := by rw [hq]; simp [le4_length, hl]; try omega
    rw [hol]
    have hsl : b8s [76, 1] ++ b8s (le4 n) ++ b8s (packL l) ++ b8s (le4 (crcSum l)) = b8s (sealL l) := by rw [hq, hl, b8s_append, b8s_append, b8s_append]
    rw [hsl]
    exact hret1 trivial rfl rfl [0] rfl [] rfl ⟨_, rfl, rfl, rfl⟩
  · have hq : sealL l = [76, 0] ++ le4 l.length ++ l ++ le4 (crcSum l) := by
      have : pkd l = false := by unfold pkd; exact decide_eq_false (by omega)
      unfold sealL fbody
      rw [this]; rfl
    refine hcskip <| hthen <| hseq <| hreg <| hy (fun _ => y_move rfl) <| ?_
    refine hx (xh_bsl Tryd.underlying32 ti5 rfl rfl rfl (by simp [Value.cells, B8]) (by decide) (by decide) (fun g17 => ?_))
    have hA_b17 : 0 < 2 → (some (⟨g17, 0, none⟩ : Addr)) ≠ none := fun _ h => by cases h
    refine hy (fun _ => y_move rfl) <| hy (fun _ => y_lenS rfl Tryd.underlying32) <| hy (fun _ => y_conv rfl Tryd.underlying3 Tryd.underlying120 (w32 (by omega) (by omega))) <| ?_
    refine hx (xh_call rfl Tryd.call116 (fnumberC (by omega)) [] rfl [] rfl ?_)
    rintro _ _ _ ⟨v2, rfl, rfl, rfl⟩
    refine hfactL (fun m => (m.own 0 rfl).slice) ?_
    rintro ⟨A_x, c_x, rfl, hc_x⟩
    refine hfactL (fun m => (m.ord 0 rfl).2.1) fun hA_x => ?_
    refine hmemL (fun w m => m.eqX 1 rfl (show _ = ROwn 5 1 (.slice (some ⟨g17, 0, none⟩) 2 2) 2 (b8s [76, 0]) from rfl)) ?_
    refine hx (xh_app 0 rfl rfl rfl Tryd.underlying32 Tryd.underlying32 (by exact .inl rfl) ti5 rfl (fun m => Src.of_rd (m.ord 1 rfl)) b8s_one (by unfold maxLen; omega) (by omega) (fun u => ?_))
    refine hfactL (fun m => (m.own 0 rfl).slice) ?_
    rintro ⟨A_b17, c_b17, rfl, hc_b17⟩
    refine hfactL (fun m => (m.ord 0 rfl).2.1) fun hA_b17 => ?_
    refine hy (fun _ => y_assign rfl) <| hend <| hsub (ρ' := [(6, _), (14, _), (5, _), (4, _), (3, _), (2, _), (0, _)]) ⟨rfl, rfl, rfl, rfl, rfl, rfl, rfl, trivial⟩ <| hmemQ (X' := [_, _, _]) (S' := [_]) (fun _ m => m) <| hthen <| hseq <| hreg <| hy (fun _ => y_move rfl) <| hy (fun _ => y_move rfl) <| ?_
    refine hx (xh_app 0 rfl rfl rfl Tryd.underlying32 Tryd.underlying32 (by exact .inl rfl) ti5 rfl (fun m => Src.of_rd (m.rd 0 rfl)) b8s_one (by unfold maxLen; omega) (by omega) (fun u2 => ?_))
    refine hfactL (fun m => (m.own 0 rfl).slice) ?_
    rintro ⟨A_b172, c_b172, rfl, hc_b17⟩
    refine hfactL (fun m => (m.ord 0 rfl).2.1) fun hA_b17 => ?_
    refine hy (fun _ => y_assign rfl) <| hend <| hsub (ρ' := [(6, _), (14, _), (5, _), (4, _), (3, _), (2, _), (0, _)]) ⟨rfl, rfl, rfl, rfl, rfl, rfl, rfl, trivial⟩ <| hmemQ (X' := [_, _, _]) (S' := [_]) (fun _ m => m) <| hthen <| hseq <| hreg <| hy (fun _ => y_move rfl) <| hy (fun _ => y_move rfl) <| ?_
    refine hx (xh_call rfl Tryd.call117 (crcSumC (by omega)) [] rfl [0] rfl ?_)
    rintro _ _ _ ⟨rfl, rfl, rfl⟩
    refine hx (xh_call rfl Tryd.call116 (fnumberC (by omega)) [] rfl [] rfl ?_)
    rintro _ _ _ ⟨v3, rfl, rfl, rfl⟩
    refine hfactL (fun m => (m.own 0 rfl).slice) ?_
    rintro ⟨A_x2, c_x2, rfl, hc_x2⟩
    refine hfactL (fun m => (m.ord 0 rfl).2.1) fun hA_x2 => ?_
    refine hx (xh_app 1 rfl rfl rfl Tryd.underlying32 Tryd.underlying32 (by exact .inl rfl) ti5 rfl (fun m => Src.of_rd (m.ord 0 rfl)) b8s_one (by unfold maxLen; omega) (by omega) (fun u3 => ?_))
    refine hfactL (fun m => (m.own 0 rfl).slice) ?_
    rintro ⟨A_b173, c_b173, rfl, hc_b17⟩
    refine hfactL (fun m => (m.ord 0 rfl).2.1) fun hA_b17 => ?_
    refine hy (fun _ => y_assign rfl) <| hend <| hsub (ρ' := [(2, _), (6, _), (14, _), (5, _), (4, _), (3, _), (0, _)]) ⟨rfl, rfl, rfl, rfl, rfl, rfl, rfl, trivial⟩ <| hmemQ (X' := [_, _, _, _]) (S' := [_]) (fun _ m => m) <| hthen <| hret <| ?_
    have hol : 2 + 4 + n + 4 = (sealL l).length := by rw [hq]; simp [le4_length, hl]; try omega
    rw [hol]
    have hsl : b8s [76, 0] ++ b8s (le4 n) ++ b8s l ++ b8s (le4 (crcSum l)) = b8s (sealL l) := by rw [hq, hl, b8s_append, b8s_append, b8s_append]
    rw [hsl]
    exact hret1 trivial rfl rfl [0] rfl [] rfl ⟨_, rfl, rfl, rfl⟩
end Go.Proofs.YtfikjheicjamhaaDoor
end
section
/- Contracts: who has all (server): chunks come and go. -/
set_option linter.unusedVariables false
set_option linter.unusedSimpArgs false
set_option maxRecDepth 20000
set_option maxHeartbeats 2000000
namespace Go.Proofs.YtfikjheicjamhaaDoor
open Go.Eng Go.Hx
theorem frs_put (k : Dg) (r : BRow) : ∀ l : Frames, aput (frs l) k r.val = frs (aput l k r)
  | [] => rfl
  | (q, x) :: t => by
    have ih := frs_put k r t
    unfold frs at ih ⊢
    simp only [List.map_cons, aput]
    split
    · rfl
    · rw [ih]; rfl
theorem frs_del (k : Dg) : ∀ l : Frames, adel (frs l) k = frs (adel l k)
  | [] => rfl
  | (q, x) :: t => by
    have ih := frs_del k t
    unfold frs at ih ⊢
    simp only [List.map_cons, adel]
    split
    · rfl
    · rw [ih]; rfl
theorem aput_rows {k : Dg} {r : BRow} : ∀ {l : Frames}, ∀ x ∈ (aput l k r).map (·.2), x ∈ l.map (·.2) ∨ x = r
  | [], x, h => .inr (by simpa [aput] using h)
  | (q, y) :: t, x, h => by
    simp only [aput] at h
    split at h
    · rw [List.map_cons] at h
      rcases List.mem_cons.1 h with h | h
      · exact .inr h
      · exact .inl (List.mem_cons_of_mem _ h)
    · rw [List.map_cons] at h
      rcases List.mem_cons.1 h with h | h
      · exact .inl (by rw [h]; simp)
      · rcases aput_rows x h with h | h
        · exact .inl (List.mem_cons_of_mem _ h)
        · exact .inr h
theorem adel_rows {k : Dg} : ∀ {l : Frames}, ∀ x ∈ (adel l k).map (·.2), x ∈ l.map (·.2)
  | [], x, h => by simp [adel] at h
  | (q, y) :: t, x, h => by
    simp only [adel] at h
    split at h
    · exact List.mem_cons_of_mem _ h
    · rw [List.map_cons] at h
      rcases List.mem_cons.1 h with h | h
      · rw [h]; simp
      · exact List.mem_cons_of_mem _ (adel_rows x h)
theorem slenC {g gm : Nat} {l : Frames} : Con Tryd.prog 56 [.pointer (some ⟨g, 0, none⟩)] [RSrv g gm l] [] (fun v_ X_ S_ => v_ = (.int .i64 (l.length : Nat)) ∧ X_ = [RSrv g gm l] ∧ S_ = []) := by
  refine henterD (N := 15) Tryd.func56 rfl rfl (by simp) fun b => ?_
  refine hmemC (fun w m => (m.perm (takeR_perm [0] _ [_] _ rfl)).unpack) ?_
  refine hseq <| hreg <| hy (fun _ => y_assign rfl) <| hend <| hthen <| hseq <| hreg <| hy (fun _ => y_move rfl) <| hy (fun _ => y_nilp rfl) <| hy (fun _ => y_fld rfl fa165_0 (by decide)) <| ?_
  refine hx (xh_call rfl Tryd.call100 (muLockC) [0] rfl [] rfl ?_)
  rintro _ _ _ ⟨rfl, rfl, rfl⟩
  refine hend <| hsub (ρ' := [(2, _), (0, _)]) ⟨rfl, rfl, trivial⟩ <| hmemQ (X' := [_, _, _]) (S' := []) (fun _ m => m) <| hthen <| hseq <| hreg <| hy (fun _ => y_move rfl) <| hy (fun _ => y_nilp rfl) <| hy (fun _ => y_fld rfl fa165_0 (by decide)) <| hdefer rfl <| hend <| hsub (ρ' := [(2, _), (0, _)]) ⟨rfl, rfl, trivial⟩ <| hthen <| hseq <| hreg <| hy (fun _ => y_move rfl) <| hy (fun _ => y_nilp rfl) <| hy (fun _ => y_fld rfl fa165_1 (by decide)) <| hy (fun m => y_ld1 rfl ag157 (ld_blk (m.blk 0 rfl) rfl)) <| hy (fun m => y_lenM rfl Tryd.underlying157 (m.mapX 1 rfl)) <| hy (fun _ => y_assign rfl) <| hend <| hsub (ρ' := [(2, _), (0, _)]) ⟨rfl, rfl, trivial⟩ <| hthen <| hret <| ?_
  refine hleave trivial ?_
  refine hunlock muLib 0 rfl rfl Tryd.call101 ?_
  refine hmemE (fun w m => m.eqX 0 rfl (show _ = RBlk g 165 (scells 0 gm) from rfl)) ?_
  refine hmemE (X' := RSrv g gm l :: _) (fun w m => (m.perm (takeR_perm [0, 0, 0] _ [_, _, _] _ rfl)).pack) ?_
  have hfl : (frs l).length = l.length := by simp [frs]
  rw [hfl]
  exact hlast1 rfl rfl [0] rfl [] rfl ⟨rfl, rfl, rfl⟩
theorem shasC {g gm : Nat} {l : Frames} {nm : Dg} : Con Tryd.prog 55 [.pointer (some ⟨g, 0, none⟩), DK nm] [RSrv g gm l] [] (fun v_ X_ S_ => v_ = (.bool (aget l nm).isSome) ∧ X_ = [RSrv g gm l] ∧ S_ = []) := by
  refine henter (N := 14) Tryd.func55 rfl rfl (by simp) fun b => ?_
  refine hseq <| hreg <| ?_
  refine hx (xh_box rfl (fun g3 => ?_))
  refine hmemL (fun w m => m.eqX 0 rfl (show _ = RBlk g3 23 (b8s nm.1) from congrArg (RBlk _ _) (cells_agg _))) ?_
  refine hy (fun _ => y_assign rfl) <| hend <| hmemQ (X' := [_, _]) (S' := []) (fun _ m => m) <| hthen <| hseq <| hreg <| hy (fun _ => y_move rfl) <| hy (fun m => yV (y_ldN rfl ag23 sz23 (by rw [b8s_length]; exact nm.2) ((m.blk 0 rfl).cells0)) ((rfl : Value.agg _ = DK nm))) <| ?_
  refine hx (xh_call rfl Tryd.call102 (sgetC (nm := nm)) [1] rfl [] rfl ?_)
  rintro _ _ _ ⟨rfl, rfl, rfl⟩
  refine hy (fun _ => y_move rfl) <| hy (fun _ => y_extract rfl rfl) <| hy (fun _ => y_extract rfl rfl) <| hy (fun _ => y_assign rfl) <| hy (fun _ => y_assign rfl) <| hend <| hsub (ρ' := [(6, _), (4, _), (3, _), (0, _), (1, _)]) ⟨rfl, rfl, rfl, rfl, rfl, trivial⟩ <| hmemQ (X' := [_, _]) (S' := []) (fun _ m => m) <| hthen <| hseq <| hreg <| hy (fun _ => y_move rfl) <| hy (fun _ => y_assign rfl) <| hend <| hsub (ρ' := [(4, _), (6, _), (3, _), (0, _), (1, _)]) ⟨rfl, rfl, rfl, rfl, rfl, trivial⟩ <| hthen <| hret <| ?_
  exact hret1 trivial rfl rfl [0] rfl [] rfl ⟨rfl, rfl, rfl⟩
theorem sdropC {g gm : Nat} {l : Frames} {nm : Dg} : Con Tryd.prog 50 [.pointer (some ⟨g, 0, none⟩), DK nm] [RSrv g gm l] [] (fun v_ X_ S_ => v_ = (.bool (aget l nm).isSome) ∧ X_ = [RSrv g gm (adel l nm)] ∧ S_ = []) := by
  refine henterD (N := 22) Tryd.func50 rfl rfl (by simp) fun b => ?_
  refine hseq <| hreg <| ?_
  refine hx (xh_box rfl (fun g3 => ?_))
  refine hmemL (fun w m => m.eqX 0 rfl (show _ = RBlk g3 23 (b8s nm.1) from congrArg (RBlk _ _) (cells_agg _))) ?_
  refine hy (fun _ => y_assign rfl) <| hend <| hmemQ (X' := [_, _]) (S' := []) (fun _ m => m) <| hthen <| hseq <| hreg <| hy (fun _ => y_move rfl) <| hy (fun m => yV (y_ldN rfl ag23 sz23 (by rw [b8s_length]; exact nm.2) ((m.blk 0 rfl).cells0)) ((rfl : Value.agg _ = DK nm))) <| ?_
  refine hx (xh_call rfl Tryd.call55 (shasC (nm := nm)) [1] rfl [] rfl ?_)
  rintro _ _ _ ⟨rfl, rfl, rfl⟩
  refine hmemL (fun w m => (m.perm (takeR_perm [0] _ [_] _ rfl)).unpack) ?_
  refine hy (fun _ => y_assign rfl) <| hend <| hsub (ρ' := [(5, _), (4, _), (3, _), (0, _), (1, _)]) ⟨rfl, rfl, rfl, rfl, rfl, trivial⟩ <| hmemQ (X' := [_, _, _, _]) (S' := []) (fun _ m => m) <| hthen <| hseq <| hreg <| hy (fun _ => y_move rfl) <| hy (fun _ => y_nilp rfl) <| hy (fun _ => y_fld rfl fa165_0 (by decide)) <| ?_
  refine hx (xh_call rfl Tryd.call100 (muLockC) [0] rfl [] rfl ?_)
  rintro _ _ _ ⟨rfl, rfl, rfl⟩
  refine hend <| hsub (ρ' := [(5, _), (4, _), (3, _), (0, _), (1, _)]) ⟨rfl, rfl, rfl, rfl, rfl, trivial⟩ <| hmemQ (X' := [_, _, _, _]) (S' := []) (fun _ m => m) <| hthen <| hseq <| hreg <| hy (fun _ => y_move rfl) <| hy (fun _ => y_nilp rfl) <| hy (fun _ => y_fld rfl fa165_0 (by decide)) <| hdefer rfl <| hend <| hsub (ρ' := [(5, _), (4, _), (3, _), (0, _), (1, _)]) ⟨rfl, rfl, rfl, rfl, rfl, trivial⟩ <| hthen <| hseq <| hdrw [5] [(0, some 0), (1, some 0), (2, some 0), (3, some 0), (4, some 0), (5, none)] (by kernel_rfl) (by kernel_rfl) rfl 0 <| htyU (y_move rfl) <| htyU (y_nilp rfl) <| htyU (y_fld rfl fa165_1 (by decide)) <| hty (fun m => y_ld1 rfl ag157 (ld_blk (m.blk 0 rfl) rfl)) <| hty (fun m => yV (y_ldN rfl ag23 sz23 (by rw [b8s_length]; exact nm.2) ((m.blk 3 rfl).cells0)) ((rfl : Value.agg _ = DK nm))) <| ?_
  refine htx0 (xh_mapdel (enc := DK) (k := nm) 1 rfl rfl rfl Tryd.underlying157 (digKey rfl Tryd.underlying23 Tryd.underlying5 (by kernel_rfl) (by kernel_rfl) (by kernel_rfl)) ⟨(fun h => absurd h (by decide)), ?_⟩)
  refine htend <| hsub (ρ' := [(5, _), (4, _), (3, _), (0, _), (1, _)]) ⟨rfl, rfl, rfl, rfl, rfl, trivial⟩ <| hmemQ (X' := [_, _, _, _]) (S' := []) (fun _ m => m) <| hthen <| hseq <| hreg <| hy (fun _ => y_move rfl) <| hy (fun _ => y_assign rfl) <| hend <| hsub (ρ' := [(4, _), (5, _), (3, _), (0, _), (1, _)]) ⟨rfl, rfl, rfl, rfl, rfl, trivial⟩ <| hthen <| hret <| ?_
  refine hleave trivial ?_
  refine hunlock muLib 1 rfl rfl Tryd.call101 ?_
  refine hmemE (fun w m => m.eqX 0 rfl (show _ = RBlk g 165 (scells 0 gm) from rfl)) ?_
  refine hmemE (fun w m => m.eqX 1 rfl (show _ = RMap DK gm (frs (adel l nm)) from congrArg (RMap DK gm) (frs_del nm l))) ?_
  refine hmemE (X' := RRows ((adel l nm).map (·.2)) :: _) (fun w m => (m.perm (takeR_perm [2] _ [_] _ rfl)).rowSub (adel_rows)) ?_
  refine hmemE (X' := RSrv g gm (adel l nm) :: _) (fun w m => (m.perm (takeR_perm [2, 1, 0] _ [_, _, _] _ rfl)).pack) ?_
  exact hlast1 rfl rfl [0] rfl [] rfl ⟨rfl, rfl, rfl⟩
theorem saddC {g gm : Nat} {A : Option Addr} {n c : Nat} {bb : List UInt8} {l : Frames} (hc : n ≤ c) (hn : n ≤ 4096) (hl : bb.length = n) : Con Tryd.prog 47 [.pointer (some ⟨g, 0, none⟩), .slice A n c] [RSrv g gm l] [RRd 1 A n (b8s bb), RRoots] (fun v_ X_ S_ => ∃ row, v_ = (.tuple #[.agg (b8s (shaL bb)).toArray, .int .i64 0]) ∧ X_ = [RSrv g gm (aput l ⟨shaL bb, shaL_length bb⟩ row)] ∧ S_ = [] ∧ (row.l = sealL bb ∧ row.n = (sealL bb).length)) := by
  have h32 : (b8s (shaL bb)).length = 32 := by rw [b8s_length, shaL_length]
  refine henterD (N := 28) Tryd.func47 rfl rfl (by simp) fun b => ?_
  refine hfactC (fun m => rdB (m.rd 0 rfl)) ?_
  rintro ⟨hl_r, hA_r⟩
  refine hseq <| hreg <| ?_
  refine hx (xh_alloc ti23 (fun g4 => ?_))
  refine hy (fun _ => y_assign rfl) <| hend <| hmemQ (X' := [_, _]) (S' := [_, _]) (fun _ m => m) <| hthen <| hseq <| hseq <| hreg <| hy (fun _ => y_move rfl) <| hy (fun _ => y_lenS rfl Tryd.underlying32) <| hy (fun _ => y_gtr rfl rfl) <| hend <| hsub (ρ' := [(9, _), (5, _), (4, _), (0, _), (1, _)]) ⟨rfl, rfl, rfl, rfl, rfl, trivial⟩ <| hthen <| ?_
  refine hiff rfl ((decide_eq_false (by omega))) ?_
  refine hmemC (fun w m => (m.perm (takeR_perm [1] _ [_] _ rfl)).unpack) ?_
  refine hcskip <| hthen <| hseq <| hreg <| hy (fun _ => y_move rfl) <| hy (fun _ => y_nilp rfl) <| hy (fun _ => y_fld rfl fa165_0 (by decide)) <| ?_
  refine hx (xh_call rfl Tryd.call100 (muLockC) [0] rfl [] rfl ?_)
  rintro _ _ _ ⟨rfl, rfl, rfl⟩
  refine hend <| hsub (ρ' := [(9, _), (5, _), (4, _), (0, _), (1, _)]) ⟨rfl, rfl, rfl, rfl, rfl, trivial⟩ <| hmemQ (X' := [_, _, _, _]) (S' := [_, _]) (fun _ m => m) <| hthen <| hseq <| hreg <| hy (fun _ => y_move rfl) <| hy (fun _ => y_nilp rfl) <| hy (fun _ => y_fld rfl fa165_0 (by decide)) <| hdefer rfl <| hend <| hsub (ρ' := [(9, _), (5, _), (4, _), (0, _), (1, _)]) ⟨rfl, rfl, rfl, rfl, rfl, trivial⟩ <| hthen <| hseq <| hreg <| hy (fun _ => y_move rfl) <| ?_
  refine hx (xh_call rfl Tryd.call82 (shaSumC (by omega)) [] rfl [0, 1] rfl ?_)
  rintro _ _ _ ⟨rfl, rfl, rfl⟩
  refine hx (xh_alloc ti23 (fun g6 => ?_))
  refine hx0 (xh_stA 0 rfl rfl rfl sz23 h32 b8s_one rfl ?_)
  refine hend <| hsub (ρ' := [(6, _), (9, _), (5, _), (4, _), (0, _), (1, _)]) ⟨rfl, rfl, rfl, rfl, rfl, rfl, trivial⟩ <| hmemQ (X' := [_, _, _, _, _]) (S' := [_, _]) (fun _ m => m) <| hthen <| hseq <| hdrw [6, 7] [(0, some 1), (1, some 1), (2, some 1), (3, some 1), (4, some 1), (5, some 0), (6, none), (7, none)] (by kernel_rfl) (by kernel_rfl) rfl 1 <| htyU (y_move rfl) <| htyU (y_nilp rfl) <| htyU (y_fld rfl fa165_1 (by decide)) <| hty (fun m => y_ld1 rfl ag157 (ld_blk (m.blk 1 rfl) rfl)) <| hty (fun m => yV (y_ldN rfl ag23 sz23 h32 ((m.blk 0 rfl).cells0)) ((rfl : Value.agg _ = DK ⟨shaL bb, shaL_length bb⟩))) <| htyU (y_move rfl) <| ?_
  refine htx (xh_call rfl Tryd.call95 (sealC (by omega) (by omega) hl) [] rfl [0] rfl ?_)
  rintro _ _ _ ⟨v, rfl, rfl, rfl⟩
  refine ⟨(fun _ => wk [1, 1, 1, 1, 1] [0, 1] rfl rfl), ?_⟩
  refine htfact (fun m => (m.own 0 rfl).slice) ?_
  rintro ⟨A_x, c_x, rfl, hc_x⟩
  refine htfact (fun m => (m.ord 0 rfl).2.1) fun hA_x => ?_
  refine htx0 (xh_mapup (enc := DK) (k := ⟨shaL bb, shaL_length bb⟩) 3 rfl rfl rfl rfl Tryd.underlying157 (digKey rfl Tryd.underlying23 Tryd.underlying5 (by kernel_rfl) (by kernel_rfl) (by kernel_rfl)) ⟨(fun h => absurd h (by decide)), ?_⟩)
  refine htend <| hsub (ρ' := [(6, _), (9, _), (5, _), (4, _), (0, _), (1, _)]) ⟨rfl, rfl, rfl, rfl, rfl, rfl, trivial⟩ <| hmemQ (X' := [_, _, _, _, _, _]) (S' := [_, _]) (fun _ m => m) <| hthen <| hseq <| hreg <| hy (fun m => y_ldN rfl ag23 sz23 h32 ((m.blk 2 rfl).cells0)) <| ?_
  refine hx0 (xh_stA 5 rfl rfl rfl sz23 h32 b8s_one rfl ?_)
  refine hy (fun _ => y_assign rfl) <| hend <| hsub (ρ' := [(5, _), (6, _), (9, _), (4, _), (0, _), (1, _)]) ⟨rfl, rfl, rfl, rfl, rfl, rfl, trivial⟩ <| hmemQ (X' := [_, _, _, _, _, _]) (S' := [_, _]) (fun _ m => m) <| hthen <| hret <| ?_
  refine hleave trivial ?_
  refine hunlock muLib 4 rfl rfl Tryd.call101 ?_
  refine hmemE (fun w m => m.eqX 0 rfl (show _ = RBlk g 165 (scells 0 gm) from rfl)) ?_
  refine hmemE (fun w m => m.eqX 2 rfl (show _ = RMap DK gm (frs (aput l ⟨shaL bb, shaL_length bb⟩ ⟨A_x, (sealL bb).length, c_x, sealL bb⟩)) from congrArg (RMap DK gm) (frs_put _ ⟨A_x, (sealL bb).length, c_x, sealL bb⟩ l))) ?_
  refine hmemE (X' := RRows ((aput l ⟨shaL bb, shaL_length bb⟩ ⟨A_x, (sealL bb).length, c_x, sealL bb⟩).map (·.2)) :: _) (fun w m => (m.perm (takeR_perm [5, 3] _ [_, _] _ rfl)).rowAdd (aput_rows)) ?_
  refine hmemE (X' := RSrv g gm (aput l ⟨shaL bb, shaL_length bb⟩ ⟨A_x, (sealL bb).length, c_x, sealL bb⟩) :: _) (fun w m => (m.perm (takeR_perm [2, 1, 0] _ [_, _, _] _ rfl)).pack) ?_
  exact hlastN1 rfl rfl rfl ag23 sz23 h32 (fun m => (m.blk 1 rfl).cells0) [0] rfl [] rfl ⟨_, rfl, rfl, rfl, ⟨rfl, rfl⟩⟩
end Go.Proofs.YtfikjheicjamhaaDoor
end
section
/- Contracts of layer 1 in other seats: texts of digests, and back; errors.Is (as in my Hexa texts). -/
set_option linter.unusedVariables false
set_option linter.unusedSimpArgs false
set_option maxRecDepth 20000
namespace Go.Proofs.YtfikjheicjamhaaDoor
open Go.Eng Go.Hx Go.Extern
theorem text (A : Option Addr) (n c : Nat) (l : List UInt8) (w : World) (hr : Rd w 1 A n (b8s l)) (hn : n ≤ 70368744177664) :
    Calls Tryd.prog 135 #[.slice A n c] w fun e w' => e = .returned (.string (strOf (hexs l))) ∧ Fr No w w' := by
  have hl : l.length = n := by have := hr.1; rw [b8s_length] at this; omega
  refine enter (N := 28) Tryd.func135 rfl rfl (by simp) ?_
  refine cseq <| creg <| nq (y_assign rfl) <| nend <| qthen <| cseq <| creg <| nq (y_assign rfl) <| nend <| qthen <| cseq <| cseq <| creg <| nq (y_move rfl) <| nq (y_lenS rfl Tryd.underlying32) <| nq (y_move rfl) <| nend <| qsub (sub_cons (t := 7) rfl <| sub_cons (t := 6) rfl <| sub_cons (t := 3) rfl <| sub_cons (t := 2) rfl <| sub_cons (t := 0) rfl <| sub_nil) <| qthen <| cblock <| ?_
  refine cloop2 (fun k _ => n - k) (fun k v => [(0, .slice A n c), (3, v), (6, .int .i64 n), (7, .int .i64 (k : Nat))]) (fun k v w' => k ≤ n ∧ Go.Eng.Own w' w.heap.size 5 1 v (2 * k) (b8s (hexs (l.take k))) ∧ Fr No w w') 0 (.slice none 0 0) (⟨Nat.zero_le _, Own.nil w w.heap.size _ 1, Fr.refl _ _⟩) (sub_cons (t := 0) rfl <| sub_cons (t := 3) rfl <| sub_cons (t := 6) rfl <| sub_cons (t := 7) rfl <| sub_nil) (fun k v w1 ⟨hk, ho, hf⟩ => ?_)
  refine cseq <| creg <| nq (y_lss rfl rfl) <| nend <| qthen <| cseq <| ?_
  refine cif rfl (fun h => ?_) (fun h => ?_)
  · have hkn : k < n := by omega
    have hb := (l.getD k 0).toNat_lt
    refine cskip <| qthen <| cseq <| cblock <| cseq <| creg <| nq (y_move rfl) <| nq (y_assign rfl) <| nend <| qsub (sub_cons (t := 4) rfl <| sub_cons (t := 8) rfl <| sub_cons (t := 0) rfl <| sub_cons (t := 3) rfl <| sub_cons (t := 6) rfl <| sub_cons (t := 7) rfl <| sub_nil) <| qthen <| ?_
    refine cdrw [(0, false), (1, false), (2, false), (3, false), (4, false), (5, false), (6, false), (7, false), (8, false), (9, false), (10, false), (11, false), (12, false), (13, true), (14, true), (15, false)] (by kernel_rfl) (by kernel_rfl) rfl (fun w' => Fr No w w') (hf.trans0 (Fr.drew _)) (fun w2 hf2 hS2 => ?_)
    refine sq (fun w_ hS_ => y_move rfl) <| sq (fun w_ hS_ => y_move rfl) <| sq (fun w_ hS_ => y_move rfl) <| sq (fun w_ hS_ => y_idxS1 rfl rfl Tryd.underlying32 sz5 hr.2.1 rfl (by omega)) <| sq (fun w_ hS_ => y_ld1 rfl ag5 (((hr.fr0 hS_).cell (b8s_get (by omega))))) <| sq (fun w_ hS_ => y_shr (p := 16) rfl rfl (by decide) (by decide) (by decide)) <| sq (fun w_ hS_ => y_idxStr rfl rfl Tryd.underlying9 rfl ((hexd_hi _))) <| sq (fun w_ hS_ => y_move rfl) <| sq (fun w_ hS_ => y_move rfl) <| sq (fun w_ hS_ => y_idxS1 rfl rfl Tryd.underlying32 sz5 hr.2.1 rfl (by omega)) <| sq (fun w_ hS_ => y_ld1 rfl ag5 (((hr.fr0 hS_).cell (b8s_get (by omega))))) <| sq (fun w_ hS_ => y_bits (by simp) rfl rfl ((and15 _))) <| sq (fun w_ hS_ => y_idxStr rfl rfl Tryd.underlying9 rfl ((hexd_lo _))) <| ?_
    refine sx (x_bsl Tryd.underlying32 ti5 rfl rfl rfl (by simp [Value.cells, B8]) (by decide) (by decide) fun g w3 hg hf3 hb3 => ?_)
    have hS3 : Fr No w w3 := hS2.trans0 hf3
    refine ⟨hS3, ?_⟩
    refine sx (x_app rfl rfl Tryd.underlying32 Tryd.underlying32 (by exact .inl rfl) ti5 rfl (ho.fr0 (hf2.trans0 hf3)) (Src.of_rd (Own.rd (Own.made hb3 (Nat.le_refl _) (Nat.le_refl _) (by decide) (by rfl))).2.2) (by simp [Value.cells]; exact ⟨rfl, rfl⟩) (by unfold maxLen; omega) (by omega) hS3.size fun v4 w4 ho4 hf4 hv4 => ?_)
    have hS4 : Fr No w w4 := hS3.new hf4 (fun i hi => (ho.from hi).1)
    refine ⟨hS4, ?_⟩
    refine sq (fun w_ hS_ => y_assign rfl) <| send <| qsub (sub_cons (t := 3) rfl <| sub_cons (t := 4) rfl <| sub_cons (t := 8) rfl <| sub_cons (t := 0) rfl <| sub_cons (t := 6) rfl <| sub_cons (t := 7) rfl <| sub_nil) <| qblock <| qthen <| creg <| nq (y_add rfl rfl (w64 (by omega) (by omega))) <| nq (y_move rfl) <| nend <| qsub (sub_cons (t := 7) rfl <| sub_cons (t := 3) rfl <| sub_cons (t := 4) rfl <| sub_cons (t := 8) rfl <| sub_cons (t := 0) rfl <| sub_cons (t := 6) rfl <| sub_nil) <| ?_
    refine qloop2 (k + 1) v4 (sub_cons (t := 0) rfl <| sub_cons (t := 3) rfl <| sub_cons (t := 6) rfl <| sub_cons (t := 7) rfl <| sub_nil) (⟨by omega, ?_, hS4⟩) (by omega)
    have e1 : 2 * k + 2 = 2 * (k + 1) := by omega
    have e2 : hexs (l.take (k + 1)) = hexs (l.take k) ++ hex1 (l.getD k 0) := hexs_snoc (by omega)
    rw [e1] at ho4
    rw [e2, b8s_append]
    exact ho4
  · obtain rfl : k = n := by omega
    obtain ⟨A', c', rfl, hc'⟩ := ho.slice
    have hro := (Own.rd ho).2.2
    rw [List.take_of_length_le (by omega)] at hro
    refine cexit <| qthen_exit <| qthen_exit <| qblock_exit <| qthen <| cseq <| creg <| nq (y_move rfl) <| nq (y_b2s rfl Tryd.underlying32 Tryd.underlying5 Tryd.underlying9 hro) <| nq (y_assign rfl) <| nend <| qsub (sub_cons (t := 2) rfl <| sub_cons (t := 8) rfl <| sub_cons (t := 0) rfl <| sub_cons (t := 3) rfl <| sub_cons (t := 6) rfl <| sub_cons (t := 7) rfl <| sub_nil) <| qthen <| cret <| ?_
    exact ret1 trivial rfl rfl ⟨rfl, hf⟩
theorem name (a : List UInt8) (w : World) (ha : a.length = 32) :
    Calls Tryd.prog 90 #[.agg (b8s a).toArray] w fun e w' => e = .returned (.string (strOf (hexs a))) ∧ Fr No w w' := by
  refine enter (N := 5) Tryd.func90 rfl rfl (by simp) ?_
  refine cseq <| creg <| ?_
  refine nx (x_box rfl fun g1 w1 hg1 hf1 hb1 => ?_)
  rw [cells_agg] at hb1
  refine nq (y_assign rfl) <| nend <| qthen <| cseq <| creg <| nq (y_slArr rfl Tryd.underlying23 sz5) <| ?_
  refine nx (x_call rfl Tryd.call135 (text _ _ _ a _ (Rd.of_blk hb1 (by rw [b8s_length]; omega)) (by omega)) ?_)
  rintro e_ w2 ⟨rfl, hf2⟩
  refine ⟨_, rfl, ?_⟩
  refine nq (y_assign rfl) <| nend <| qsub (sub_cons (t := 2) rfl <| sub_cons (t := 1) rfl <| sub_cons (t := 0) rfl <| sub_nil) <| qthen <| cret <| ?_
  exact ret1 trivial rfl rfl ⟨rfl, hf1.trans0 hf2⟩
/-- so many bytes, made of any -/
def fill (l : List UInt8) (n : Nat) : List UInt8 := (List.range n).map fun i => l.getD (i % l.length) 0
theorem fill_succ (l : List UInt8) (n : Nat) : fill l (n + 1) = fill l n ++ [l.getD (n % l.length) 0] := by simp [fill, List.range_succ]
theorem fill_c (A : Option Addr) (n c : Nat) (l : List UInt8) (m : Nat) (w : World) (hr : Rd w 1 A n (b8s l)) (hn : n ≤ 140737488351232) (hm : m ≤ 1000000) :
    Calls Tryd.prog 99 #[.slice A n c, .int .i64 (m : Int)] w fun e w' => ∃ v, e = .returned v ∧ Go.Eng.Own w' w.heap.size 5 1 v m (b8s (fill l m)) ∧ Fr No w w' := by
  have hl : l.length = n := by have := hr.1; rw [b8s_length] at this; omega
  refine enter (N := 29) Tryd.func99 rfl rfl (by simp) ?_
  refine cseq <| creg <| nq (y_assign rfl) <| nend <| qthen <| cseq <| creg <| nq (y_assign rfl) <| nend <| qthen <| cseq <| cseq <| creg <| nq (y_assign rfl) <| nend <| qthen <| cblock <| ?_
  refine cloop2 (fun k _ => m - k) (fun k v => [(0, .slice A n c), (1, .int .i64 (m : Int)), (5, v), (6, .int .i64 (k : Nat))]) (fun k v w' => k ≤ m ∧ Go.Eng.Own w' w.heap.size 5 1 v k (b8s (fill l k)) ∧ Fr No w w') 0 (.slice none 0 0) (⟨Nat.zero_le _, Own.nil w w.heap.size _ 1, Fr.refl _ _⟩) (sub_cons (t := 0) rfl <| sub_cons (t := 1) rfl <| sub_cons (t := 5) rfl <| sub_cons (t := 6) rfl <| sub_nil) (fun k v w2 ⟨hk, ho, hf⟩ => ?_)
  refine cseq <| cseq <| creg <| nq (y_move rfl) <| nq (y_move rfl) <| nq (y_lss rfl rfl) <| nend <| qsub (sub_cons (t := 9) rfl <| sub_cons (t := 0) rfl <| sub_cons (t := 1) rfl <| sub_cons (t := 5) rfl <| sub_cons (t := 6) rfl <| sub_nil) <| qthen <| ?_
  refine cif rfl (fun h => ?_) (fun h => ?_)
  · refine cskip <| qthen <| cseq <| cblock <| cseq <| creg <| nq (y_move rfl) <| nq (y_lenS rfl Tryd.underlying32) <| nq (y_gtr rfl rfl) <| nend <| qsub (sub_cons (t := 14) rfl <| sub_cons (t := 9) rfl <| sub_cons (t := 0) rfl <| sub_cons (t := 1) rfl <| sub_cons (t := 5) rfl <| sub_cons (t := 6) rfl <| sub_nil) <| qthen <| ?_
    refine cif rfl (fun h2 => ?_) (fun h2 => ?_)
    · have hkn : k % n < n := Nat.mod_lt _ (by omega)
      have ga := b8s_get (l := l) (i := k % n) (by omega)
      have r2 := hr.fr0 hf
      refine creg <| nq (y_move rfl) <| nq (y_move rfl) <| nq (y_move rfl) <| nq (y_move rfl) <| nq (y_lenS rfl Tryd.underlying32) <| nq (y_rem rfl rfl (by omega) (by omega)) <| nq (y_idxS1 rfl rfl Tryd.underlying32 sz5 r2.2.1 (show ((k % n : Nat) : Int) = _ by omega) (by omega)) <| nq (y_ld1 rfl ag5 (r2.cell ga)) <| ?_
      refine nx (x_bsl Tryd.underlying32 ti5 rfl rfl rfl (by simp [Value.cells, B8]) (by decide) (by decide) fun g w3 hg hf3 hb3 => ?_)
      refine nx (x_app rfl rfl Tryd.underlying32 Tryd.underlying32 (by exact .inl rfl) ti5 rfl (ho.fr0 hf3) (Src.of_blk hb3 rfl) (b8s_one (l := [_])) (by unfold maxLen; omega) (by omega) (hf.trans0 hf3).size fun v4 w4 ho4 hf4 hv4 => ?_)
      refine nq (y_assign rfl) <| nend <| qsub (sub_cons (t := 5) rfl <| sub_cons (t := 14) rfl <| sub_cons (t := 9) rfl <| sub_cons (t := 0) rfl <| sub_cons (t := 1) rfl <| sub_cons (t := 6) rfl <| sub_nil) <| qblock <| qthen <| creg <| nq (y_move rfl) <| nq (y_add rfl rfl (w64 (by omega) (by omega))) <| nq (y_assign rfl) <| nend <| qsub (sub_cons (t := 6) rfl <| sub_cons (t := 5) rfl <| sub_cons (t := 14) rfl <| sub_cons (t := 9) rfl <| sub_cons (t := 0) rfl <| sub_cons (t := 1) rfl <| sub_nil) <| ?_
      refine qloop2 (k + 1) v4 (sub_cons (t := 0) rfl <| sub_cons (t := 1) rfl <| sub_cons (t := 5) rfl <| sub_cons (t := 6) rfl <| sub_nil) (⟨by omega, by rw [fill_succ, b8s_append, hl]; exact ho4, (hf.trans0 hf3).new hf4 (fun i hi => (ho.from hi).1)⟩) (by omega)
    · have h0 : l = [] := List.eq_nil_of_length_eq_zero (by omega)
      refine creg <| nq (y_move rfl) <| ?_
      refine nx (x_bsl Tryd.underlying32 ti5 rfl rfl rfl (by simp [Value.cells, B8]) (by decide) (by decide) fun g w3 hg hf3 hb3 => ?_)
      refine nx (x_app rfl rfl Tryd.underlying32 Tryd.underlying32 (by exact .inl rfl) ti5 rfl (ho.fr0 hf3) (Src.of_blk hb3 rfl) (b8s_one (l := [0])) (by unfold maxLen; omega) (by omega) (hf.trans0 hf3).size fun v4 w4 ho4 hf4 hv4 => ?_)
      refine nq (y_assign rfl) <| nend <| qsub (sub_cons (t := 5) rfl <| sub_cons (t := 14) rfl <| sub_cons (t := 9) rfl <| sub_cons (t := 0) rfl <| sub_cons (t := 1) rfl <| sub_cons (t := 6) rfl <| sub_nil) <| qblock <| qthen <| creg <| nq (y_move rfl) <| nq (y_add rfl rfl (w64 (by omega) (by omega))) <| nq (y_assign rfl) <| nend <| qsub (sub_cons (t := 6) rfl <| sub_cons (t := 5) rfl <| sub_cons (t := 14) rfl <| sub_cons (t := 9) rfl <| sub_cons (t := 0) rfl <| sub_cons (t := 1) rfl <| sub_nil) <| ?_
      refine qloop2 (k + 1) v4 (sub_cons (t := 0) rfl <| sub_cons (t := 1) rfl <| sub_cons (t := 5) rfl <| sub_cons (t := 6) rfl <| sub_nil) (⟨by omega, by rw [fill_succ, b8s_append, h0]; rw [h0] at ho4; exact ho4, (hf.trans0 hf3).new hf4 (fun i hi => (ho.from hi).1)⟩) (by omega)
  · obtain rfl : k = m := by omega
    refine cexit <| qthen_exit <| qthen_exit <| qblock_exit <| qthen <| cseq <| creg <| nq (y_move rfl) <| nq (y_assign rfl) <| nend <| qsub (sub_cons (t := 4) rfl <| sub_cons (t := 9) rfl <| sub_cons (t := 0) rfl <| sub_cons (t := 1) rfl <| sub_cons (t := 5) rfl <| sub_cons (t := 6) rfl <| sub_nil) <| qthen <| cret <| ?_
    exact ret1 trivial rfl rfl ⟨v, rfl, ho, hf⟩
end Go.Proofs.YtfikjheicjamhaaDoor
end
section
/- Contracts over things in memory: texts of digests, errors. -/
set_option linter.unusedVariables false
set_option linter.unusedSimpArgs false
set_option maxRecDepth 20000
namespace Go.Proofs.YtfikjheicjamhaaDoor
open Go.Eng Go.Hx
theorem fillC {A : Option Addr} {n c : Nat} {l : List UInt8} {k : Nat} (hn : n ≤ 140737488351232) (hk : k ≤ 1000000) : Con Tryd.prog 99 [.slice A n c, .int .i64 (k : Nat)] [] [RRd 1 A n (b8s l)] (fun v_ X_ S_ => ∃ v, v_ = v ∧ X_ = [ROwn 5 1 v k (b8s (fill l k))] ∧ S_ = []) := by
  exact con_own1 fun m => Calls.mono (fill_c A n c l k _ (m.rd 0 rfl) hn hk) (fun e w' ⟨v, h, ho, hf⟩ => ⟨v, v, _, _, _, _, h, ⟨v, rfl, rfl, rfl⟩, ho, hf⟩)
end Go.Proofs.YtfikjheicjamhaaDoor
end
section
/- Contracts: the document's bytes in fewer (layer 5): packing. -/
set_option linter.unusedVariables false
set_option linter.unusedSimpArgs false
set_option maxRecDepth 20000
set_option maxHeartbeats 2000000
namespace Go.Proofs.YtfikjheicjamhaaDoor
open Go.Eng Go.Hx
def mv (s : Nat × Nat) : List Value := [.int .i64 (s.1 : Nat), .int .i64 (s.2 : Nat)]
theorem mv_one {s : Nat × Nat} : ∀ u ∈ mv s, u.oneCell' = true := by
  intro u hu
  simp only [mv, List.mem_cons, List.not_mem_nil, or_false] at hu
  rcases hu with rfl | rfl <;> rfl
theorem rmatchC {A : Option Addr} {n c i : Nat} {l : List UInt8} (hn : n ≤ 1000000000) (hl : l.length = n) (hi : i < n) : Con Tryd.prog 167 [.slice A n c, .int .i64 (i : Nat)] [] [RRd 1 A n (b8s l)] (fun v_ X_ S_ => v_ = (.agg (mv (matchL l i)).toArray) ∧ X_ = [] ∧ S_ = []) := by
  refine henter (N := 67) Tryd.func167 rfl rfl (by simp) fun b => ?_
  refine hfactC (fun m => rdB (m.rd 0 rfl)) ?_
  rintro ⟨hl_r, hA_r⟩
  refine hseq <| hreg <| ?_
  refine hx (xh_alloc ti250 (fun g4 => ?_))
  refine hend <| hmemQ (X' := [_]) (S' := [_]) (fun _ m => m) <| hthen <| hseq <| hreg <| ?_
  refine hx (xh_alloc ti250 (fun g5 => ?_))
  refine hend <| hmemQ (X' := [_, _]) (S' := [_]) (fun _ m => m) <| hthen <| hseq <| hseq <| hreg <| hy (fun _ => y_move rfl) <| hy (fun _ => y_lss rfl rfl) <| hy (fun _ => y_move rfl) <| ?_
  refine hsplit 10 rfl (fun h0 => ?_) (fun h0 => ?_)
  · exact absurd h0 (by omega)
  · refine hyg (o := _) rfl rfl rfl (fun _ => y_move rfl) <| hyg (o := _) rfl rfl rfl (fun _ => y_move rfl) <| hyg (o := _) rfl rfl rfl (fun _ => y_lenS rfl Tryd.underlying32) <| hyg (o := _) rfl rfl rfl (fun _ => y_geq rfl rfl) <| hy (fun _ => y_pickF rfl rfl) <| hend <| hsub (ρ' := [(15, _), (5, _), (4, _), (0, _), (1, _)]) ⟨rfl, rfl, rfl, rfl, rfl, trivial⟩ <| hthen <| ?_
    refine hiff rfl ((decide_eq_false (by omega))) ?_
    refine hmemC (fun w m => m.eqX 0 rfl (show _ = RBlk g5 250 (mv (matchK l i 0)) from rfl)) ?_
    refine hmemC (fun w m => m.eqX 1 rfl (show _ = RBlk g4 250 (mv (0, 0)) from rfl)) ?_
    refine hcskip <| hthen <| hseq <| hseq <| hreg <| hy (fun _ => y_assign rfl) <| hend <| hthen <| hblock <| ?_
    refine hloop1 (fun q => 2000 - q) (fun q => [(6, .int .i64 ((q + 1 : Nat) : Int))]) (fun q => [RBlk g5 250 (mv (matchK l i q))]) (fun q => []) (fun q => q ≤ min i 1024) 0 [(15, _), (5, _), (4, _), (0, _), (1, _)] ⟨rfl, rfl, rfl, rfl, rfl, trivial⟩ [1] rfl [] rfl (Nat.zero_le _) ⟨rfl, trivial⟩ (fun q hI => ?_)
    refine hseq <| hseq <| hreg <| hy (fun _ => y_move rfl) <| hy (fun _ => y_move rfl) <| hy (fun _ => y_leq rfl rfl) <| hy (fun _ => y_move rfl) <| ?_
    refine hsplit 20 rfl (fun h1 => ?_) (fun h1 => ?_)
    · refine hyg (o := _) rfl rfl rfl (fun _ => y_move rfl) <| hyg (o := _) rfl rfl rfl (fun _ => y_leq rfl rfl) <| hy (fun _ => y_pickT rfl rfl) <| hend <| hsub (ρ' := [(23, _), (6, _), (15, _), (5, _), (4, _), (0, _), (1, _)]) ⟨rfl, rfl, rfl, rfl, rfl, rfl, rfl, trivial⟩ <| hthen <| ?_
      refine hif rfl (fun h2 => ?_) (fun h2 => ?_)
      · refine hcskip <| hthen <| hseq <| hblock <| hseq <| hreg <| hy (fun _ => y_assign rfl) <| hend <| hthen <| hseq <| hblock <| ?_
        refine hloop1 (fun j => 131 - j) (fun j => [(7, .int .i64 (j : Nat))]) (fun j => []) (fun j => []) (fun j => j ≤ 131 ∧ i + j ≤ n ∧ lngF l i (i - (q + 1)) (131 - j) j = lng l i (i - (q + 1))) 0 [(23, _), (6, _), (15, _), (5, _), (4, _), (0, _), (1, _)] ⟨rfl, rfl, rfl, rfl, rfl, rfl, rfl, trivial⟩ [] rfl [] rfl (⟨by decide, by omega, rfl⟩) ⟨rfl, trivial⟩ (fun j ⟨hj, hij, hL⟩ => ?_)
        refine hseq <| hseq <| hdrw [] [(0, some 0), (1, some 0), (2, some 0), (3, some 0), (4, some 0), (5, some 0), (6, some 0), (7, some 0), (8, some 0), (9, some 0), (10, some 0), (11, some 0), (12, some 0), (13, some 0), (14, some 0), (15, some 0), (16, some 0), (17, some 0), (18, some 0), (19, some 0), (20, some 0), (21, some 0), (22, some 0), (23, some 0), (24, some 0), (25, some 0), (26, some 0)] (by kernel_rfl) (by kernel_rfl) rfl 99 <| htyU (y_move rfl) <| htyU (y_move rfl) <| htyU (y_add rfl rfl (w64 (by omega) (by omega))) <| htyU (y_move rfl) <| htyU (y_lenS rfl Tryd.underlying32) <| htyU (y_lss rfl rfl) <| htyU (y_move rfl) <| ?_
        refine htsplit 32 rfl (fun g1 => ?_) (fun g1 => ?_)
        · refine htyUg (o := _) rfl rfl rfl (y_move rfl) <| htyUg (o := _) rfl rfl rfl (y_lss rfl rfl) <| htyU (y_pickT rfl rfl) <| htyU (y_move rfl) <| ?_
          refine htsplit 36 rfl (fun g2 => ?_) (fun g2 => ?_)
          · refine htyUg (o := _) rfl rfl rfl (y_move rfl) <| htyUg (o := _) rfl rfl rfl (y_move rfl) <| htyUg (o := _) rfl rfl rfl (y_move rfl) <| htyUg (o := _) rfl rfl rfl (y_add rfl rfl (w64 (by omega) (by omega))) <| htyUg (o := _) rfl rfl rfl (y_idxS1 rfl rfl Tryd.underlying32 sz5 hA_r (show ((i + j : Nat) : Int) = _ by omega) (by omega)) <| htyg (o := _) rfl rfl rfl (fun m => y_ld1 rfl ag5 ((m.rd 0 rfl).cell (b8s_get (by omega)))) <| htyUg (o := _) rfl rfl rfl (y_move rfl) <| htyUg (o := _) rfl rfl rfl (y_move rfl) <| htyUg (o := _) rfl rfl rfl (y_move rfl) <| htyUg (o := _) rfl rfl rfl (y_add rfl rfl (w64 (by omega) (by omega))) <| htyUg (o := _) rfl rfl rfl (y_move rfl) <| htyUg (o := _) rfl rfl rfl (yV (y_sub rfl rfl (w64 (by omega) (by omega))) ((show Value.int .i64 ((i : Int) + (j : Int) - ((q + 1 : Nat) : Int)) = .int .i64 ((i - (q + 1) + j : Nat) : Int) by congr 1; omega))) <| htyUg (o := _) rfl rfl rfl (y_idxS1 rfl rfl Tryd.underlying32 sz5 hA_r rfl (by omega)) <| htyg (o := _) rfl rfl rfl (fun m => y_ld1 rfl ag5 ((m.rd 0 rfl).cell (b8s_get (by omega)))) <| htyUg (o := _) rfl rfl rfl (y_eql rfl rfl) <| htyU (y_pickT rfl rfl) <| htend <| hsub (ρ' := [(52, _), (7, _), (23, _), (6, _), (15, _), (5, _), (4, _), (0, _), (1, _)]) ⟨rfl, rfl, rfl, rfl, rfl, rfl, rfl, rfl, rfl, trivial⟩ <| hthen <| ?_
            refine hif rfl (fun g3 => ?_) (fun g3 => ?_)
            · have e3 : l.getD (i + j) 0 = l.getD (i - (q + 1) + j) 0 := UInt8.toNat_inj.1 (by omega)
              rw [lngF_more (by omega) ⟨by omega, e3⟩] at hL
              refine hcskip <| hthen <| hblock <| hreg <| hy (fun _ => y_move rfl) <| hy (fun _ => y_add rfl rfl (w64 (by omega) (by omega))) <| hy (fun _ => y_assign rfl) <| hend <| hsub (ρ' := [(7, _), (52, _), (23, _), (6, _), (15, _), (5, _), (4, _), (0, _), (1, _)]) ⟨rfl, rfl, rfl, rfl, rfl, rfl, rfl, rfl, rfl, trivial⟩ <| hqblock <| ?_
              refine hnext1 (j + 1) ⟨rfl, rfl, rfl, rfl, rfl, rfl, rfl, rfl, trivial⟩ [0, 0] rfl [0] rfl (⟨by omega, by omega, by rw [← hL]; rfl⟩) (by omega)
            · refine hexit <| hthen_exit <| hthen_exit <| hqblock_exit <| hthen <| hseq <| hreg <| hy (fun _ => y_move rfl) <| hy (fun _ => y_gtr rfl rfl) <| hy (fun _ => y_move rfl) <| ?_
              have hL2 : j = lng l i (i - (q + 1)) := (by rw [← hL, lngF_stop (fun e => g3 (by rw [e.2]))])
              subst hL2
              refine hsplit 57 rfl (fun h3 => ?_) (fun h3 => ?_)
              · refine hyg (o := _) rfl rfl rfl (fun _ => y_move rfl) <| hyg (o := _) rfl rfl rfl (fun _ => y_fld rfl fa250_0 (by decide)) <| hyg (o := _) rfl rfl rfl (fun m => y_ld1 rfl ag3 (ld_blk (m.blk 0 rfl) rfl)) <| hyg (o := _) rfl rfl rfl (fun _ => y_gtr rfl rfl) <| hy (fun _ => y_pickT rfl rfl) <| hend <| hsub (ρ' := [(62, _), (52, _), (7, _), (23, _), (6, _), (15, _), (5, _), (4, _), (0, _), (1, _)]) ⟨rfl, rfl, rfl, rfl, rfl, rfl, rfl, rfl, rfl, rfl, trivial⟩ <| hthen <| ?_
                refine hif rfl (fun h4 => ?_) (fun h4 => ?_)
                · refine hreg <| hy (fun _ => y_move rfl) <| hy (fun _ => y_move rfl) <| hy (fun _ => y_build ti250 rfl rfl (by kernel_rfl) (.cons (o := 0) (sz := 1) (by kernel_rfl) rfl rfl (Nat.le_of_ble_eq_true rfl) (.cons (o := 1) (sz := 1) (by kernel_rfl) rfl rfl (Nat.le_of_ble_eq_true rfl) .nil))) <| ?_
                  refine hx0 (xh_stA 0 rfl rfl rfl sz250 rfl (mv_one (s := (lng l i (i - (q + 1)), q + 1))) rfl ?_)
                  have hst : mv (lng l i (i - (q + 1)), q + 1) = mv (matchK l i (q + 1)) := by
                    rw [matchK_succ]
                    unfold mstep
                    rw [if_pos ⟨by omega, by omega⟩]
                  refine hmemL (fun w m => m.eqX 0 rfl (show _ = RBlk g5 250 (mv (matchK l i (q + 1))) from congrArg (RBlk g5 _) hst)) ?_
                  refine hend <| hsub (ρ' := [(62, _), (52, _), (7, _), (23, _), (6, _), (15, _), (5, _), (4, _), (0, _), (1, _)]) ⟨rfl, rfl, rfl, rfl, rfl, rfl, rfl, rfl, rfl, rfl, trivial⟩ <| hmemQ (X' := [_, _]) (S' := [_]) (fun _ m => m) <| hqblock <| hthen <| hreg <| hy (fun _ => y_move rfl) <| hy (fun _ => y_add rfl rfl (w64 (by omega) (by omega))) <| hy (fun _ => y_assign rfl) <| hend <| hsub (ρ' := [(6, _), (62, _), (52, _), (7, _), (23, _), (15, _), (5, _), (4, _), (0, _), (1, _)]) ⟨rfl, rfl, rfl, rfl, rfl, rfl, rfl, rfl, rfl, rfl, trivial⟩ <| ?_
                  refine hnext1 (q + 1) ⟨rfl, rfl, rfl, rfl, rfl, rfl, trivial⟩ [0, 0] rfl [0] rfl ((by omega)) (by omega)
                · have hst : mv (matchK l i q) = mv (matchK l i (q + 1)) := by
                    rw [matchK_succ]
                    unfold mstep
                    rw [if_neg (fun h => by omega)]
                  refine hcskip <| hqblock <| hthen <| hreg <| hy (fun _ => y_move rfl) <| hy (fun _ => y_add rfl rfl (w64 (by omega) (by omega))) <| hy (fun _ => y_assign rfl) <| hend <| hsub (ρ' := [(6, _), (62, _), (52, _), (7, _), (23, _), (15, _), (5, _), (4, _), (0, _), (1, _)]) ⟨rfl, rfl, rfl, rfl, rfl, rfl, rfl, rfl, rfl, rfl, trivial⟩ <| ?_
                  refine hmemQ (fun w m => m.eqX 0 rfl (show _ = RBlk g5 250 (mv (matchK l i (q + 1))) from congrArg (RBlk g5 _) hst)) ?_
                  refine hnext1 (q + 1) ⟨rfl, rfl, rfl, rfl, rfl, rfl, trivial⟩ [0, 0] rfl [0] rfl ((by omega)) (by omega)
              · have hst : mv (matchK l i q) = mv (matchK l i (q + 1)) := by
                  rw [matchK_succ]
                  unfold mstep
                  rw [if_neg (fun h => by omega)]
                refine hskip rfl rfl rfl (by decide) <| hskip rfl rfl rfl (by decide) <| hskip rfl rfl rfl (by decide) <| hskip rfl rfl rfl (by decide) <| hy (fun _ => y_pickF rfl rfl) <| hend <| hsub (ρ' := [(62, _), (52, _), (7, _), (23, _), (6, _), (15, _), (5, _), (4, _), (0, _), (1, _)]) ⟨rfl, rfl, rfl, rfl, rfl, rfl, rfl, rfl, rfl, rfl, trivial⟩ <| hthen <| ?_
                refine hiff rfl (rfl) ?_
                refine hcskip <| hqblock <| hthen <| hreg <| hy (fun _ => y_move rfl) <| hy (fun _ => y_add rfl rfl (w64 (by omega) (by omega))) <| hy (fun _ => y_assign rfl) <| hend <| hsub (ρ' := [(6, _), (62, _), (52, _), (7, _), (23, _), (15, _), (5, _), (4, _), (0, _), (1, _)]) ⟨rfl, rfl, rfl, rfl, rfl, rfl, rfl, rfl, rfl, rfl, trivial⟩ <| ?_
                refine hmemQ (fun w m => m.eqX 0 rfl (show _ = RBlk g5 250 (mv (matchK l i (q + 1))) from congrArg (RBlk g5 _) hst)) ?_
                refine hnext1 (q + 1) ⟨rfl, rfl, rfl, rfl, rfl, rfl, trivial⟩ [0, 0] rfl [0] rfl ((by omega)) (by omega)
          · refine htskip rfl rfl rfl (by decide) <| htskip rfl rfl rfl (by decide) <| htskip rfl rfl rfl (by decide) <| htskip rfl rfl rfl (by decide) <| htskip rfl rfl rfl (by decide) <| htskip rfl rfl rfl (by decide) <| htskip rfl rfl rfl (by decide) <| htskip rfl rfl rfl (by decide) <| htskip rfl rfl rfl (by decide) <| htskip rfl rfl rfl (by decide) <| htskip rfl rfl rfl (by decide) <| htskip rfl rfl rfl (by decide) <| htskip rfl rfl rfl (by decide) <| htskip rfl rfl rfl (by decide) <| htskip rfl rfl rfl (by decide) <| htyU (y_pickF rfl rfl) <| htend <| hsub (ρ' := [(52, _), (7, _), (23, _), (6, _), (15, _), (5, _), (4, _), (0, _), (1, _)]) ⟨rfl, rfl, rfl, rfl, rfl, rfl, rfl, rfl, rfl, trivial⟩ <| hthen <| ?_
            refine hiff rfl (rfl) ?_
            refine hexit <| hthen_exit <| hthen_exit <| hqblock_exit <| hthen <| hseq <| hreg <| hy (fun _ => y_move rfl) <| hy (fun _ => y_gtr rfl rfl) <| hy (fun _ => y_move rfl) <| ?_
            have hL2 : j = lng l i (i - (q + 1)) := (by rw [← hL, show 131 - j = 0 by omega]; rfl)
            subst hL2
            refine hsplit 57 rfl (fun h3 => ?_) (fun h3 => ?_)
            · refine hyg (o := _) rfl rfl rfl (fun _ => y_move rfl) <| hyg (o := _) rfl rfl rfl (fun _ => y_fld rfl fa250_0 (by decide)) <| hyg (o := _) rfl rfl rfl (fun m => y_ld1 rfl ag3 (ld_blk (m.blk 0 rfl) rfl)) <| hyg (o := _) rfl rfl rfl (fun _ => y_gtr rfl rfl) <| hy (fun _ => y_pickT rfl rfl) <| hend <| hsub (ρ' := [(62, _), (52, _), (7, _), (23, _), (6, _), (15, _), (5, _), (4, _), (0, _), (1, _)]) ⟨rfl, rfl, rfl, rfl, rfl, rfl, rfl, rfl, rfl, rfl, trivial⟩ <| hthen <| ?_
              refine hif rfl (fun h4 => ?_) (fun h4 => ?_)
              · refine hreg <| hy (fun _ => y_move rfl) <| hy (fun _ => y_move rfl) <| hy (fun _ => y_build ti250 rfl rfl (by kernel_rfl) (.cons (o := 0) (sz := 1) (by kernel_rfl) rfl rfl (Nat.le_of_ble_eq_true rfl) (.cons (o := 1) (sz := 1) (by kernel_rfl) rfl rfl (Nat.le_of_ble_eq_true rfl) .nil))) <| ?_
                refine hx0 (xh_stA 0 rfl rfl rfl sz250 rfl (mv_one (s := (lng l i (i - (q + 1)), q + 1))) rfl ?_)
                have hst : mv (lng l i (i - (q + 1)), q + 1) = mv (matchK l i (q + 1)) := by
                  rw [matchK_succ]
                  unfold mstep
                  rw [if_pos ⟨by omega, by omega⟩]
                refine hmemL (fun w m => m.eqX 0 rfl (show _ = RBlk g5 250 (mv (matchK l i (q + 1))) from congrArg (RBlk g5 _) hst)) ?_
                refine hend <| hsub (ρ' := [(62, _), (52, _), (7, _), (23, _), (6, _), (15, _), (5, _), (4, _), (0, _), (1, _)]) ⟨rfl, rfl, rfl, rfl, rfl, rfl, rfl, rfl, rfl, rfl, trivial⟩ <| hmemQ (X' := [_, _]) (S' := [_]) (fun _ m => m) <| hqblock <| hthen <| hreg <| hy (fun _ => y_move rfl) <| hy (fun _ => y_add rfl rfl (w64 (by omega) (by omega))) <| hy (fun _ => y_assign rfl) <| hend <| hsub (ρ' := [(6, _), (62, _), (52, _), (7, _), (23, _), (15, _), (5, _), (4, _), (0, _), (1, _)]) ⟨rfl, rfl, rfl, rfl, rfl, rfl, rfl, rfl, rfl, rfl, trivial⟩ <| ?_
                refine hnext1 (q + 1) ⟨rfl, rfl, rfl, rfl, rfl, rfl, trivial⟩ [0, 0] rfl [0] rfl ((by omega)) (by omega)
              · have hst : mv (matchK l i q) = mv (matchK l i (q + 1)) := by
                  rw [matchK_succ]
                  unfold mstep
                  rw [if_neg (fun h => by omega)]
                refine hcskip <| hqblock <| hthen <| hreg <| hy (fun _ => y_move rfl) <| hy (fun _ => y_add rfl rfl (w64 (by omega) (by omega))) <| hy (fun _ => y_assign rfl) <| hend <| hsub (ρ' := [(6, _), (62, _), (52, _), (7, _), (23, _), (15, _), (5, _), (4, _), (0, _), (1, _)]) ⟨rfl, rfl, rfl, rfl, rfl, rfl, rfl, rfl, rfl, rfl, trivial⟩ <| ?_
                refine hmemQ (fun w m => m.eqX 0 rfl (show _ = RBlk g5 250 (mv (matchK l i (q + 1))) from congrArg (RBlk g5 _) hst)) ?_
                refine hnext1 (q + 1) ⟨rfl, rfl, rfl, rfl, rfl, rfl, trivial⟩ [0, 0] rfl [0] rfl ((by omega)) (by omega)
            · have hst : mv (matchK l i q) = mv (matchK l i (q + 1)) := by
                rw [matchK_succ]
                unfold mstep
                rw [if_neg (fun h => by omega)]
              refine hskip rfl rfl rfl (by decide) <| hskip rfl rfl rfl (by decide) <| hskip rfl rfl rfl (by decide) <| hskip rfl rfl rfl (by decide) <| hy (fun _ => y_pickF rfl rfl) <| hend <| hsub (ρ' := [(62, _), (52, _), (7, _), (23, _), (6, _), (15, _), (5, _), (4, _), (0, _), (1, _)]) ⟨rfl, rfl, rfl, rfl, rfl, rfl, rfl, rfl, rfl, rfl, trivial⟩ <| hthen <| ?_
              refine hiff rfl (rfl) ?_
              refine hcskip <| hqblock <| hthen <| hreg <| hy (fun _ => y_move rfl) <| hy (fun _ => y_add rfl rfl (w64 (by omega) (by omega))) <| hy (fun _ => y_assign rfl) <| hend <| hsub (ρ' := [(6, _), (62, _), (52, _), (7, _), (23, _), (15, _), (5, _), (4, _), (0, _), (1, _)]) ⟨rfl, rfl, rfl, rfl, rfl, rfl, rfl, rfl, rfl, rfl, trivial⟩ <| ?_
              refine hmemQ (fun w m => m.eqX 0 rfl (show _ = RBlk g5 250 (mv (matchK l i (q + 1))) from congrArg (RBlk g5 _) hst)) ?_
              refine hnext1 (q + 1) ⟨rfl, rfl, rfl, rfl, rfl, rfl, trivial⟩ [0, 0] rfl [0] rfl ((by omega)) (by omega)
        · refine htskip rfl rfl rfl (by decide) <| htskip rfl rfl rfl (by decide) <| htyU (y_pickF rfl rfl) <| htyU (y_move rfl) <| ?_
          refine htskip rfl rfl rfl (by decide) <| htskip rfl rfl rfl (by decide) <| htskip rfl rfl rfl (by decide) <| htskip rfl rfl rfl (by decide) <| htskip rfl rfl rfl (by decide) <| htskip rfl rfl rfl (by decide) <| htskip rfl rfl rfl (by decide) <| htskip rfl rfl rfl (by decide) <| htskip rfl rfl rfl (by decide) <| htskip rfl rfl rfl (by decide) <| htskip rfl rfl rfl (by decide) <| htskip rfl rfl rfl (by decide) <| htskip rfl rfl rfl (by decide) <| htskip rfl rfl rfl (by decide) <| htskip rfl rfl rfl (by decide) <| htyU (y_pickF rfl rfl) <| htend <| hsub (ρ' := [(52, _), (7, _), (23, _), (6, _), (15, _), (5, _), (4, _), (0, _), (1, _)]) ⟨rfl, rfl, rfl, rfl, rfl, rfl, rfl, rfl, rfl, trivial⟩ <| hthen <| ?_
          refine hiff rfl (rfl) ?_
          refine hexit <| hthen_exit <| hthen_exit <| hqblock_exit <| hthen <| hseq <| hreg <| hy (fun _ => y_move rfl) <| hy (fun _ => y_gtr rfl rfl) <| hy (fun _ => y_move rfl) <| ?_
          have hL2 : j = lng l i (i - (q + 1)) := (by rw [← hL, lngF_stop (fun e => g1 (by omega))])
          subst hL2
          refine hsplit 57 rfl (fun h3 => ?_) (fun h3 => ?_)
          · refine hyg (o := _) rfl rfl rfl (fun _ => y_move rfl) <| hyg (o := _) rfl rfl rfl (fun _ => y_fld rfl fa250_0 (by decide)) <| hyg (o := _) rfl rfl rfl (fun m => y_ld1 rfl ag3 (ld_blk (m.blk 0 rfl) rfl)) <| hyg (o := _) rfl rfl rfl (fun _ => y_gtr rfl rfl) <| hy (fun _ => y_pickT rfl rfl) <| hend <| hsub (ρ' := [(62, _), (52, _), (7, _), (23, _), (6, _), (15, _), (5, _), (4, _), (0, _), (1, _)]) ⟨rfl, rfl, rfl, rfl, rfl, rfl, rfl, rfl, rfl, rfl, trivial⟩ <| hthen <| ?_
            refine hif rfl (fun h4 => ?_) (fun h4 => ?_)
            · refine hreg <| hy (fun _ => y_move rfl) <| hy (fun _ => y_move rfl) <| hy (fun _ => y_build ti250 rfl rfl (by kernel_rfl) (.cons (o := 0) (sz := 1) (by kernel_rfl) rfl rfl (Nat.le_of_ble_eq_true rfl) (.cons (o := 1) (sz := 1) (by kernel_rfl) rfl rfl (Nat.le_of_ble_eq_true rfl) .nil))) <| ?_
              refine hx0 (xh_stA 0 rfl rfl rfl sz250 rfl (mv_one (s := (lng l i (i - (q + 1)), q + 1))) rfl ?_)
              have hst : mv (lng l i (i - (q + 1)), q + 1) = mv (matchK l i (q + 1)) := by
                rw [matchK_succ]
                unfold mstep
                rw [if_pos ⟨by omega, by omega⟩]
              refine hmemL (fun w m => m.eqX 0 rfl (show _ = RBlk g5 250 (mv (matchK l i (q + 1))) from congrArg (RBlk g5 _) hst)) ?_
              refine hend <| hsub (ρ' := [(62, _), (52, _), (7, _), (23, _), (6, _), (15, _), (5, _), (4, _), (0, _), (1, _)]) ⟨rfl, rfl, rfl, rfl, rfl, rfl, rfl, rfl, rfl, rfl, trivial⟩ <| hmemQ (X' := [_, _]) (S' := [_]) (fun _ m => m) <| hqblock <| hthen <| hreg <| hy (fun _ => y_move rfl) <| hy (fun _ => y_add rfl rfl (w64 (by omega) (by omega))) <| hy (fun _ => y_assign rfl) <| hend <| hsub (ρ' := [(6, _), (62, _), (52, _), (7, _), (23, _), (15, _), (5, _), (4, _), (0, _), (1, _)]) ⟨rfl, rfl, rfl, rfl, rfl, rfl, rfl, rfl, rfl, rfl, trivial⟩ <| ?_
              refine hnext1 (q + 1) ⟨rfl, rfl, rfl, rfl, rfl, rfl, trivial⟩ [0, 0] rfl [0] rfl ((by omega)) (by omega)
            · have hst : mv (matchK l i q) = mv (matchK l i (q + 1)) := by
                rw [matchK_succ]
                unfold mstep
                rw [if_neg (fun h => by omega)]
              refine hcskip <| hqblock <| hthen <| hreg <| hy (fun _ => y_move rfl) <| hy (fun _ => y_add rfl rfl (w64 (by omega) (by omega))) <| hy (fun _ => y_assign rfl) <| hend <| hsub (ρ' := [(6, _), (62, _), (52, _), (7, _), (23, _), (15, _), (5, _), (4, _), (0, _), (1, _)]) ⟨rfl, rfl, rfl, rfl, rfl, rfl, rfl, rfl, rfl, rfl, trivial⟩ <| ?_
              refine hmemQ (fun w m => m.eqX 0 rfl (show _ = RBlk g5 250 (mv (matchK l i (q + 1))) from congrArg (RBlk g5 _) hst)) ?_
              refine hnext1 (q + 1) ⟨rfl, rfl, rfl, rfl, rfl, rfl, trivial⟩ [0, 0] rfl [0] rfl ((by omega)) (by omega)
          · have hst : mv (matchK l i q) = mv (matchK l i (q + 1)) := by
              rw [matchK_succ]
              unfold mstep
              rw [if_neg (fun h => by omega)]
            refine hskip rfl rfl rfl (by decide) <| hskip rfl rfl rfl (by decide) <| hskip rfl rfl rfl (by decide) <| hskip rfl rfl rfl (by decide) <| hy (fun _ => y_pickF rfl rfl) <| hend <| hsub (ρ' := [(62, _), (52, _), (7, _), (23, _), (6, _), (15, _), (5, _), (4, _), (0, _), (1, _)]) ⟨rfl, rfl, rfl, rfl, rfl, rfl, rfl, rfl, rfl, rfl, trivial⟩ <| hthen <| ?_
            refine hiff rfl (rfl) ?_
            refine hcskip <| hqblock <| hthen <| hreg <| hy (fun _ => y_move rfl) <| hy (fun _ => y_add rfl rfl (w64 (by omega) (by omega))) <| hy (fun _ => y_assign rfl) <| hend <| hsub (ρ' := [(6, _), (62, _), (52, _), (7, _), (23, _), (15, _), (5, _), (4, _), (0, _), (1, _)]) ⟨rfl, rfl, rfl, rfl, rfl, rfl, rfl, rfl, rfl, rfl, trivial⟩ <| ?_
            refine hmemQ (fun w m => m.eqX 0 rfl (show _ = RBlk g5 250 (mv (matchK l i (q + 1))) from congrArg (RBlk g5 _) hst)) ?_
            refine hnext1 (q + 1) ⟨rfl, rfl, rfl, rfl, rfl, rfl, trivial⟩ [0, 0] rfl [0] rfl ((by omega)) (by omega)
      · have hq : q = min i 1024 := by omega
        subst hq
        refine hexit <| hthen_exit <| hthen_exit <| hqblock_exit <| hthen <| hseq <| hreg <| hy (fun m => y_ldN rfl ag250 sz250 rfl ((m.blk 0 rfl).cells0)) <| ?_
        refine hx0 (xh_stA 1 rfl rfl rfl sz250 rfl mv_one rfl ?_)
        refine hend <| hsub (ρ' := [(23, _), (6, _), (15, _), (5, _), (4, _), (0, _), (1, _)]) ⟨rfl, rfl, rfl, rfl, rfl, rfl, rfl, trivial⟩ <| hmemQ (X' := [_, _]) (S' := [_]) (fun _ m => m) <| hthen <| hret <| ?_
        exact hretN trivial rfl rfl ag250 sz250 rfl (fun m => (m.blk 0 rfl).cells0) [] rfl [] rfl ⟨rfl, rfl, rfl⟩
    · refine hskip rfl rfl rfl (by decide) <| hskip rfl rfl rfl (by decide) <| hy (fun _ => y_pickF rfl rfl) <| hend <| hsub (ρ' := [(23, _), (6, _), (15, _), (5, _), (4, _), (0, _), (1, _)]) ⟨rfl, rfl, rfl, rfl, rfl, rfl, rfl, trivial⟩ <| hthen <| ?_
      refine hiff rfl (rfl) ?_
      have hq : q = min i 1024 := by omega
      subst hq
      refine hexit <| hthen_exit <| hthen_exit <| hqblock_exit <| hthen <| hseq <| hreg <| hy (fun m => y_ldN rfl ag250 sz250 rfl ((m.blk 0 rfl).cells0)) <| ?_
      refine hx0 (xh_stA 1 rfl rfl rfl sz250 rfl mv_one rfl ?_)
      refine hend <| hsub (ρ' := [(23, _), (6, _), (15, _), (5, _), (4, _), (0, _), (1, _)]) ⟨rfl, rfl, rfl, rfl, rfl, rfl, rfl, trivial⟩ <| hmemQ (X' := [_, _]) (S' := [_]) (fun _ m => m) <| hthen <| hret <| ?_
      exact hretN trivial rfl rfl ag250 sz250 rfl (fun m => (m.blk 0 rfl).cells0) [] rfl [] rfl ⟨rfl, rfl, rfl⟩
theorem rlitC {A : Option Addr} {n c : Nat} {l : List UInt8} (hc : n ≤ c) (hn : n ≤ 500000000) (hl : l.length = n) : Con Tryd.prog 168 [.slice A n c] [] [RRd 1 A n (b8s l)] (fun v_ X_ S_ => ∃ v, v_ = v ∧ X_ = [ROwn 5 1 v (litL l).length (b8s (litL l))] ∧ S_ = []) := by
  refine henter (N := 31) Tryd.func168 rfl rfl (by simp) fun b => ?_
  refine hfactC (fun m => rdB (m.rd 0 rfl)) ?_
  rintro ⟨hl_r, hA_r⟩
  refine hseq <| hreg <| hy (fun _ => y_assign rfl) <| hend <| hthen <| hseq <| hreg <| hy (fun _ => y_assign rfl) <| hend <| hthen <| hseq <| hseq <| hreg <| hy (fun _ => y_assign rfl) <| hend <| hthen <| hblock <| ?_
  refine hmemC (fun w m => m.addX (r' := ROwn 5 1 (.slice none 0 0) 0 []) (.refl _ _) (Own.nil _ _ _ _) (fun k hk => hk.elim)) ?_
  refine hloop4 (fun i o A3 c3 => n - i) (fun i o A3 c3 => [(3, .slice A3 o.length c3), (4, .int .i64 (i : Nat))]) (fun i o A3 c3 => [ROwn 5 1 (.slice A3 o.length c3) o.length (b8s o)]) (fun i o A3 c3 => []) (fun i o A3 c3 => i ≤ n + 128 ∧ o.length ≤ 2 * i ∧ o ++ litL (l.drop i) = litL l) 0 [] none 0 [(2, _), (0, _)] ⟨rfl, rfl, trivial⟩ [0] rfl [] rfl (⟨by omega, by decide, rfl⟩) ⟨rfl, rfl, trivial⟩ (fun i o A3 c3 ⟨hin, hon, hE⟩ => ?_)
  refine hseq <| hseq <| hreg <| hy (fun _ => y_move rfl) <| hy (fun _ => y_move rfl) <| hy (fun _ => y_lenS rfl Tryd.underlying32) <| hy (fun _ => y_lss rfl rfl) <| hend <| hsub (ρ' := [(9, _), (3, _), (4, _), (2, _), (0, _)]) ⟨rfl, rfl, rfl, rfl, rfl, trivial⟩ <| hthen <| ?_
  refine hif rfl (fun hi => ?_) (fun hi => ?_)
  · obtain ⟨k, hk⟩ : ∃ k, k = min (n - i) 128 := ⟨_, rfl⟩
    have hki : 1 ≤ k ∧ k ≤ 128 ∧ i + k ≤ n := by omega
    have hdl : (l.drop i).length = n - i := by rw [List.length_drop, hl]
    have hne : l.drop i ≠ [] := fun e => by rw [e] at hdl; simp at hdl; omega
    have htk : (l.drop i).take 128 = (l.drop i).take k := by
      rcases Nat.lt_or_ge (n - i) 128 with h | h
      · rw [List.take_of_length_le (by omega), List.take_of_length_le (by omega)]
      · rw [show k = 128 by omega]
    rw [litL_cons hne, hdl, ← hk, htk, List.drop_drop] at hE
    refine hmemC (fun w m => m.asV 0 rfl (View.sub (n := n) (c := c) (k := i) (m := k) (by omega) (by omega))) ?_
    refine hfactC (fun m => rdB (m.rd 0 rfl)) ?_
    rintro ⟨hl_p, hA_p⟩
    refine hcskip <| hthen <| hseq <| hblock <| hseq <| hreg <| hy (fun _ => y_move rfl) <| hy (fun _ => y_move rfl) <| hy (fun _ => y_move rfl) <| hy (fun _ => y_add rfl rfl (w64 (by omega) (by omega))) <| hy (fun _ => y_move rfl) <| hy (fun _ => y_lenS rfl Tryd.underlying32) <| hy (fun _ => yV (y_min rfl rfl) ((show Value.int .i64 _ = .int .i64 ((i + k : Nat) : Int) by congr 1; omega))) <| hy (fun _ => yV (y_slBoth rfl rfl rfl Tryd.underlying32 sz5 rfl rfl (by omega) (by omega)) ((show Value.slice (if c = i then A else A.map (·.add (i * 1))) (i + k - i) (c - i) = .slice (if c = i then A else A.map (·.add (i * 1))) k (c - i) by congr 1; omega))) <| hy (fun _ => y_assign rfl) <| hend <| hsub (ρ' := [(5, _), (9, _), (3, _), (4, _), (2, _), (0, _)]) ⟨rfl, rfl, rfl, rfl, rfl, rfl, trivial⟩ <| hthen <| hseq <| hreg <| hy (fun _ => y_move rfl) <| hy (fun _ => y_move rfl) <| hy (fun _ => y_lenS rfl Tryd.underlying32) <| hy (fun _ => yV (y_sub rfl rfl (w64 (by omega) (by omega))) ((show Value.int .i64 ((k : Int) - 1) = .int .i64 ((k - 1 : Nat) : Int) by congr 1; omega))) <| hy (fun _ => yV (y_conv rfl Tryd.underlying3 Tryd.underlying5 (u8mod _)) ((show Value.int .u8 _ = B8 (UInt8.ofNat (k - 1)) from rfl))) <| ?_
    refine hx (xh_bsl Tryd.underlying32 ti5 rfl rfl rfl (by simp [Value.cells, B8]) (by decide) (by decide) (fun g25 => ?_))
    have hA_b25 : 0 < 1 → (some (⟨g25, 0, none⟩ : Addr)) ≠ none := fun _ h => by cases h
    refine hmemL (fun w m => m.eqX 0 rfl (show _ = ROwn 5 1 (.slice (some ⟨g25, 0, none⟩) 1 1) 1 (b8s [UInt8.ofNat (k - 1)]) from rfl)) ?_
    refine hx (xh_app 1 rfl rfl rfl Tryd.underlying32 Tryd.underlying32 (by exact .inl rfl) ti5 rfl (fun m => Src.of_rd (m.ord 0 rfl)) b8s_one (by unfold maxLen; omega) (by omega) (fun u => ?_))
    refine hfactL (fun m => (m.own 0 rfl).slice) ?_
    rintro ⟨A_x, c_x, rfl, hc_x⟩
    refine hfactL (fun m => (m.ord 0 rfl).2.1) fun hA_x => ?_
    refine hy (fun _ => y_assign rfl) <| hend <| hsub (ρ' := [(3, _), (5, _), (9, _), (4, _), (2, _), (0, _)]) ⟨rfl, rfl, rfl, rfl, rfl, rfl, trivial⟩ <| hmemQ (X' := [_, _]) (S' := [_, _]) (fun _ m => m) <| hthen <| hreg <| hy (fun _ => y_move rfl) <| hy (fun _ => y_move rfl) <| ?_
    refine hx (xh_app 0 rfl rfl rfl Tryd.underlying32 Tryd.underlying32 (by exact .inl rfl) ti5 rfl (fun m => Src.of_rd (m.rd 0 rfl)) b8s_one (by unfold maxLen; omega) (by omega) (fun u2 => ?_))
    refine hfactL (fun m => (m.own 0 rfl).slice) ?_
    rintro ⟨A_x2, c_x2, rfl, hc_x⟩
    refine hfactL (fun m => (m.ord 0 rfl).2.1) fun hA_x => ?_
    refine hy (fun _ => y_assign rfl) <| hend <| hsub (ρ' := [(3, _), (5, _), (9, _), (4, _), (2, _), (0, _)]) ⟨rfl, rfl, rfl, rfl, rfl, rfl, trivial⟩ <| hmemQ (X' := [_, _]) (S' := [_, _]) (fun _ m => m) <| hqblock <| hthen <| hreg <| hy (fun _ => y_move rfl) <| hy (fun _ => y_add rfl rfl (w64 (by omega) (by omega))) <| hy (fun _ => y_assign rfl) <| hend <| hsub (ρ' := [(4, _), (3, _), (5, _), (9, _), (2, _), (0, _)]) ⟨rfl, rfl, rfl, rfl, rfl, rfl, trivial⟩ <| ?_
    have hol : o.length + 1 + k = (o ++ (UInt8.ofNat (k - 1) :: (l.drop i).take k)).length := by simp; omega
    rw [hol]
    refine hmemQ (fun w m => m.eqX 0 rfl (show _ = ROwn 5 1 (.slice A_x2 (o ++ (UInt8.ofNat (k - 1) :: (l.drop i).take k)).length c_x2) (o ++ (UInt8.ofNat (k - 1) :: (l.drop i).take k)).length (b8s (o ++ (UInt8.ofNat (k - 1) :: (l.drop i).take k))) from congrArg (ROwn _ _ _ _) (show b8s o ++ b8s [UInt8.ofNat (k - 1)] ++ b8s ((l.drop i).take k) = _ by rw [← b8s_append, ← b8s_append, List.append_assoc]; rfl))) ?_
    refine hnext4 (i + 128) (o ++ (UInt8.ofNat (k - 1) :: (l.drop i).take k)) _ _ ⟨rfl, rfl, rfl, rfl, trivial⟩ [0] rfl [1] rfl (⟨by omega, by rw [← hol]; omega, by rw [← hE]; simp⟩) (by omega)
  · rw [List.drop_of_length_le (by omega), litL_nil, List.append_nil] at hE
    subst hE
    refine hexit <| hthen_exit <| hthen_exit <| hqblock_exit <| hthen <| hseq <| hreg <| hy (fun _ => y_move rfl) <| hy (fun _ => y_assign rfl) <| hend <| hsub (ρ' := [(2, _), (9, _), (3, _), (4, _), (0, _)]) ⟨rfl, rfl, rfl, rfl, rfl, trivial⟩ <| hthen <| hret <| ?_
    exact hret1 trivial rfl rfl [0] rfl [] rfl ⟨_, rfl, rfl, rfl⟩
theorem rpackC {A : Option Addr} {n c : Nat} {l : List UInt8} (hc : n ≤ c) (hn : n ≤ 500000000) (hl : l.length = n) : Con Tryd.prog 143 [.slice A n c] [] [RRd 1 A n (b8s l)] (fun v_ X_ S_ => ∃ v, v_ = v ∧ X_ = [ROwn 5 1 v (packL l).length (b8s (packL l))] ∧ S_ = []) := by
  refine henter (N := 54) Tryd.func143 rfl rfl (by simp) fun b => ?_
  refine hfactC (fun m => rdB (m.rd 0 rfl)) ?_
  rintro ⟨hl_r, hA_r⟩
  refine hseq <| hreg <| hy (fun _ => y_assign rfl) <| hend <| hthen <| hseq <| hreg <| hy (fun _ => y_assign rfl) <| hend <| hthen <| hseq <| hreg <| hy (fun _ => y_assign rfl) <| hend <| hthen <| hseq <| hreg <| hy (fun _ => y_assign rfl) <| hend <| hthen <| hseq <| hblock <| ?_
  refine hmemC (fun w m => m.addX (r' := ROwn 5 1 (.slice none 0 0) 0 []) (.refl _ _) (Own.nil _ _ _ _) (fun k hk => hk.elim)) ?_
  refine hloop5 (fun i f o A3 c3 => n - i) (fun i f o A3 c3 => [(3, .slice A3 o.length c3), (4, .int .i64 (f : Nat)), (5, .int .i64 (i : Nat))]) (fun i f o A3 c3 => [ROwn 5 1 (.slice A3 o.length c3) o.length (b8s o)]) (fun i f o A3 c3 => []) (fun i f o A3 c3 => i ≤ n ∧ f ≤ i ∧ o.length + 2 * (i - f) ≤ 2 * i ∧ packF l i ((l.drop f).take (i - f)) o = packL l) 0 0 [] none 0 [(2, _), (0, _)] ⟨rfl, rfl, trivial⟩ [0] rfl [] rfl (⟨by omega, by decide, by decide, rfl⟩) ⟨rfl, rfl, rfl, trivial⟩ (fun i f o A3 c3 ⟨hin, hfi, hon, hE⟩ => ?_)
  have hown : ((l.drop f).take (i - f)).length = i - f := by rw [List.length_take, List.length_drop]; omega
  refine hseq <| hseq <| hreg <| hy (fun _ => y_move rfl) <| hy (fun _ => y_move rfl) <| hy (fun _ => y_lenS rfl Tryd.underlying32) <| hy (fun _ => y_lss rfl rfl) <| hend <| hsub (ρ' := [(10, _), (3, _), (4, _), (5, _), (2, _), (0, _)]) ⟨rfl, rfl, rfl, rfl, rfl, rfl, trivial⟩ <| hthen <| ?_
  refine hif rfl (fun hi => ?_) (fun hi => ?_)
  · refine hcskip <| hthen <| hblock <| hseq <| hreg <| hy (fun _ => y_move rfl) <| hy (fun _ => y_move rfl) <| ?_
    refine hx (xh_call rfl Tryd.call167 (rmatchC (by omega) hl (by omega)) [] rfl [0] rfl ?_)
    rintro _ _ _ ⟨rfl, rfl, rfl⟩
    refine hx (xh_alloc ti250 (fun g6 => ?_))
    refine hx0 (xh_stA 0 rfl rfl rfl sz250 rfl mv_one rfl ?_)
    refine hend <| hsub (ρ' := [(6, _), (10, _), (3, _), (4, _), (5, _), (2, _), (0, _)]) ⟨rfl, rfl, rfl, rfl, rfl, rfl, rfl, trivial⟩ <| hmemQ (X' := [_, _]) (S' := [_]) (fun _ m => m) <| hthen <| hseq <| hseq <| hreg <| hy (fun _ => y_fld rfl fa250_0 (by decide)) <| hy (fun m => y_ld1 rfl ag3 (ld_blk (m.blk 0 rfl) rfl)) <| hy (fun _ => y_eql rfl rfl) <| hend <| hsub (ρ' := [(16, _), (6, _), (10, _), (3, _), (4, _), (5, _), (2, _), (0, _)]) ⟨rfl, rfl, rfl, rfl, rfl, rfl, rfl, rfl, trivial⟩ <| hthen <| ?_
    refine hif rfl (fun h0 => ?_) (fun h0 => ?_)
    · rw [packF_own (by omega) (by omega)] at hE
      have hsn : (l.drop f).take (i - f) ++ [l.getD i 0] = (l.drop f).take (i + 1 - f) := by
        rw [show i + 1 - f = (i - f) + 1 by omega, take_snoc (by rw [List.length_drop]; omega)]
        congr 2
        simp only [List.getD, List.getElem?_drop]
        rw [show f + (i - f) = i by omega]
      rw [hsn] at hE
      refine hseq <| hreg <| hy (fun _ => y_move rfl) <| hy (fun _ => y_add rfl rfl (w64 (by omega) (by omega))) <| hy (fun _ => y_assign rfl) <| hend <| hsub (ρ' := [(5, _), (16, _), (6, _), (10, _), (3, _), (4, _), (2, _), (0, _)]) ⟨rfl, rfl, rfl, rfl, rfl, rfl, rfl, rfl, trivial⟩ <| hthen <| hexit <| hthen_exit <| hqblock_exit <| ?_
      refine hnext5 (i + 1) f o A3 c3 ⟨rfl, rfl, rfl, rfl, rfl, trivial⟩ [1] rfl [0] rfl (⟨by omega, by omega, by omega, hE⟩) (by omega)
    · have hm := matchL_ok (b := l) (i := i) (by omega)
      rw [packF_match (by omega) (by omega)] at hE
      obtain ⟨m1, m2, m3, m4, m5, m6⟩ := hm.resolve_left (fun e => h0 (by rw [e]; rfl))
      have hll := litL_length ((l.drop f).take (i - f))
      refine hmemC (fun w m => m.asV 0 rfl (View.sub (n := n) (c := c) (k := f) (m := i - f) (by omega) (by omega))) ?_
      refine hfactC (fun m => rdB (m.rd 0 rfl)) ?_
      rintro ⟨hl_p, hA_p⟩
      refine hcskip <| hthen <| hseq <| hreg <| hy (fun _ => y_move rfl) <| hy (fun _ => y_move rfl) <| hy (fun _ => y_move rfl) <| hy (fun _ => y_move rfl) <| hy (fun _ => y_slBoth rfl rfl rfl Tryd.underlying32 sz5 rfl rfl (by omega) (by omega)) <| ?_
      refine hx (xh_call rfl Tryd.call168 (rlitC (by omega) (by omega) hown) [] rfl [0] rfl ?_)
      rintro _ _ _ ⟨v, rfl, rfl, rfl⟩
      refine hfactL (fun m => (m.own 0 rfl).slice) ?_
      rintro ⟨A_x2, c_x2, rfl, hc_x2⟩
      refine hfactL (fun m => (m.ord 0 rfl).2.1) fun hA_x2 => ?_
      refine hx (xh_app 2 rfl rfl rfl Tryd.underlying32 Tryd.underlying32 (by exact .inl rfl) ti5 rfl (fun m => Src.of_rd (m.ord 0 rfl)) b8s_one (by unfold maxLen; omega) (by omega) (fun u => ?_))
      refine hfactL (fun m => (m.own 0 rfl).slice) ?_
      rintro ⟨A_x, c_x, rfl, hc_x⟩
      refine hfactL (fun m => (m.ord 0 rfl).2.1) fun hA_x => ?_
      generalize hLL : litL ((l.drop f).take (i - f)) = L at hE hll ⊢
      refine hy (fun _ => y_assign rfl) <| hend <| hsub (ρ' := [(3, _), (16, _), (6, _), (10, _), (4, _), (5, _), (2, _), (0, _)]) ⟨rfl, rfl, rfl, rfl, rfl, rfl, rfl, rfl, trivial⟩ <| hmemQ (X' := [_, _, _]) (S' := [_, _]) (fun _ m => m) <| hthen <| hseq <| hreg <| hy (fun _ => y_move rfl) <| hy (fun _ => y_fld rfl fa250_0 (by decide)) <| hy (fun m => y_ld1 rfl ag3 (ld_blk (m.blk 2 rfl) rfl)) <| hy (fun _ => yV (y_add rfl rfl (w64 (by omega) (by omega))) ((show Value.int .i64 (124 + ((matchL l i).1 : Int)) = .int .i64 ((124 + (matchL l i).1 : Nat) : Int) by congr 1))) <| hy (fun _ => yV (y_conv rfl Tryd.underlying3 Tryd.underlying5 (u8mod _)) ((show Value.int .u8 _ = B8 (UInt8.ofNat (124 + (matchL l i).1)) from rfl))) <| hy (fun _ => y_fld rfl fa250_1 (by decide)) <| hy (fun m => y_ld1 rfl ag3 (ld_blk (m.blk 2 rfl) rfl)) <| hy (fun _ => yV (y_sub rfl rfl (w64 (by omega) (by omega))) ((show Value.int .i64 (((matchL l i).2 : Int) - 1) = .int .i64 (((matchL l i).2 - 1 : Nat) : Int) by congr 1; omega))) <| hy (fun _ => yV (y_rem rfl rfl (by omega) (by omega)) ((show Value.int .i64 ((((matchL l i).2 - 1 : Nat) : Int) % 256) = .int .i64 ((((matchL l i).2 - 1) % 256 : Nat) : Int) by congr 1))) <| hy (fun _ => yV (y_conv rfl Tryd.underlying3 Tryd.underlying5 (u8mod _)) ((show Value.int .u8 _ = B8 (UInt8.ofNat (((matchL l i).2 - 1) % 256)) from rfl))) <| hy (fun _ => y_fld rfl fa250_1 (by decide)) <| hy (fun m => y_ld1 rfl ag3 (ld_blk (m.blk 2 rfl) rfl)) <| hy (fun _ => yV (y_sub rfl rfl (w64 (by omega) (by omega))) ((show Value.int .i64 (((matchL l i).2 : Int) - 1) = .int .i64 (((matchL l i).2 - 1 : Nat) : Int) by congr 1; omega))) <| hy (fun _ => yV (y_quo rfl rfl (by omega) (by omega) (w64 (by omega) (by omega))) ((show Value.int .i64 ((((matchL l i).2 - 1 : Nat) : Int) / 256) = .int .i64 ((((matchL l i).2 - 1) / 256 : Nat) : Int) by congr 1))) <| hy (fun _ => yV (y_conv rfl Tryd.underlying3 Tryd.underlying5 (u8mod _)) ((show Value.int .u8 _ = B8 (UInt8.ofNat (((matchL l i).2 - 1) / 256)) from rfl))) <| ?_
      refine hx (xh_bsl Tryd.underlying32 ti5 rfl rfl rfl (by simp [Value.cells, B8]) (by decide) (by decide) (fun g41 => ?_))
      have hA_b41 : 0 < 3 → (some (⟨g41, 0, none⟩ : Addr)) ≠ none := fun _ h => by cases h
      have htm : [UInt8.ofNat (124 + (matchL l i).1), UInt8.ofNat (((matchL l i).2 - 1) % 256), UInt8.ofNat (((matchL l i).2 - 1) / 256)] = tokM (matchL l i) := by
        unfold tokM
        congr 2
        exact UInt8.toNat_inj.1 (by rw [UInt8.toNat_ofNat', UInt8.toNat_ofNat']; omega)
      refine hmemL (fun w m => m.eqX 0 rfl (show _ = ROwn 5 1 (.slice (some ⟨g41, 0, none⟩) 3 3) 3 (b8s (tokM (matchL l i))) from congrArg (ROwn _ _ _ _) (show b8s [UInt8.ofNat (124 + (matchL l i).1), UInt8.ofNat (((matchL l i).2 - 1) % 256), UInt8.ofNat (((matchL l i).2 - 1) / 256)] = _ by rw [htm]))) ?_
      refine hx (xh_app 1 rfl rfl rfl Tryd.underlying32 Tryd.underlying32 (by exact .inl rfl) ti5 rfl (fun m => Src.of_rd (m.ord 0 rfl)) b8s_one (by unfold maxLen; omega) (by omega) (fun u2 => ?_))
      refine hfactL (fun m => (m.own 0 rfl).slice) ?_
      rintro ⟨A_x3, c_x3, rfl, hc_x⟩
      refine hfactL (fun m => (m.ord 0 rfl).2.1) fun hA_x => ?_
      refine hy (fun _ => y_assign rfl) <| hend <| hsub (ρ' := [(3, _), (16, _), (6, _), (10, _), (4, _), (5, _), (2, _), (0, _)]) ⟨rfl, rfl, rfl, rfl, rfl, rfl, rfl, rfl, trivial⟩ <| hmemQ (X' := [_, _, _, _]) (S' := [_, _]) (fun _ m => m) <| hthen <| hseq <| hreg <| hy (fun _ => y_move rfl) <| hy (fun _ => y_fld rfl fa250_0 (by decide)) <| hy (fun m => y_ld1 rfl ag3 (ld_blk (m.blk 3 rfl) rfl)) <| hy (fun _ => yV (y_add rfl rfl (w64 (by omega) (by omega))) ((show Value.int .i64 ((i : Int) + ((matchL l i).1 : Int)) = .int .i64 ((i + (matchL l i).1 : Nat) : Int) by congr 1))) <| hy (fun _ => y_assign rfl) <| hend <| hsub (ρ' := [(5, _), (3, _), (16, _), (6, _), (10, _), (4, _), (2, _), (0, _)]) ⟨rfl, rfl, rfl, rfl, rfl, rfl, rfl, rfl, trivial⟩ <| hthen <| hreg <| hy (fun _ => y_move rfl) <| hy (fun _ => y_assign rfl) <| hend <| hsub (ρ' := [(4, _), (5, _), (3, _), (16, _), (6, _), (10, _), (2, _), (0, _)]) ⟨rfl, rfl, rfl, rfl, rfl, rfl, rfl, rfl, trivial⟩ <| hqblock <| ?_
      have hol : o.length + L.length + 3 = (o ++ L ++ tokM (matchL l i)).length := by simp [tokM]; omega
      rw [hol]
      refine hmemQ (fun w m => m.eqX 0 rfl (show _ = ROwn 5 1 (.slice A_x3 (o ++ L ++ tokM (matchL l i)).length c_x3) (o ++ L ++ tokM (matchL l i)).length (b8s (o ++ L ++ tokM (matchL l i))) from congrArg (ROwn _ _ _ _) (show b8s o ++ b8s L ++ b8s (tokM (matchL l i)) = b8s (o ++ L ++ tokM (matchL l i)) by rw [b8s_append, b8s_append]))) ?_
      have hE2 : packF l (i + (matchL l i).1) ((l.drop (i + (matchL l i).1)).take (i + (matchL l i).1 - (i + (matchL l i).1))) (o ++ L ++ tokM (matchL l i)) = packL l := by rw [Nat.sub_self, List.take_zero]; exact hE
      refine hnext5 (i + (matchL l i).1) (i + (matchL l i).1) (o ++ L ++ tokM (matchL l i)) _ _ ⟨rfl, rfl, rfl, rfl, rfl, trivial⟩ [0] rfl [1] rfl (⟨by omega, Nat.le_refl _, by rw [← hol]; omega, hE2⟩) (by omega)
  · obtain rfl : i = n := by omega
    rw [packF_end (by omega), List.take_of_length_le (by rw [List.length_drop]; omega)] at hE
    have hdl : (l.drop f).length = i - f := by rw [List.length_drop]; omega
    have hll := litL_length (l.drop f)
    refine hmemC (fun w m => m.asV 0 rfl (View.drop (n := i) (c := c) (k := f) (by omega) (by omega))) ?_
    refine hfactC (fun m => rdB (m.rd 0 rfl)) ?_
    rintro ⟨hl_p, hA_p⟩
    refine hexit <| hthen_exit <| hthen_exit <| hqblock_exit <| hthen <| hseq <| hreg <| hy (fun _ => y_move rfl) <| hy (fun _ => y_move rfl) <| hy (fun _ => y_move rfl) <| hy (fun _ => y_slFrom rfl rfl Tryd.underlying32 sz5 rfl (by omega)) <| ?_
    refine hx (xh_call rfl Tryd.call168 (rlitC (by omega) (by omega) hdl) [] rfl [0] rfl ?_)
    rintro _ _ _ ⟨v, rfl, rfl, rfl⟩
    refine hfactL (fun m => (m.own 0 rfl).slice) ?_
    rintro ⟨A_x2, c_x2, rfl, hc_x2⟩
    refine hfactL (fun m => (m.ord 0 rfl).2.1) fun hA_x2 => ?_
    refine hx (xh_app 1 rfl rfl rfl Tryd.underlying32 Tryd.underlying32 (by exact .inl rfl) ti5 rfl (fun m => Src.of_rd (m.ord 0 rfl)) b8s_one (by unfold maxLen; omega) (by omega) (fun u => ?_))
    refine hfactL (fun m => (m.own 0 rfl).slice) ?_
    rintro ⟨A_x, c_x, rfl, hc_x⟩
    refine hfactL (fun m => (m.ord 0 rfl).2.1) fun hA_x => ?_
    have hol : o.length + (litL (l.drop f)).length = (packL l).length := by rw [← hE]; simp
    rw [hol]
    refine hmemL (fun w m => m.eqX 0 rfl (show _ = ROwn 5 1 (.slice A_x (packL l).length c_x) (packL l).length (b8s (packL l)) from congrArg (ROwn _ _ _ _) (show b8s o ++ b8s (litL (l.drop f)) = b8s (packL l) by rw [← hE, b8s_append]))) ?_
    refine hy (fun _ => y_assign rfl) <| hend <| hsub (ρ' := [(2, _), (10, _), (3, _), (4, _), (5, _), (0, _)]) ⟨rfl, rfl, rfl, rfl, rfl, rfl, trivial⟩ <| hmemQ (X' := [_, _]) (S' := [_, _]) (fun _ m => m) <| hthen <| hret <| ?_
    exact hret1 trivial rfl rfl [0] rfl [] rfl ⟨_, rfl, rfl, rfl⟩
end Go.Proofs.YtfikjheicjamhaaDoor
end
section
/- Contracts: the document's frames (layer 6): sealing. -/
set_option linter.unusedVariables false
set_option linter.unusedSimpArgs false
set_option maxRecDepth 20000
set_option maxHeartbeats 2000000
namespace Go.Proofs.YtfikjheicjamhaaDoor
open Go.Eng Go.Hx
theorem rsumC {A : Option Addr} {n c : Nat} {l : List UInt8} (hc : n ≤ c) (hn : n ≤ 1000000000) (hl : l.length = n) : Con Tryd.prog 144 [.slice A n c] [] [RRd 1 A n (b8s l)] (fun v_ X_ S_ => ∃ v, v_ = v ∧ X_ = [ROwn 5 1 v 4 (b8s (le4 (crcSum l)))] ∧ S_ = []) := by
  have e4 : n + 4 - n = 4 := by omega
  have ed : (b8s (putL l)).drop (n * 1) = b8s (le4 (crcSum l)) := by rw [Nat.mul_one, ← b8s_drop, putL, List.drop_append_of_le_length (by omega), List.drop_of_length_le (by omega)]; rfl
  refine henter (N := 8) Tryd.func144 rfl rfl (by simp) fun b => ?_
  refine hfactC (fun m => rdB (m.rd 0 rfl)) ?_
  rintro ⟨hl_r, hA_r⟩
  refine hseq <| hreg <| hy (fun _ => y_assign rfl) <| hend <| hthen <| hseq <| hreg <| hy (fun _ => y_move rfl) <| ?_
  refine hx (xh_call rfl Tryd.call22 (rcrcPutC (by omega)) [] rfl [0] rfl ?_)
  rintro _ _ _ ⟨v, rfl, rfl, rfl⟩
  refine hfactL (fun m => (m.own 0 rfl).slice) ?_
  rintro ⟨A_x, c_x, rfl, hc_x⟩
  refine hfactL (fun m => (m.ord 0 rfl).2.1) fun hA_x => ?_
  refine hy (fun _ => y_move rfl) <| hy (fun _ => y_lenS rfl Tryd.underlying32) <| hy (fun _ => yV (y_slFrom rfl rfl Tryd.underlying32 sz5 rfl (by omega)) ((show Value.slice (if c_x = n then A_x else A_x.map (·.add (n * 1))) (n + 4 - n) (c_x - n) = .slice (if c_x = n then A_x else A_x.map (·.add (n * 1))) 4 (c_x - n) by congr 1))) <| hy (fun _ => y_assign rfl) <| hend <| hsub (ρ' := [(2, _), (0, _)]) ⟨rfl, rfl, trivial⟩ <| hmemQ (X' := [_]) (S' := [_]) (fun _ m => m) <| hthen <| hret <| ?_
  refine hmemQ (X' := ROwn 5 1 (.slice (if c_x = n then A_x else A_x.map (·.add (n * 1))) (n + 4 - n) (c_x - n)) (n + 4 - n) ((b8s (putL l)).drop (n * 1)) :: _) (fun w m => (m.perm (takeR_perm [0] _ [_] _ rfl)).viewX (View.ownDrop (by omega) hc_x)) ?_
  rw [e4, ed]
  exact hret1 trivial rfl rfl [0] rfl [] rfl ⟨_, rfl, rfl, rfl⟩
theorem rsealC {A : Option Addr} {n c : Nat} {l : List UInt8} (hc : n ≤ c) (hn : n ≤ 100000000) (hl : l.length = n) : Con Tryd.prog 107 [.slice A n c] [] [RRd 1 A n (b8s l)] (fun v_ X_ S_ => ∃ v, v_ = v ∧ X_ = [ROwn 5 1 v (sealL l).length (b8s (sealL l))] ∧ S_ = []) := by
  have hpl := packL_length l
  have hcl := crcSum_lt l
  refine henter (N := 30) Tryd.func107 rfl rfl (by simp) fun b => ?_
  refine hfactC (fun m => rdB (m.rd 0 rfl)) ?_
  rintro ⟨hl_r, hA_r⟩
  refine hseq <| hreg <| hy (fun _ => y_assign rfl) <| hend <| hthen <| hseq <| hreg <| hy (fun _ => y_move rfl) <| ?_
  refine hx (xh_call rfl Tryd.call143 (rpackC (by omega) (by omega) (by omega)) [] rfl [0] rfl ?_)
  rintro _ _ _ ⟨v, rfl, rfl, rfl⟩
  refine hfactL (fun m => (m.own 0 rfl).slice) ?_
  rintro ⟨A_x, c_x, rfl, hc_x⟩
  refine hfactL (fun m => (m.ord 0 rfl).2.1) fun hA_x => ?_
  refine hy (fun _ => y_assign rfl) <| hend <| hsub (ρ' := [(3, _), (2, _), (0, _)]) ⟨rfl, rfl, rfl, trivial⟩ <| hmemQ (X' := [_]) (S' := [_]) (fun _ m => m) <| hthen <| hseq <| hreg <| ?_
  refine hx (xh_bsl Tryd.underlying32 ti5 rfl rfl rfl (by simp [Value.cells, B8]) (by decide) (by decide) (fun g7 => ?_))
  have hA_b7 : 0 < 2 → (some (⟨g7, 0, none⟩ : Addr)) ≠ none := fun _ h => by cases h
  refine hy (fun _ => y_assign rfl) <| hend <| hsub (ρ' := [(4, _), (3, _), (2, _), (0, _)]) ⟨rfl, rfl, rfl, rfl, trivial⟩ <| hmemQ (X' := [_, _]) (S' := [_]) (fun _ m => m) <| hthen <| hseq <| hreg <| hy (fun _ => y_move rfl) <| hy (fun _ => y_move rfl) <| hy (fun _ => y_lenS rfl Tryd.underlying32) <| ?_
  refine hx (xh_call rfl Tryd.call63 (numberC (by omega)) [] rfl [] rfl ?_)
  rintro _ _ _ ⟨v2, rfl, rfl, rfl⟩
  refine hfactL (fun m => (m.own 0 rfl).slice) ?_
  rintro ⟨A_x2, c_x2, rfl, hc_x2⟩
  refine hfactL (fun m => (m.ord 0 rfl).2.1) fun hA_x2 => ?_
  refine hmemL (fun w m => m.eqX 1 rfl (show _ = ROwn 5 1 (.slice (some ⟨g7, 0, none⟩) 2 2) 2 (b8s [76, 0]) from rfl)) ?_
  refine hx (xh_app 0 rfl rfl rfl Tryd.underlying32 Tryd.underlying32 (by exact .inl rfl) ti5 rfl (fun m => Src.of_rd (m.ord 1 rfl)) b8s_one (by unfold maxLen; omega) (by omega) (fun u => ?_))
  refine hfactL (fun m => (m.own 0 rfl).slice) ?_
  rintro ⟨A_b7, c_b7, rfl, hc_b7⟩
  refine hfactL (fun m => (m.ord 0 rfl).2.1) fun hA_b7 => ?_
  refine hy (fun _ => y_assign rfl) <| hend <| hsub (ρ' := [(4, _), (3, _), (2, _), (0, _)]) ⟨rfl, rfl, rfl, rfl, trivial⟩ <| hmemQ (X' := [_, _, _]) (S' := [_]) (fun _ m => m) <| hthen <| hseq <| hseq <| hreg <| hy (fun _ => y_move rfl) <| hy (fun _ => y_lenS rfl Tryd.underlying32) <| hy (fun _ => y_move rfl) <| hy (fun _ => y_lenS rfl Tryd.underlying32) <| hy (fun _ => y_lss rfl rfl) <| hend <| hsub (ρ' := [(17, _), (4, _), (3, _), (2, _), (0, _)]) ⟨rfl, rfl, rfl, rfl, rfl, trivial⟩ <| hthen <| ?_
  refine hif rfl (fun hp => ?_) (fun hp => ?_)
  · have hq : sealL l = [76, 1] ++ le4 l.length ++ packL l ++ le4 (crcSum l) := by
      have : pkd l = true := by unfold pkd; exact decide_eq_true (by omega)
      unfold sealL fbody
      rw [this]; rfl
    refine hseq <| hreg <| hy (fun _ => y_move rfl) <| hy (fun _ => y_idxS1 rfl rfl Tryd.underlying32 sz5 hA_b7 (show ((1 : Nat) : Int) = 1 from rfl) (by omega)) <| ?_
    refine hx0 (xh_stO 0 rfl rfl rfl sz5 rfl (by omega) ?_)
    refine hend <| hsub (ρ' := [(17, _), (4, _), (3, _), (2, _), (0, _)]) ⟨rfl, rfl, rfl, rfl, rfl, trivial⟩ <| hmemQ (X' := [_, _, _]) (S' := [_]) (fun _ m => m) <| hthen <| hreg <| hy (fun _ => y_move rfl) <| hy (fun _ => y_move rfl) <| ?_
    refine hmemL (fun w m => m.eqX 0 rfl (show _ = ROwn 5 1 (.slice A_b7 (2 + 4) c_b7) (2 + 4) (b8s ([76, 1] ++ le4 n)) from rfl)) ?_
    refine hx (xh_app 0 rfl rfl rfl Tryd.underlying32 Tryd.underlying32 (by exact .inl rfl) ti5 rfl (fun m => Src.of_rd (m.ord 2 rfl)) b8s_one (by unfold maxLen; omega) (by omega) (fun u2 => ?_))
    refine hfactL (fun m => (m.own 0 rfl).slice) ?_
    rintro ⟨A_b72, c_b72, rfl, hc_b7⟩
    refine hfactL (fun m => (m.ord 0 rfl).2.1) fun hA_b7 => ?_
    refine hy (fun _ => y_assign rfl) <| hend <| hsub (ρ' := [(4, _), (17, _), (3, _), (2, _), (0, _)]) ⟨rfl, rfl, rfl, rfl, rfl, trivial⟩ <| hmemQ (X' := [_, _, _]) (S' := [_]) (fun _ m => m) <| hthen <| hseq <| hreg <| hy (fun _ => y_move rfl) <| hy (fun _ => y_move rfl) <| ?_
    refine hx (xh_call rfl Tryd.call144 (rsumC (by omega) (by omega) (by omega)) [] rfl [0] rfl ?_)
    rintro _ _ _ ⟨v3, rfl, rfl, rfl⟩
    refine hfactL (fun m => (m.own 0 rfl).slice) ?_
    rintro ⟨A_x3, c_x3, rfl, hc_x3⟩
    refine hfactL (fun m => (m.ord 0 rfl).2.1) fun hA_x3 => ?_
    refine hx (xh_app 1 rfl rfl rfl Tryd.underlying32 Tryd.underlying32 (by exact .inl rfl) ti5 rfl (fun m => Src.of_rd (m.ord 0 rfl)) b8s_one (by unfold maxLen; omega) (by omega) (fun u3 => ?_))
    refine hfactL (fun m => (m.own 0 rfl).slice) ?_
    rintro ⟨A_b73, c_b73, rfl, hc_b7⟩
    refine hfactL (fun m => (m.ord 0 rfl).2.1) fun hA_b7 => ?_
    refine hy (fun _ => y_assign rfl) <| hend <| hsub (ρ' := [(2, _), (4, _), (17, _), (3, _), (0, _)]) ⟨rfl, rfl, rfl, rfl, rfl, trivial⟩ <| hmemQ (X' := [_, _, _, _]) (S' := [_]) (fun _ m => m) <| hthen <| hret <| ?_
    have hol : 2 + 4 + (packL l).length + 4 = (sealL l).length := by rw [hq]; simp [le4_length, hl]; try omega
    rw [hol]
    have hsl : b8s ([76, 1] ++ le4 n) ++ b8s (packL l) ++ b8s (le4 (crcSum l)) = b8s (sealL l) := by rw [hq, hl, b8s_append ([76, 1] ++ le4 n ++ (packL l)), b8s_append ([76, 1] ++ le4 n)]
    rw [hsl]
    exact hret1 trivial rfl rfl [0] rfl [] rfl ⟨_, rfl, rfl, rfl⟩
  · have hq : sealL l = [76, 0] ++ le4 l.length ++ l ++ le4 (crcSum l) := by
      have : pkd l = false := by unfold pkd; exact decide_eq_false (by omega)
      unfold sealL fbody
      rw [this]; rfl
    refine hreg <| hy (fun _ => y_move rfl) <| hy (fun _ => y_move rfl) <| ?_
    refine hmemL (fun w m => m.eqX 0 rfl (show _ = ROwn 5 1 (.slice A_b7 (2 + 4) c_b7) (2 + 4) (b8s ([76, 0] ++ le4 n)) from rfl)) ?_
    refine hx (xh_app 0 rfl rfl rfl Tryd.underlying32 Tryd.underlying32 (by exact .inl rfl) ti5 rfl (fun m => Src.of_rd (m.rd 0 rfl)) b8s_one (by unfold maxLen; omega) (by omega) (fun u2 => ?_))
    refine hfactL (fun m => (m.own 0 rfl).slice) ?_
    rintro ⟨A_b72, c_b72, rfl, hc_b7⟩
    refine hfactL (fun m => (m.ord 0 rfl).2.1) fun hA_b7 => ?_
    refine hy (fun _ => y_assign rfl) <| hend <| hsub (ρ' := [(4, _), (17, _), (3, _), (2, _), (0, _)]) ⟨rfl, rfl, rfl, rfl, rfl, trivial⟩ <| hmemQ (X' := [_, _, _]) (S' := [_]) (fun _ m => m) <| hthen <| hseq <| hreg <| hy (fun _ => y_move rfl) <| hy (fun _ => y_move rfl) <| ?_
    refine hx (xh_call rfl Tryd.call144 (rsumC (by omega) (by omega) (by omega)) [] rfl [0] rfl ?_)
    rintro _ _ _ ⟨v3, rfl, rfl, rfl⟩
    refine hfactL (fun m => (m.own 0 rfl).slice) ?_
    rintro ⟨A_x3, c_x3, rfl, hc_x3⟩
    refine hfactL (fun m => (m.ord 0 rfl).2.1) fun hA_x3 => ?_
    refine hx (xh_app 1 rfl rfl rfl Tryd.underlying32 Tryd.underlying32 (by exact .inl rfl) ti5 rfl (fun m => Src.of_rd (m.ord 0 rfl)) b8s_one (by unfold maxLen; omega) (by omega) (fun u3 => ?_))
    refine hfactL (fun m => (m.own 0 rfl).slice) ?_
    rintro ⟨A_b73, c_b73, rfl, hc_b7⟩
    refine hfactL (fun m => (m.ord 0 rfl).2.1) fun hA_b7 => ?_
    refine hy (fun _ => y_assign rfl) <| hend <| hsub (ρ' := [(2, _), (4, _), (17, _), (3, _), (0, _)]) ⟨rfl, rfl, rfl, rfl, rfl, trivial⟩ <| hmemQ (X' := [_, _, _, _]) (S' := [_]) (fun _ m => m) <| hthen <| hret <| ?_
    have hol : 2 + 4 + n + 4 = (sealL l).length := by rw [hq]; simp [le4_length, hl]; try omega
    rw [hol]
    have hsl : b8s ([76, 0] ++ le4 n) ++ b8s l ++ b8s (le4 (crcSum l)) = b8s (sealL l) := by rw [hq, hl, b8s_append ([76, 0] ++ le4 n ++ l), b8s_append ([76, 0] ++ le4 n)]
    rw [hsl]
    exact hret1 trivial rfl rfl [0] rfl [] rfl ⟨_, rfl, rfl, rfl⟩
end Go.Proofs.YtfikjheicjamhaaDoor
end
