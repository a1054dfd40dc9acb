/- Contracts: who has all (server). -/
import Derived.Test.YtpcgpnijhpcbeaaWire2
import Derived.Test.YtpcgpnijhpcbeaaLocks
set_option linter.unusedVariables false
set_option linter.unusedSimpArgs false
set_option maxRecDepth 20000
namespace Go.Proofs.Ytpcgpnijhpcbeaa
open Go.Eng Go.Hx
abbrev Frames := List (Dg × BRow)
def frs (l : Frames) : List (Dg × Value) := l.map fun x => (x.1, x.2.val)
theorem frs_get : ∀ (l : Frames) (p : Dg), aget (frs l) p = (aget l p).map BRow.val
  | [], p => rfl
  | (k, r) :: q, p => by
    have := frs_get q p
    simp only [frs, List.map_cons, aget] at this ⊢
    split <;> simp_all
def scells (k : Int) (gm : Nat) : List Value := [.int .i32 k, .int .u32 0, .map (some gm)]
abbrev RSrv (g gm : Nat) (l : Frames) : Res := RPack [RBlk g 88 (scells 0 gm), RMap DK gm (frs l), RRows (l.map (·.2))]
theorem ti88 : TI Try.prog 88 (.agg [.int .i32 0, .int .u32 0, .map none].toArray) 3 16 := by unfold TI; kernel_rfl
theorem ag88 : aggB Try.prog 88 = some true := by kernel_rfl
theorem sz88 : szB Try.prog 88 = some 3 := by kernel_rfl
theorem fa88_0 : faB Try.prog 88 0 = some (0, 2, 86) := by kernel_rfl
theorem fa88_1 : faB Try.prog 88 1 = some (2, 1, 79) := by kernel_rfl
theorem newSC  : Con Try.prog 10 [] [] [] (fun v_ X_ S_ => ∃ g gm, v_ = (.pointer (some ⟨g, 0, none⟩)) ∧ X_ = [RSrv g gm []] ∧ S_ = []) := by
  refine henter (N := 4) Try.func10 rfl rfl (by simp) fun b => ?_
  refine hseq <| hreg <| hy (fun _ => y_assign rfl) <| hend <| hthen <| hseq <| hreg <| ?_
  refine hx (xh_mkmap DK (fun g1 => ?_))
  refine hy (fun _ => yV (y_build ti88 rfl rfl (by kernel_rfl) (.cons (o := 2) (sz := 1) (by kernel_rfl) rfl rfl (Nat.le_of_ble_eq_true rfl) .nil)) ((rfl : _ = Value.agg (scells 0 g1).toArray))) <| ?_
  refine hx (xh_box rfl (fun g3 => ?_))
  refine hy (fun _ => y_assign rfl) <| hend <| hsub (ρ' := [(0, _)]) ⟨rfl, trivial⟩ <| hmemQ (X' := [_, _]) (S' := []) (fun _ m => m) <| hthen <| hret <| ?_
  refine hmemQ (fun w m => m.noRows) ?_
  refine hmemQ (X' := RSrv g3 g1 [] :: _) (fun w m => (m.perm (takeR_perm [1, 1, 0] _ [_, _, _] _ rfl)).pack) ?_
  exact hret1 trivial rfl rfl [0] rfl [] rfl ⟨_, _, rfl, rfl, rfl⟩
theorem muLockC {g gm : Nat} : Con Try.prog 69 [.pointer (some ⟨g, 0, none⟩)] [RBlk g 88 (scells 0 gm)] [] (fun v_ X_ S_ => v_ = (.tuple #[]) ∧ X_ = [RBlk g 88 (scells 1 gm)] ∧ S_ = []) := by
  exact lockC muLib rfl
theorem sgetC {g gm : Nat} {l : Frames} {nm : Dg} : Con Try.prog 43 [.pointer (some ⟨g, 0, none⟩), DK nm] [RSrv g gm l] [] (fun v_ X_ S_ => v_ = (.tuple #[((aget l nm).map BRow.val).getD (.slice none 0 0), .bool (aget l nm).isSome]) ∧ X_ = [RSrv g gm l] ∧ S_ = []) := by
  refine henterD (N := 26) Try.func43 rfl rfl (by simp) fun b => ?_
  refine hmemC (fun w m => (m.perm (takeR_perm [0] _ [_] _ rfl)).unpack) ?_
  refine hseq <| hreg <| ?_
  refine hx (xh_box rfl (fun g3 => ?_))
  refine hy (fun _ => y_assign rfl) <| hy (fun _ => y_assign rfl) <| hend <| hmemQ (X' := [_, _, _, _]) (S' := []) (fun _ m => m) <| hthen <| hseq <| hreg <| hy (fun _ => y_move rfl) <| hy (fun _ => y_nilp rfl) <| hy (fun _ => y_fld rfl fa88_0 (by decide)) <| ?_
  refine hx (xh_call rfl Try.call69 (muLockC) [1] rfl [] rfl ?_)
  rintro _ _ _ ⟨rfl, rfl, rfl⟩
  refine hmemL (fun w m => m.eqX 1 rfl (show _ = RBlk g3 23 (b8s nm.1) from congrArg (RBlk _ _) (cells_agg _))) ?_
  refine hend <| hsub (ρ' := [(5, _), (4, _), (3, _), (0, _), (1, _)]) ⟨rfl, rfl, rfl, rfl, rfl, trivial⟩ <| hmemQ (X' := [_, _, _, _]) (S' := []) (fun _ m => m) <| hthen <| hseq <| hreg <| hy (fun _ => y_move rfl) <| hy (fun _ => y_nilp rfl) <| hy (fun _ => y_fld rfl fa88_0 (by decide)) <| hdefer rfl <| hend <| hsub (ρ' := [(5, _), (4, _), (3, _), (0, _), (1, _)]) ⟨rfl, rfl, rfl, rfl, rfl, trivial⟩ <| hthen <| hseq <| hdrw [] [(0, some 0), (1, some 0), (2, some 0), (3, some 0), (4, some 0), (5, some 0), (6, some 0), (7, some 0), (8, some 0), (9, some 0), (10, some 0)] (by kernel_rfl) (by kernel_rfl) rfl 99 <| htyU (y_move rfl) <| htyU (y_nilp rfl) <| htyU (y_fld rfl fa88_1 (by decide)) <| hty (fun m => y_ld1 rfl ag79 (ld_blk (m.blk 1 rfl) rfl)) <| hty (fun m => yV (y_ldN rfl ag23 sz23 (by rw [b8s_length]; exact nm.2) ((m.blk 0 rfl).cells0)) ((rfl : Value.agg _ = DK nm))) <| hty (fun m => y_lookM (enc := DK) (k := nm) rfl rfl Try.underlying79 ti29 (digKey rfl Try.underlying23 Try.underlying5 (by kernel_rfl) (by kernel_rfl) (by kernel_rfl)) (m.mapX 2 rfl)) <| htyU (y_move rfl) <| htyU (y_extract rfl rfl) <| htyU (y_extract rfl rfl) <| htyU (y_assign rfl) <| htyU (y_assign rfl) <| htend <| hsub (ρ' := [(7, _), (6, _), (5, _), (4, _), (3, _), (0, _), (1, _)]) ⟨rfl, rfl, rfl, rfl, rfl, rfl, rfl, trivial⟩ <| hthen <| hseq <| hreg <| hy (fun _ => y_move rfl) <| hy (fun _ => y_move rfl) <| hy (fun _ => y_assign rfl) <| hy (fun _ => y_assign rfl) <| hend <| hsub (ρ' := [(5, _), (4, _), (7, _), (6, _), (3, _), (0, _), (1, _)]) ⟨rfl, rfl, rfl, rfl, rfl, rfl, rfl, trivial⟩ <| hthen <| hret <| ?_
  rw [frs_get, Option.isSome_map]
  refine hleave trivial ?_
  refine hunlock muLib 1 rfl rfl Try.call70 ?_
  refine hmemE (fun w m => m.eqX 0 rfl (show _ = RBlk g 88 (scells 0 gm) from rfl)) ?_
  refine hmemE (X' := RSrv g gm l :: _) (fun w m => (m.perm (takeR_perm [0, 1, 1] _ [_, _, _] _ rfl)).pack) ?_
  exact hlast2 rfl rfl rfl [0] rfl [] rfl ⟨rfl, rfl, rfl⟩
/-- the frame of a name -/
def getF (fr : Frames) (nm : List UInt8) : Option BRow := (fr.find? (fun x => decide (x.1.1 = nm))).map (·.2)
theorem getF_eq : ∀ (fr : Frames) (nm : Dg), aget fr nm = getF fr nm.1
  | [], _ => rfl
  | (k, v) :: q, nm => by
    have := getF_eq q nm
    unfold getF at this ⊢
    simp only [aget, List.find?_cons]
    by_cases h : k = nm
    · subst h; simp
    · rw [if_neg h, this]
      have : ¬ k.1 = nm.1 := fun e => h (Subtype.ext e)
      simp [this]
theorem getF_mem {fr : Frames} {nm : List UInt8} {r : BRow} (h : getF fr nm = some r) : ∃ x ∈ fr, x.2 = r := by
  unfold getF at h
  cases hf : fr.find? (fun x => decide (x.1.1 = nm)) with
  | none => rw [hf] at h; cases h
  | some x =>
    rw [hf] at h
    exact ⟨x, List.mem_of_find?_eq_some hf, Option.some.inj h⟩
theorem getF_row {fr : Frames} {nm : List UInt8} {r : BRow} (h : getF fr nm = some r) : ∃ i : Nat, (fr.map (·.2))[i]? = some r := by
  unfold getF at h
  cases hf : fr.find? (fun x => decide (x.1.1 = nm)) with
  | none => rw [hf] at h; cases h
  | some x =>
    rw [hf] at h
    have hm : x.2 ∈ fr.map (·.2) := List.mem_map.2 ⟨x, List.mem_of_find?_eq_some hf, rfl⟩
    obtain ⟨i, hi⟩ := List.mem_iff_getElem?.1 hm
    exact ⟨i, by rw [hi]; exact h⟩
def FrOk (fr : Frames) : Prop := ∀ x ∈ fr, x.2.n ≤ 1000000 ∧ x.2.l.length = x.2.n
def nmOf (B : List UInt8) : List UInt8 := (B.drop 5).take 32
def AskOk (fr : Frames) (l : List UInt8) : Prop := takeE l = 0 ∧ OkW (takeB l) ∧ wkd (takeB l) = 1 ∧ ∀ r, getF fr (nmOf (takeB l)) = some r → r.n ≤ 4106
def SaysS (fr : Frames) (l : List UInt8) (is : Bool) (body : List UInt8) : Prop :=
  (AskOk fr l ∧ is = true ∧ body = putL (wbody (if (getF fr (nmOf (takeB l))).isSome then 2 else 3) (ws (takeB l)) (nmOf (takeB l)) (((getF fr (nmOf (takeB l))).map (·.l)).getD []))) ∨
  (¬ AskOk fr l ∧ is = false ∧ body = [])
theorem may3 {s n : Nat} (h : s < 4294967296) (hn : n = 0) : WMay ((3 : Nat) : Int) s n := ⟨by omega, .inl hn⟩
theorem may2 {s n : Nat} (h : s < 4294967296) (hn : n ≤ 4106) : WMay ((2 : Nat) : Int) s n := ⟨by omega, .inr ⟨rfl, hn⟩⟩
theorem sanswerC {g gm : Nat} {A : Option Addr} {n c : Nat} {l : List UInt8} {fr : Frames} (hc : n ≤ c) (hn : n ≤ 1000000) (hfr : FrOk fr) : Con Try.prog 14 [.pointer (some ⟨g, 0, none⟩), .slice A n c] [RSrv g gm fr] [RRd 1 A n (b8s l)] (fun v_ X_ S_ => ∃ v bn body is, v_ = (.tuple #[v, .bool is]) ∧ X_ = [RSrv g gm fr, ROwn 5 1 v bn (b8s body)] ∧ S_ = [] ∧ (body.length = bn ∧ SaysS fr l is body)) := by
  refine henter (N := 42) Try.func14 rfl rfl (by simp) fun b => ?_
  refine hfactC (fun m => rdB (m.rd 0 rfl)) ?_
  rintro ⟨hl_r, hA_r⟩
  refine hseq <| hreg <| hy (fun _ => y_assign rfl) <| hy (fun _ => y_assign rfl) <| hend <| hthen <| hseq <| hreg <| hy (fun _ => y_move rfl) <| ?_
  refine hx (xh_call rfl Try.call42 (wreadC (by omega) (by omega)) [] rfl [0] rfl ?_)
  rintro _ _ _ ⟨k, s, nm, body, v, err, bn, rfl, rfl, rfl, hp⟩
  refine hfactL (fun m => (m.own 0 rfl).slice) ?_
  rintro ⟨A_x, c_x, rfl, hc_x⟩
  refine hfactL (fun m => (m.ord 0 rfl).2.1) fun hA_x => ?_
  obtain ⟨hnm, hbl, hR⟩ := hp
  refine hy (fun _ => y_move rfl) <| hy (fun _ => y_extract rfl rfl) <| hy (fun _ => y_extract rfl rfl) <| ?_
  refine hx (xh_alloc ti93 (fun g6 => ?_))
  refine hx0 (xh_stA 0 rfl rfl rfl sz93 (mc_len hnm) (mc_one rfl) rfl ?_)
  refine hy (fun _ => y_assign rfl) <| hend <| hsub (ρ' := [(7, _), (6, _), (5, _), (4, _), (0, _), (1, _)]) ⟨rfl, rfl, rfl, rfl, rfl, rfl, trivial⟩ <| hmemQ (X' := [_, _, _]) (S' := [_]) (fun _ m => m) <| hthen <| hseq <| hseq <| hreg <| hy (fun _ => y_move rfl) <| hy (fun _ => y_neq rfl rfl) <| hend <| hsub (ρ' := [(19, _), (7, _), (6, _), (5, _), (4, _), (0, _), (1, _)]) ⟨rfl, rfl, rfl, rfl, rfl, rfl, rfl, trivial⟩ <| hthen <| ?_
  refine hif rfl (fun he => ?_) (fun he => ?_)
  · refine hseq <| hreg <| hy (fun _ => y_assign rfl) <| hy (fun _ => y_assign rfl) <| hend <| hthen <| hret <| hthen_ret <| ?_
    refine hmemQ (fun w m => m.addX (r' := ROwn 5 1 (.slice none 0 0) 0 []) (.refl _ _) (Own.nil _ _ _ _) (fun k hk => hk.elim)) ?_
    exact hret2 trivial rfl rfl rfl [3, 0] rfl [] rfl ⟨_, _, [], _, rfl, rfl, rfl, ⟨rfl, .inr ⟨(fun h => he (by rcases hR with h1 | h1 | h1 <;> first | exact absurd h.1 h1.1 | exact h1.2.2.2.2.2.2 | exact absurd h.2.1 h1.2.1)), rfl, rfl⟩⟩⟩
  · have he := Decidable.not_not.1 he
    have hR' : takeE l = 0 ∧ OkW (takeB l) ∧ k = wkd (takeB l) ∧ s = ws (takeB l) ∧ nm = nmOf (takeB l) ∧ body = (takeB l).drop 37 := by
      rcases hR with h1 | h1 | h1
      · exact absurd (h1.2.2.2.2.2 ▸ he) h1.1
      · exact ⟨h1.1, h1.2.1, h1.2.2.1, h1.2.2.2.1, h1.2.2.2.2.1, h1.2.2.2.2.2.1⟩
      · exact absurd (h1.2.2.2.2.2.2 ▸ he) (by decide)
    obtain ⟨h0, hW, rfl, rfl, rfl, rfl⟩ := hR'
    refine hcskip <| hthen <| hseq <| hreg <| hy (fun _ => y_move rfl) <| hy (fun _ => y_fld rfl fa93_2 (by decide)) <| hy (fun m => yV (y_ldN rfl ag23 sz23 (by rw [b8s_length]; exact hnm) (mc_nm (m.blk 0 rfl))) ((rfl : Value.agg _ = DK ⟨nmOf (takeB l), hnm⟩))) <| ?_
    refine hx (xh_call rfl Try.call43 (sgetC (nm := ⟨nmOf (takeB l), hnm⟩)) [2] rfl [] rfl ?_)
    rintro _ _ _ ⟨rfl, rfl, rfl⟩
    rw [getF_eq]
    have hsl : ws (takeB l) < 4294967296 := num4_lt _
    have hbn : bn = (takeB l).length - 37 := by rw [← hbl, List.length_drop]
    rcases hq : getF fr (nmOf (takeB l)) with _ | r
    · refine hmemL (fun w m => m.addS (r' := RRd 1 none 0 []) (.refl _ _) (Rd.nil _ _ _) (fun k hk => absurd rfl hk.1)) ?_
      have hA_f : 0 < 0 → (none : Option Addr) ≠ none := fun h => absurd h (by decide)
      refine hy (fun _ => y_move rfl) <| hy (fun _ => y_extract rfl rfl) <| hy (fun _ => y_extract rfl rfl) <| hy (fun _ => y_assign rfl) <| hy (fun _ => y_assign rfl) <| hend <| hsub (ρ' := [(9, _), (8, _), (19, _), (7, _), (6, _), (5, _), (4, _), (0, _), (1, _)]) ⟨rfl, rfl, rfl, rfl, rfl, rfl, rfl, rfl, rfl, trivial⟩ <| hmemQ (X' := [_, _, _]) (S' := [_, _]) (fun _ m => m) <| hthen <| hseq <| hreg <| hy (fun m => y_ldN rfl ag93 sz93 (mc_len hnm) ((m.blk 1 rfl).cells0)) <| hy (fun _ => y_move rfl) <| hy (fun _ => y_move rfl) <| ?_
      refine hx (xh_call rfl Try.call44 (wanswerC (by omega) (by omega) (l := [])) [] rfl [0] rfl ?_)
      rintro _ _ _ ⟨k1, s1, nm1, body2, v2, err2, bn2, rfl, rfl, rfl, hp2⟩
      refine hfactL (fun m => (m.own 0 rfl).slice) ?_
      rintro ⟨A_x2, c_x2, rfl, hc_x2⟩
      refine hfactL (fun m => (m.ord 0 rfl).2.1) fun hA_x2 => ?_
      obtain ⟨hnm1, hbl1, hA⟩ := hp2
      refine hy (fun _ => y_move rfl) <| hy (fun _ => y_extract rfl rfl) <| hy (fun _ => y_extract rfl rfl) <| ?_
      refine hx (xh_alloc ti93 (fun g10 => ?_))
      refine hx0 (xh_stA 0 rfl rfl rfl sz93 (mc_len hnm1) (mc_one rfl) rfl ?_)
      refine hy (fun _ => y_assign rfl) <| hend <| hsub (ρ' := [(7, _), (10, _), (9, _), (8, _), (19, _), (6, _), (5, _), (4, _), (0, _), (1, _)]) ⟨rfl, rfl, rfl, rfl, rfl, rfl, rfl, rfl, rfl, rfl, trivial⟩ <| hmemQ (X' := [_, _, _, _, _]) (S' := [_, _]) (fun _ m => m) <| hthen <| hseq <| hseq <| hreg <| hy (fun _ => y_move rfl) <| hy (fun _ => y_neq rfl rfl) <| hend <| hsub (ρ' := [(35, _), (7, _), (10, _), (9, _), (8, _), (19, _), (6, _), (5, _), (4, _), (0, _), (1, _)]) ⟨rfl, rfl, rfl, rfl, rfl, rfl, rfl, rfl, rfl, rfl, rfl, trivial⟩ <| hthen <| ?_
      refine hif rfl (fun he1 => ?_) (fun he1 => ?_)
      · refine hseq <| hreg <| hy (fun _ => y_assign rfl) <| hy (fun _ => y_assign rfl) <| hend <| hthen <| hret <| hthen_ret <| ?_
        refine hmemQ (fun w m => m.addX (r' := ROwn 5 1 (.slice none 0 0) 0 []) (.refl _ _) (Own.nil _ _ _ _) (fun k hk => hk.elim)) ?_
        exact hret2 trivial rfl rfl rfl [3, 0] rfl [] rfl ⟨_, _, [], _, rfl, rfl, rfl, ⟨rfl, .inr ⟨(fun h => he1 (by rcases hA with h1 | h1; exact h1.2.1; exact absurd ⟨h.2.2.1, by rw [hbn]; exact h.2.1.2, (fun e => by cases e)⟩ h1.1)), rfl, rfl⟩⟩⟩
      · have he1 := Decidable.not_not.1 he1
        have hA' : AnsOk (wkd (takeB l)) (ws (takeB l)) bn false 0 ∧ k1 = ((3 : Nat) : Int) ∧ s1 = (ws (takeB l) : Nat) ∧ nm1 = nmOf (takeB l) ∧ body2 = [] := by
          rcases hA with h1 | h1
          · exact ⟨h1.1, h1.2.2.1, h1.2.2.2.1, h1.2.2.2.2.1, h1.2.2.2.2.2⟩
          · exact absurd (h1.2.1 ▸ he1) (by decide)
        obtain ⟨hAns, rfl, rfl, rfl, rfl⟩ := hA'
        refine hcskip <| hthen <| hseq <| hreg <| hy (fun m => y_ldN rfl ag93 sz93 (mc_len hnm) ((m.blk 0 rfl).cells0)) <| ?_
        refine hx (xh_calll rfl Try.call45 (wwriteC (by omega) (by omega) (may3 hsl (by rw [← hbl1]; rfl))) [] rfl (.x 1 rfl .own .nil) ?_)
        rintro _ _ _ ⟨v3, rfl, rfl, rfl⟩
        refine ⟨rfl, ?_⟩
        refine hfactL (fun m => (m.own 0 rfl).slice) ?_
        rintro ⟨A_x3, c_x3, rfl, hc_x3⟩
        refine hfactL (fun m => (m.ord 0 rfl).2.1) fun hA_x3 => ?_
        refine hy (fun _ => y_move rfl) <| hy (fun _ => y_extract rfl rfl) <| hy (fun _ => y_extract rfl rfl) <| hy (fun _ => y_assign rfl) <| hy (fun _ => y_assign rfl) <| hend <| hsub (ρ' := [(11, _), (35, _), (7, _), (10, _), (9, _), (8, _), (19, _), (6, _), (5, _), (4, _), (0, _), (1, _)]) ⟨rfl, rfl, rfl, rfl, rfl, rfl, rfl, rfl, rfl, rfl, rfl, rfl, trivial⟩ <| hmemQ (X' := [_, _, _, _, _, _]) (S' := [_, _]) (fun _ m => m) <| hthen <| hseq <| hreg <| hy (fun _ => y_move rfl) <| hy (fun _ => y_assign rfl) <| hy (fun _ => y_assign rfl) <| hend <| hsub (ρ' := [(5, _), (4, _), (11, _), (35, _), (7, _), (10, _), (9, _), (8, _), (19, _), (6, _), (0, _), (1, _)]) ⟨rfl, rfl, rfl, rfl, rfl, rfl, rfl, rfl, rfl, rfl, rfl, rfl, trivial⟩ <| hthen <| hret <| ?_
        exact hret2 trivial rfl rfl rfl [3, 0] rfl [] rfl ⟨_, _, putL (wbody 3 (ws (takeB l)) (nmOf (takeB l)) []), _, rfl, rfl, rfl, ⟨by rw [putL_length, wbody_len hnm, hbl1], .inl ⟨⟨h0, hW, hAns.1, (fun r e => by rw [hq] at e; cases e)⟩, rfl, by rw [hq]; rfl⟩⟩⟩
    · obtain ⟨x0, hmx, rfl⟩ := getF_mem hq
      obtain ⟨hrn, hrl⟩ := hfr x0 hmx
      obtain ⟨ri, hri⟩ := getF_row hq
      refine hy (fun _ => y_move rfl) <| hy (fun _ => y_extract rfl rfl) <| hy (fun _ => y_extract rfl rfl) <| hy (fun _ => y_assign rfl) <| hy (fun _ => y_assign rfl) <| hend <| hsub (ρ' := [(9, _), (8, _), (19, _), (7, _), (6, _), (5, _), (4, _), (0, _), (1, _)]) ⟨rfl, rfl, rfl, rfl, rfl, rfl, rfl, rfl, rfl, trivial⟩ <| hthen <| hseq <| hreg <| hy (fun m => y_ldN rfl ag93 sz93 (mc_len hnm) ((m.blk 1 rfl).cells0)) <| hy (fun _ => y_move rfl) <| hy (fun _ => y_move rfl) <| ?_
      refine hx (xh_calll rfl Try.call44 (wanswerC (by omega) (by omega) (l := x0.2.l)) [] rfl (.x 0 rfl ((View.comp 2 rfl).trans (View.row hri)) .nil) ?_)
      rintro _ _ _ ⟨k1, s1, nm1, body2, v2, err2, bn2, rfl, rfl, rfl, hp2⟩
      refine ⟨rfl, ?_⟩
      refine hfactL (fun m => (m.own 0 rfl).slice) ?_
      rintro ⟨A_x2, c_x2, rfl, hc_x2⟩
      refine hfactL (fun m => (m.ord 0 rfl).2.1) fun hA_x2 => ?_
      obtain ⟨hnm1, hbl1, hA⟩ := hp2
      refine hy (fun _ => y_move rfl) <| hy (fun _ => y_extract rfl rfl) <| hy (fun _ => y_extract rfl rfl) <| ?_
      refine hx (xh_alloc ti93 (fun g10 => ?_))
      refine hx0 (xh_stA 0 rfl rfl rfl sz93 (mc_len hnm1) (mc_one rfl) rfl ?_)
      refine hy (fun _ => y_assign rfl) <| hend <| hsub (ρ' := [(7, _), (10, _), (9, _), (8, _), (19, _), (6, _), (5, _), (4, _), (0, _), (1, _)]) ⟨rfl, rfl, rfl, rfl, rfl, rfl, rfl, rfl, rfl, rfl, trivial⟩ <| hmemQ (X' := [_, _, _, _, _]) (S' := [_]) (fun _ m => m) <| hthen <| hseq <| hseq <| hreg <| hy (fun _ => y_move rfl) <| hy (fun _ => y_neq rfl rfl) <| hend <| hsub (ρ' := [(35, _), (7, _), (10, _), (9, _), (8, _), (19, _), (6, _), (5, _), (4, _), (0, _), (1, _)]) ⟨rfl, rfl, rfl, rfl, rfl, rfl, rfl, rfl, rfl, rfl, rfl, trivial⟩ <| hthen <| ?_
      refine hif rfl (fun he1 => ?_) (fun he1 => ?_)
      · refine hseq <| hreg <| hy (fun _ => y_assign rfl) <| hy (fun _ => y_assign rfl) <| hend <| hthen <| hret <| hthen_ret <| ?_
        refine hmemQ (fun w m => m.addX (r' := ROwn 5 1 (.slice none 0 0) 0 []) (.refl _ _) (Own.nil _ _ _ _) (fun k hk => hk.elim)) ?_
        exact hret2 trivial rfl rfl rfl [3, 0] rfl [] rfl ⟨_, _, [], _, rfl, rfl, rfl, ⟨rfl, .inr ⟨(fun h => he1 (by rcases hA with h1 | h1; exact h1.2.1; exact absurd ⟨h.2.2.1, by rw [hbn]; exact h.2.1.2, (fun _ => h.2.2.2 _ hq)⟩ h1.1)), rfl, rfl⟩⟩⟩
      · have he1 := Decidable.not_not.1 he1
        have hA' : AnsOk (wkd (takeB l)) (ws (takeB l)) bn true x0.2.n ∧ k1 = ((2 : Nat) : Int) ∧ s1 = (ws (takeB l) : Nat) ∧ nm1 = nmOf (takeB l) ∧ body2 = x0.2.l := by
          rcases hA with h1 | h1
          · exact ⟨h1.1, h1.2.2.1, h1.2.2.2.1, h1.2.2.2.2.1, h1.2.2.2.2.2⟩
          · exact absurd (h1.2.1 ▸ he1) (by decide)
        obtain ⟨hAns, rfl, rfl, rfl, rfl⟩ := hA'
        refine hcskip <| hthen <| hseq <| hreg <| hy (fun m => y_ldN rfl ag93 sz93 (mc_len hnm) ((m.blk 0 rfl).cells0)) <| ?_
        refine hx (xh_calll rfl Try.call45 (wwriteC (by omega) (by omega) (may2 hsl (by rw [← hbl1, hrl]; exact hAns.2.2 rfl))) [] rfl (.x 1 rfl .own .nil) ?_)
        rintro _ _ _ ⟨v3, rfl, rfl, rfl⟩
        refine ⟨rfl, ?_⟩
        refine hfactL (fun m => (m.own 0 rfl).slice) ?_
        rintro ⟨A_x3, c_x3, rfl, hc_x3⟩
        refine hfactL (fun m => (m.ord 0 rfl).2.1) fun hA_x3 => ?_
        refine hy (fun _ => y_move rfl) <| hy (fun _ => y_extract rfl rfl) <| hy (fun _ => y_extract rfl rfl) <| hy (fun _ => y_assign rfl) <| hy (fun _ => y_assign rfl) <| hend <| hsub (ρ' := [(11, _), (35, _), (7, _), (10, _), (9, _), (8, _), (19, _), (6, _), (5, _), (4, _), (0, _), (1, _)]) ⟨rfl, rfl, rfl, rfl, rfl, rfl, rfl, rfl, rfl, rfl, rfl, rfl, trivial⟩ <| hmemQ (X' := [_, _, _, _, _, _]) (S' := [_]) (fun _ m => m) <| hthen <| hseq <| hreg <| hy (fun _ => y_move rfl) <| hy (fun _ => y_assign rfl) <| hy (fun _ => y_assign rfl) <| hend <| hsub (ρ' := [(5, _), (4, _), (11, _), (35, _), (7, _), (10, _), (9, _), (8, _), (19, _), (6, _), (0, _), (1, _)]) ⟨rfl, rfl, rfl, rfl, rfl, rfl, rfl, rfl, rfl, rfl, rfl, rfl, trivial⟩ <| hthen <| hret <| ?_
        exact hret2 trivial rfl rfl rfl [3, 0] rfl [] rfl ⟨_, _, putL (wbody 2 (ws (takeB l)) (nmOf (takeB l)) x0.2.l), _, rfl, rfl, rfl, ⟨by rw [putL_length, wbody_len hnm, hbl1], .inl ⟨⟨h0, hW, hAns.1, (fun r2 e => by rw [hq] at e; cases e; exact hAns.2.2 rfl)⟩, rfl, by rw [hq]; rfl⟩⟩⟩
end Go.Proofs.Ytpcgpnijhpcbeaa
