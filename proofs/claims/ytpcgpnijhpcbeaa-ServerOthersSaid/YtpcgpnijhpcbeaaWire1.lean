/- Contracts: what is said (wire, and the document's). -/
import Derived.Test.YtpcgpnijhpcbeaaCon2
import Derived.Test.YtpcgpnijhpcbeaaPlainOne
import Derived.Test.YtpcgpnijhpcbeaaPlainRead2
import Derived.Test.YtpcgpnijhpcbeaaMem6
set_option linter.unusedVariables false
set_option linter.unusedSimpArgs false
set_option maxRecDepth 20000
namespace Go.Proofs.Ytpcgpnijhpcbeaa
open Go.Eng Go.Hx
/-- a message's cells -/
@[reducible] def mc (k s : Int) (nm : List UInt8) (v : Value) : List Value := .int .i64 k :: .int .i64 s :: (b8s nm ++ [v])
theorem mc_len {k s : Int} {nm : List UInt8} {v : Value} (h : nm.length = 32) : (mc k s nm v).length = 35 := by simp [b8s_length, h]
theorem mc_one {k s : Int} {nm : List UInt8} {v : Value} (hv : v.oneCell' = true) : ∀ u ∈ mc k s nm v, u.oneCell' = true := by
  intro u hu
  rcases List.mem_cons.1 hu with rfl | hu
  · rfl
  · rcases List.mem_cons.1 hu with rfl | hu
    · rfl
    · exact j_one hv u hu
theorem mc_get {k s : Int} {nm : List UInt8} {v : Value} (h : nm.length = 32) : (mc k s nm v)[34]? = some v := by
  show (b8s nm ++ [v])[32]? = _
  rw [List.getElem?_append_right (by rw [b8s_length, h]; exact Nat.le_refl _), b8s_length, h]; rfl
theorem mc_set {k s : Int} {nm : List UInt8} {u v : Value} (h : nm.length = 32) : (mc k s nm u).set 34 v = mc k s nm v := by
  show _ :: _ :: (b8s nm ++ [u]).set 32 v = _
  rw [j_set h]
theorem mc_nm {w : World} {g : Nat} {t : TypeId} {k s : Int} {nm : List UInt8} {v : Value} (h : Blk w g t (mc k s nm v)) : ∀ (j : Nat) (u : Value), (b8s nm)[j]? = some u → w.cell? (((⟨g, 0, none⟩ : Addr).add 2).add j) = some u :=
  h.part 2 (fun j u hu => by rw [Nat.add_comm]; show (b8s nm ++ [v])[j]? = _; rw [List.getElem?_append_left (List.getElem?_eq_some_iff.1 hu).1]; exact hu)
theorem mc_v {w : World} {g : Nat} {t : TypeId} {k s : Int} {nm : List UInt8} {v : Value} (h : Blk w g t (mc k s nm v)) (hn : nm.length = 32) : w.cell? ((⟨g, 0, none⟩ : Addr).add 34) = some v := h.cell_add (mc_get hn)
theorem splice_nm {k s : Int} {zi nm : List UInt8} {z : Value} (hz : zi.length = 32) (hn : nm.length = 32) : splice (mc k s zi z) 2 (b8s nm) = mc k s nm z := by
  simp only [splice, List.take_succ_cons, List.take_zero, List.cons_append, List.nil_append, b8s_length, hn, mc]
  congr 2
  show b8s nm ++ (b8s zi ++ [z]).drop 32 = _
  rw [List.drop_append, List.drop_of_length_le (by rw [b8s_length, hz]; omega), b8s_length, hz]
  rfl
theorem bldM {P : Program} {pl : Nat → Option (Nat × Nat)} {zi nm : List UInt8} {z : Value} {k0 k s : Int} (h0 : pl 0 = some (0, 1)) (h2 : pl 2 = some (2, 32)) (hz : zi.length = 32) (hn : nm.length = 32) : Bld P pl (mc k0 s zi z) [(0, .int .i64 k), (2, .agg (b8s nm).toArray)] (mc k s nm z) :=
  .cons h0 rfl rfl (by rw [mc_len hz]; decide) (.cons h2 (cells_agg _) (by rw [b8s_length, hn]) (show 34 ≤ (mc k s zi z).length by rw [mc_len hz]; decide) (by show Bld P pl (splice (mc k s zi z) 2 (b8s nm)) _ _; rw [splice_nm hz hn]; exact .nil))
theorem bldM3 {P : Program} {pl : Nat → Option (Nat × Nat)} {zi nm : List UInt8} {z : Value} {k0 s0 k s : Int} (h0 : pl 0 = some (0, 1)) (h1 : pl 1 = some (1, 1)) (h2 : pl 2 = some (2, 32)) (hz : zi.length = 32) (hn : nm.length = 32) : Bld P pl (mc k0 s0 zi z) [(0, .int .i64 k), (1, .int .i64 s), (2, .agg (b8s nm).toArray)] (mc k s nm z) :=
  .cons h0 rfl rfl (by rw [mc_len hz]; decide) (.cons h1 rfl rfl (show 2 ≤ (mc k s0 zi z).length by rw [mc_len hz]; decide) (.cons h2 (cells_agg _) (by rw [b8s_length, hn]) (show 34 ≤ (mc k s zi z).length by rw [mc_len hz]; decide) (by show Bld P pl (splice (mc k s zi z) 2 (b8s nm)) _ _; rw [splice_nm hz hn]; exact .nil)))
theorem z32' : (List.replicate 32 (0 : UInt8)).length = 32 := by simp
/-- which messages may be -/
def WMay (k s : Int) (n : Nat) : Prop := (1 ≤ k ∧ k ≤ 3 ∧ 0 ≤ s ∧ s ≤ 4294967295) ∧ (n = 0 ∨ (k = 2 ∧ n ≤ 4106))
instance (k s : Int) (n : Nat) : Decidable (WMay k s n) := by unfold WMay; infer_instance
theorem mayC {k s : Int} {nm : List UInt8} {A : Option Addr} {n c : Nat} (hm : nm.length = 32) : Con Try.prog 68 [.agg (mc k s nm (.slice A n c)).toArray] [] [] (fun v_ X_ S_ => v_ = (.bool (decide (WMay k s n))) ∧ X_ = [] ∧ S_ = []) := by
  refine henter (N := 36) Try.func68 rfl rfl (by simp) fun b => ?_
  refine hseq <| hreg <| ?_
  refine hx (xh_box rfl (fun g1 => ?_))
  refine hmemL (fun w m => m.eqX 0 rfl (show _ = RBlk g1 93 (mc k s nm (.slice A n c)) from congrArg (RBlk _ _) (cells_agg _))) ?_
  by_cases h1 : k < 1
  · refine hy (fun _ => y_assign rfl) <| hend <| hmemQ (X' := [_]) (S' := []) (fun _ m => m) <| hthen <| hseq <| hseq <| hreg <| hy (fun _ => y_fld rfl fa93_0 (by decide)) <| hy (fun m => y_ld1 rfl ag3 (ld_blk (m.blk 0 rfl) rfl)) <| hy (fun _ => yT (y_lss rfl rfl) ((decide_eq_true h1))) <| hy (fun _ => y_move rfl) <| hskip rfl rfl rfl (by decide) <| hskip rfl rfl rfl (by decide) <| hskip rfl rfl rfl (by decide) <| hy (fun _ => y_pickT rfl rfl) <| hy (fun _ => y_move rfl) <| hskip rfl rfl rfl (by decide) <| hskip rfl rfl rfl (by decide) <| hskip rfl rfl rfl (by decide) <| hy (fun _ => y_pickT rfl rfl) <| hy (fun _ => y_move rfl) <| hskip rfl rfl rfl (by decide) <| hskip rfl rfl rfl (by decide) <| hskip rfl rfl rfl (by decide) <| hy (fun _ => y_pickT rfl rfl) <| hend <| hsub (ρ' := [(20, _), (2, _), (1, _), (0, _)]) ⟨rfl, rfl, rfl, rfl, trivial⟩ <| hthen <| ?_
    refine hift rfl (rfl) ?_
    refine hseq <| hreg <| hy (fun _ => y_assign rfl) <| hend <| hthen <| hret <| hthen_ret <| ?_
    exact hret1 trivial rfl rfl [] rfl [] rfl ⟨(congrArg Value.bool (decide_eq_false (fun h => by unfold WMay at h; omega)).symm), rfl, rfl⟩
  · by_cases h2 : 3 < k
    · refine hy (fun _ => y_assign rfl) <| hend <| hthen <| hseq <| hseq <| hreg <| hy (fun _ => y_fld rfl fa93_0 (by decide)) <| hy (fun m => y_ld1 rfl ag3 (ld_blk (m.blk 0 rfl) rfl)) <| hy (fun _ => yF (y_lss rfl rfl) ((decide_eq_false h1))) <| hy (fun _ => y_move rfl) <| hyg (o := _) rfl rfl rfl (fun _ => y_fld rfl fa93_0 (by decide)) <| hyg (o := _) rfl rfl rfl (fun m => y_ld1 rfl ag3 (ld_blk (m.blk 0 rfl) rfl)) <| hyg (o := _) rfl rfl rfl (fun _ => yT (y_gtr rfl rfl) ((decide_eq_true h2))) <| hy (fun _ => y_pickF rfl rfl) <| hy (fun _ => y_move rfl) <| hskip rfl rfl rfl (by decide) <| hskip rfl rfl rfl (by decide) <| hskip rfl rfl rfl (by decide) <| hy (fun _ => y_pickT rfl rfl) <| hy (fun _ => y_move rfl) <| hskip rfl rfl rfl (by decide) <| hskip rfl rfl rfl (by decide) <| hskip rfl rfl rfl (by decide) <| hy (fun _ => y_pickT rfl rfl) <| hend <| hsub (ρ' := [(20, _), (2, _), (1, _), (0, _)]) ⟨rfl, rfl, rfl, rfl, trivial⟩ <| hthen <| ?_
      refine hift rfl (rfl) ?_
      refine hseq <| hreg <| hy (fun _ => y_assign rfl) <| hend <| hthen <| hret <| hthen_ret <| ?_
      exact hret1 trivial rfl rfl [] rfl [] rfl ⟨(congrArg Value.bool (decide_eq_false (fun h => by unfold WMay at h; omega)).symm), rfl, rfl⟩
    · by_cases h3 : s < 0
      · refine hy (fun _ => y_assign rfl) <| hend <| hthen <| hseq <| hseq <| hreg <| hy (fun _ => y_fld rfl fa93_0 (by decide)) <| hy (fun m => y_ld1 rfl ag3 (ld_blk (m.blk 0 rfl) rfl)) <| hy (fun _ => yF (y_lss rfl rfl) ((decide_eq_false h1))) <| hy (fun _ => y_move rfl) <| hyg (o := _) rfl rfl rfl (fun _ => y_fld rfl fa93_0 (by decide)) <| hyg (o := _) rfl rfl rfl (fun m => y_ld1 rfl ag3 (ld_blk (m.blk 0 rfl) rfl)) <| hyg (o := _) rfl rfl rfl (fun _ => yF (y_gtr rfl rfl) ((decide_eq_false h2))) <| hy (fun _ => y_pickF rfl rfl) <| hy (fun _ => y_move rfl) <| hyg (o := _) rfl rfl rfl (fun _ => y_fld rfl fa93_1 (by decide)) <| hyg (o := _) rfl rfl rfl (fun m => y_ld1 rfl ag3 (ld_blk (m.blk 0 rfl) rfl)) <| hyg (o := _) rfl rfl rfl (fun _ => yT (y_lss rfl rfl) ((decide_eq_true h3))) <| hy (fun _ => y_pickF rfl rfl) <| hy (fun _ => y_move rfl) <| hskip rfl rfl rfl (by decide) <| hskip rfl rfl rfl (by decide) <| hskip rfl rfl rfl (by decide) <| hy (fun _ => y_pickT rfl rfl) <| hend <| hsub (ρ' := [(20, _), (2, _), (1, _), (0, _)]) ⟨rfl, rfl, rfl, rfl, trivial⟩ <| hthen <| ?_
        refine hift rfl (rfl) ?_
        refine hseq <| hreg <| hy (fun _ => y_assign rfl) <| hend <| hthen <| hret <| hthen_ret <| ?_
        exact hret1 trivial rfl rfl [] rfl [] rfl ⟨(congrArg Value.bool (decide_eq_false (fun h => by unfold WMay at h; omega)).symm), rfl, rfl⟩
      · by_cases h4 : 4294967295 < s
        · refine hy (fun _ => y_assign rfl) <| hend <| hthen <| hseq <| hseq <| hreg <| hy (fun _ => y_fld rfl fa93_0 (by decide)) <| hy (fun m => y_ld1 rfl ag3 (ld_blk (m.blk 0 rfl) rfl)) <| hy (fun _ => yF (y_lss rfl rfl) ((decide_eq_false h1))) <| hy (fun _ => y_move rfl) <| hyg (o := _) rfl rfl rfl (fun _ => y_fld rfl fa93_0 (by decide)) <| hyg (o := _) rfl rfl rfl (fun m => y_ld1 rfl ag3 (ld_blk (m.blk 0 rfl) rfl)) <| hyg (o := _) rfl rfl rfl (fun _ => yF (y_gtr rfl rfl) ((decide_eq_false h2))) <| hy (fun _ => y_pickF rfl rfl) <| hy (fun _ => y_move rfl) <| hyg (o := _) rfl rfl rfl (fun _ => y_fld rfl fa93_1 (by decide)) <| hyg (o := _) rfl rfl rfl (fun m => y_ld1 rfl ag3 (ld_blk (m.blk 0 rfl) rfl)) <| hyg (o := _) rfl rfl rfl (fun _ => yF (y_lss rfl rfl) ((decide_eq_false h3))) <| hy (fun _ => y_pickF rfl rfl) <| hy (fun _ => y_move rfl) <| hyg (o := _) rfl rfl rfl (fun _ => y_fld rfl fa93_1 (by decide)) <| hyg (o := _) rfl rfl rfl (fun m => y_ld1 rfl ag3 (ld_blk (m.blk 0 rfl) rfl)) <| hyg (o := _) rfl rfl rfl (fun _ => yT (y_gtr rfl rfl) ((decide_eq_true h4))) <| hy (fun _ => y_pickF rfl rfl) <| hend <| hsub (ρ' := [(20, _), (2, _), (1, _), (0, _)]) ⟨rfl, rfl, rfl, rfl, trivial⟩ <| hthen <| ?_
          refine hift rfl (rfl) ?_
          refine hseq <| hreg <| hy (fun _ => y_assign rfl) <| hend <| hthen <| hret <| hthen_ret <| ?_
          exact hret1 trivial rfl rfl [] rfl [] rfl ⟨(congrArg Value.bool (decide_eq_false (fun h => by unfold WMay at h; omega)).symm), rfl, rfl⟩
        · refine hy (fun _ => y_assign rfl) <| hend <| hthen <| hseq <| hseq <| hreg <| hy (fun _ => y_fld rfl fa93_0 (by decide)) <| hy (fun m => y_ld1 rfl ag3 (ld_blk (m.blk 0 rfl) rfl)) <| hy (fun _ => yF (y_lss rfl rfl) ((decide_eq_false h1))) <| hy (fun _ => y_move rfl) <| hyg (o := _) rfl rfl rfl (fun _ => y_fld rfl fa93_0 (by decide)) <| hyg (o := _) rfl rfl rfl (fun m => y_ld1 rfl ag3 (ld_blk (m.blk 0 rfl) rfl)) <| hyg (o := _) rfl rfl rfl (fun _ => yF (y_gtr rfl rfl) ((decide_eq_false h2))) <| hy (fun _ => y_pickF rfl rfl) <| hy (fun _ => y_move rfl) <| hyg (o := _) rfl rfl rfl (fun _ => y_fld rfl fa93_1 (by decide)) <| hyg (o := _) rfl rfl rfl (fun m => y_ld1 rfl ag3 (ld_blk (m.blk 0 rfl) rfl)) <| hyg (o := _) rfl rfl rfl (fun _ => yF (y_lss rfl rfl) ((decide_eq_false h3))) <| hy (fun _ => y_pickF rfl rfl) <| hy (fun _ => y_move rfl) <| hyg (o := _) rfl rfl rfl (fun _ => y_fld rfl fa93_1 (by decide)) <| hyg (o := _) rfl rfl rfl (fun m => y_ld1 rfl ag3 (ld_blk (m.blk 0 rfl) rfl)) <| hyg (o := _) rfl rfl rfl (fun _ => yF (y_gtr rfl rfl) ((decide_eq_false h4))) <| hy (fun _ => y_pickF rfl rfl) <| hend <| hsub (ρ' := [(20, _), (2, _), (1, _), (0, _)]) ⟨rfl, rfl, rfl, rfl, trivial⟩ <| hthen <| ?_
          refine hiff rfl (rfl) ?_
          by_cases h5 : n = 0
          · refine hcskip <| hthen <| hseq <| hreg <| hy (fun _ => y_fld rfl fa93_3 (by decide)) <| hy (fun m => y_ld1 rfl ag29 (mc_v (m.blk 0 rfl) hm)) <| hy (fun _ => y_lenS rfl Try.underlying29) <| hy (fun _ => yT (y_eql rfl rfl) ((decide_eq_true (by omega)))) <| hy (fun _ => y_move rfl) <| hskip rfl rfl rfl (by decide) <| hskip rfl rfl rfl (by decide) <| hskip rfl rfl rfl (by decide) <| hskip rfl rfl rfl (by decide) <| hskipU rfl rfl rfl <| hskipU rfl rfl rfl <| hskipU rfl rfl rfl <| hskipU rfl rfl rfl <| hskip rfl rfl rfl (by decide) <| hy (fun _ => y_pickT rfl rfl) <| hy (fun _ => y_assign rfl) <| hend <| hsub (ρ' := [(2, _), (20, _), (1, _), (0, _)]) ⟨rfl, rfl, rfl, rfl, trivial⟩ <| hthen <| hret <| ?_
            exact hret1 trivial rfl rfl [] rfl [] rfl ⟨(congrArg Value.bool (decide_eq_true ⟨by omega, .inl h5⟩).symm), rfl, rfl⟩
          · by_cases h6 : k = 2
            · refine hcskip <| hthen <| hseq <| hreg <| hy (fun _ => y_fld rfl fa93_3 (by decide)) <| hy (fun m => y_ld1 rfl ag29 (mc_v (m.blk 0 rfl) hm)) <| hy (fun _ => y_lenS rfl Try.underlying29) <| hy (fun _ => yF (y_eql rfl rfl) ((decide_eq_false (by omega)))) <| hy (fun _ => y_move rfl) <| hyg (o := _) rfl rfl rfl (fun _ => y_fld rfl fa93_0 (by decide)) <| hyg (o := _) rfl rfl rfl (fun m => y_ld1 rfl ag3 (ld_blk (m.blk 0 rfl) rfl)) <| hyg (o := _) rfl rfl rfl (fun _ => yT (y_eql rfl rfl) ((decide_eq_true h6))) <| hyg (o := _) rfl rfl rfl (fun _ => y_move rfl) <| hyg (o := _) rfl rfl rfl (fun _ => y_fld rfl fa93_3 (by decide)) <| hyg (o := _) rfl rfl rfl (fun m => y_ld1 rfl ag29 (mc_v (m.blk 0 rfl) hm)) <| hyg (o := _) rfl rfl rfl (fun _ => y_lenS rfl Try.underlying29) <| hyg (o := _) rfl rfl rfl (fun _ => y_leq rfl rfl) <| hyg (o := _) rfl rfl rfl (fun _ => y_pickT rfl rfl) <| hy (fun _ => y_pickF rfl rfl) <| hy (fun _ => y_assign rfl) <| hend <| hsub (ρ' := [(2, _), (20, _), (1, _), (0, _)]) ⟨rfl, rfl, rfl, rfl, trivial⟩ <| hthen <| hret <| ?_
              exact hret1 trivial rfl rfl [] rfl [] rfl ⟨(congrArg Value.bool (decide_eq_decide.2 ⟨fun h => ⟨by omega, .inr ⟨h6, by omega⟩⟩, fun h => by unfold WMay at h; omega⟩)), rfl, rfl⟩
            · refine hcskip <| hthen <| hseq <| hreg <| hy (fun _ => y_fld rfl fa93_3 (by decide)) <| hy (fun m => y_ld1 rfl ag29 (mc_v (m.blk 0 rfl) hm)) <| hy (fun _ => y_lenS rfl Try.underlying29) <| hy (fun _ => yF (y_eql rfl rfl) ((decide_eq_false (by omega)))) <| hy (fun _ => y_move rfl) <| hyg (o := _) rfl rfl rfl (fun _ => y_fld rfl fa93_0 (by decide)) <| hyg (o := _) rfl rfl rfl (fun m => y_ld1 rfl ag3 (ld_blk (m.blk 0 rfl) rfl)) <| hyg (o := _) rfl rfl rfl (fun _ => yF (y_eql rfl rfl) ((decide_eq_false h6))) <| hyg (o := _) rfl rfl rfl (fun _ => y_move rfl) <| hskip rfl rfl rfl (by decide) <| hskip rfl rfl rfl (by decide) <| hskip rfl rfl rfl (by decide) <| hskip rfl rfl rfl (by decide) <| hyg (o := _) rfl rfl rfl (fun _ => y_pickF rfl rfl) <| hy (fun _ => y_pickF rfl rfl) <| hy (fun _ => y_assign rfl) <| hend <| hsub (ρ' := [(2, _), (20, _), (1, _), (0, _)]) ⟨rfl, rfl, rfl, rfl, trivial⟩ <| hthen <| hret <| ?_
              exact hret1 trivial rfl rfl [] rfl [] rfl ⟨(congrArg Value.bool (decide_eq_false (fun h => by unfold WMay at h; omega)).symm), rfl, rfl⟩
theorem Rd.part {w : World} {a : Addr} {n k m : Nat} {B : List UInt8} (h : Rd w 1 (some a) n (b8s B)) : ∀ (j : Nat) (u : Value), (b8s ((B.drop k).take m))[j]? = some u → w.cell? ((a.add k).add j) = some u := by
  intro j u hu
  rw [add_add]
  refine h.cell ?_
  unfold b8s at hu ⊢
  rw [List.getElem?_map, List.getElem?_take] at hu
  rw [List.getElem?_map]
  split at hu
  · rw [List.getElem?_drop] at hu; exact hu
  · simp at hu
/-- what is read of bytes -/
def wkd (B : List UInt8) : Int := ((B.getD 0 0).toNat : Nat)
def ws (B : List UInt8) : Nat := num4 ((B.drop 1).take 4)
def OkW (B : List UInt8) : Prop := 37 ≤ B.length ∧ WMay (wkd B) (ws B) (B.length - 37)
def zm : List UInt8 := List.replicate 32 0
def ReadW (l : List UInt8) (k s : Int) (nm body : List UInt8) (err : Int) : Prop :=
  (takeE l ≠ 0 ∧ k = 0 ∧ s = 0 ∧ nm = zm ∧ body = [] ∧ err = takeE l) ∨
  (takeE l = 0 ∧ OkW (takeB l) ∧ k = wkd (takeB l) ∧ s = ws (takeB l) ∧ nm = ((takeB l).drop 5).take 32 ∧ body = (takeB l).drop 37 ∧ err = 0) ∨
  (takeE l = 0 ∧ ¬ OkW (takeB l) ∧ k = 0 ∧ s = 0 ∧ nm = zm ∧ body = [] ∧ err = 2)
theorem wreadC {A : Option Addr} {n c : Nat} {l : List UInt8} (hc : n ≤ c) (hn : n ≤ 1000000) : Con Try.prog 42 [.slice A n c] [] [RRd 1 A n (b8s l)] (fun v_ X_ S_ => ∃ k s nm body v err bn, v_ = (.tuple #[.agg (mc k s nm v).toArray, .int .i64 err]) ∧ X_ = [ROwn 5 1 v bn (b8s body)] ∧ S_ = [] ∧ (nm.length = 32 ∧ body.length = bn ∧ ReadW l k s nm body err)) := by
  have z32 : zm.length = 32 := by simp [zm]
  refine henter (N := 53) Try.func42 rfl rfl (by simp) fun b => ?_
  refine hfactC (fun m => rdB (m.rd 0 rfl)) ?_
  rintro ⟨hl_r, hA_r⟩
  refine hseq <| hreg <| ?_
  refine hx (xh_alloc ti93 (fun g2 => ?_))
  refine hy (fun _ => y_assign rfl) <| hend <| hmemQ (X' := [_]) (S' := [_]) (fun _ m => m) <| hthen <| hseq <| hreg <| hy (fun _ => y_move rfl) <| ?_
  refine hx (xh_call rfl Try.call64 (crcTakeC (by omega) (by omega)) [] rfl [0] rfl ?_)
  rintro _ _ _ ⟨v, rfl, rfl, rfl⟩
  refine hfactL (fun m => (m.own 0 rfl).slice) ?_
  rintro ⟨A_x, c_x, rfl, hc_x⟩
  refine hfactL (fun m => (m.ord 0 rfl).2.1) fun hA_x => ?_
  refine hy (fun _ => y_move rfl) <| hy (fun _ => y_extract rfl rfl) <| hy (fun _ => y_extract rfl rfl) <| hy (fun _ => y_assign rfl) <| hy (fun _ => y_assign rfl) <| hend <| hsub (ρ' := [(5, _), (4, _), (3, _), (2, _), (0, _)]) ⟨rfl, rfl, rfl, rfl, rfl, trivial⟩ <| hmemQ (X' := [_, _]) (S' := [_]) (fun _ m => m) <| hthen <| hseq <| hseq <| hreg <| hy (fun _ => y_move rfl) <| hy (fun _ => y_neq rfl rfl) <| hend <| hsub (ρ' := [(14, _), (5, _), (4, _), (3, _), (2, _), (0, _)]) ⟨rfl, rfl, rfl, rfl, rfl, rfl, trivial⟩ <| hthen <| ?_
  refine hif rfl (fun h => ?_) (fun h => ?_)
  · refine hseq <| hreg <| hy (fun _ => y_build0 ti93 rfl (by kernel_rfl)) <| hy (fun _ => y_move rfl) <| ?_
    refine hx0 (xh_stA 1 rfl rfl rfl sz93 (mc_len z32) (mc_one (v := .slice none 0 0) rfl) rfl ?_)
    refine hy (fun _ => y_assign rfl) <| hend <| hsub (ρ' := [(3, _), (14, _), (5, _), (4, _), (2, _), (0, _)]) ⟨rfl, rfl, rfl, rfl, rfl, rfl, trivial⟩ <| hmemQ (X' := [_, _]) (S' := [_]) (fun _ m => m) <| hthen <| hret <| hthen_ret <| ?_
    refine hmemQ (fun w m => m.addX (r' := ROwn 5 1 (.slice none 0 0) 0 []) (.refl _ _) (Own.nil _ _ _ _) (fun k hk => hk.elim)) ?_
    exact hretN1 trivial rfl rfl rfl ag93 sz93 (mc_len z32) (fun m => (m.blk 1 rfl).cells0) [0] rfl [] rfl ⟨_, _, _, [], _, _, _, rfl, rfl, rfl, ⟨z32, rfl, .inl ⟨h, rfl, rfl, rfl, rfl, rfl⟩⟩⟩
  · have h0 := Decidable.not_not.1 h
    have hn4 : 4 ≤ n := by
      rcases Nat.lt_or_ge l.length 4 with hlt | hge
      · rw [(takeE_2 hlt).1] at h0; omega
      · omega
    have hB : takeB l = l.take (l.length - 4) := by rw [takeB, if_pos h0]
    have hbl := takeB_len h0
    generalize hBB : takeB l = B at hB hbl hc_x hA_x ⊢
    have hbad : ¬ OkW B → ReadW l 0 0 zm [] 2 := fun hb => .inr (.inr ⟨h0, by rw [hBB]; exact hb, rfl, rfl, rfl, rfl, rfl⟩)
    have hok : OkW B → ReadW l (wkd B) (ws B) ((B.drop 5).take 32) (B.drop 37) 0 := fun hb => .inr (.inl ⟨h0, by rw [hBB]; exact hb, by rw [hBB], by rw [hBB], by rw [hBB], by rw [hBB], rfl⟩)
    refine hcskip <| hthen <| hseq <| hseq <| hreg <| hy (fun _ => y_move rfl) <| hy (fun _ => y_lenS rfl Try.underlying29) <| hy (fun _ => y_lss rfl rfl) <| hend <| hsub (ρ' := [(19, _), (14, _), (5, _), (4, _), (3, _), (2, _), (0, _)]) ⟨rfl, rfl, rfl, rfl, rfl, rfl, rfl, trivial⟩ <| hthen <| ?_
    refine hif rfl (fun h5 => ?_) (fun h5 => ?_)
    · refine hseq <| hreg <| hy (fun _ => y_build0 ti93 rfl (by kernel_rfl)) <| ?_
      refine hx0 (xh_stA 1 rfl rfl rfl sz93 (mc_len z32) (mc_one (v := .slice none 0 0) rfl) rfl ?_)
      refine hy (fun _ => y_assign rfl) <| hend <| hsub (ρ' := [(3, _), (19, _), (14, _), (5, _), (4, _), (2, _), (0, _)]) ⟨rfl, rfl, rfl, rfl, rfl, rfl, rfl, trivial⟩ <| hmemQ (X' := [_, _]) (S' := [_]) (fun _ m => m) <| hthen <| hret <| hthen_ret <| ?_
      refine hmemQ (fun w m => m.addX (r' := ROwn 5 1 (.slice none 0 0) 0 []) (.refl _ _) (Own.nil _ _ _ _) (fun k hk => hk.elim)) ?_
      exact hretN1 trivial rfl rfl rfl ag93 sz93 (mc_len z32) (fun m => (m.blk 1 rfl).cells0) [0] rfl [] rfl ⟨_, _, _, [], _, _, _, rfl, rfl, rfl, ⟨z32, rfl, hbad (fun hb => by have := hb.1; omega)⟩⟩
    · have h37 : 37 ≤ B.length := by omega
      have hnl : ((B.drop 5).take 32).length = 32 := by rw [List.length_take, List.length_drop]; omega
      refine hfactC (fun m => (m.ord 0 rfl).some (by omega)) fun h_ => ?_
      obtain ⟨a, rfl⟩ : ∃ a_, A_x = some a_ := ⟨_, h_⟩
      clear h_
      refine hcskip <| hthen <| hseq <| hdrw [9, 10] [(0, some 1), (1, some 1), (2, some 1), (3, some 1), (4, some 1), (5, some 1), (6, some 1), (7, some 1), (8, some 1), (9, none), (10, none)] (by kernel_rfl) (by kernel_rfl) rfl 1 <| htyU (y_move rfl) <| htyU (y_idxS1 rfl rfl Try.underlying29 sz5 hA_x (show ((0 : Nat) : Int) = 0 from rfl) (by omega)) <| hty (fun m => y_ld1 rfl ag5 ((m.ord 0 rfl).cell (b8s_get (by omega)))) <| htyU (y_conv rfl Try.underlying5 Try.underlying3 (wb8 _)) <| htyU (y_move rfl) <| htyU (yV (y_slBoth rfl rfl rfl Try.underlying29 sz5 (show ((5 : Nat) : Int) = 5 from rfl) (show ((37 : Nat) : Int) = 37 from rfl) (by omega) (by omega)) ((show Value.slice (if c_x = 5 then some a else (some a).map (·.add (5 * 1))) (37 - 5) (c_x - 5) = .slice (some (a.add 5)) 32 (c_x - 5) by rw [if_neg (by omega)]; rfl))) <| htyU (y_arrAt rfl Try.underlying23 (by omega)) <| hty (fun m => yV (y_ldN rfl ag23 sz23 (by rw [b8s_length]; exact hnl) (Rd.part (m.ord 0 rfl))) ((rfl : Value.agg _ = .agg (b8s ((B.drop 5).take 32)).toArray))) <| htyU (y_build ti93 rfl rfl (by kernel_rfl) (bldM (k0 := 0) (s := 0) (zi := zm) (z := .slice none 0 0) pl93_0 pl93_2 z32 hnl)) <| ?_
      refine htx (xh_alloc ti93 (fun g6 => ⟨(fun _ => wk [1, 1] [0] rfl rfl), ?_⟩))
      refine htx0 (xh_stA 0 rfl rfl rfl sz93 (mc_len hnl) (mc_one (v := .slice none 0 0) rfl) rfl ⟨(fun h => absurd h (by decide)), ?_⟩)
      refine htmem (fun w m => m.eqX 0 rfl (show _ = RBlk g6 93 (mc (wkd B) ((acc ((B.drop 1).take 4) 0 : Nat) : Int) ((B.drop 5).take 32) (.slice none 0 0)) from rfl)) ?_
      refine htend <| hsub (ρ' := [(6, _), (19, _), (14, _), (5, _), (4, _), (3, _), (2, _), (0, _)]) ⟨rfl, rfl, rfl, rfl, rfl, rfl, rfl, rfl, trivial⟩ <| hmemQ (X' := [_, _, _]) (S' := [_]) (fun _ m => m) <| hthen <| hseq <| hseq <| hreg <| hy (fun _ => y_assign rfl) <| hend <| hthen <| hblock <| ?_
      refine hloop1 (fun j => 4 - j) (fun j => [(7, .int .i64 (4 - (j : Int)))]) (fun j => [RBlk g6 93 (mc (wkd B) ((acc ((B.drop 1).take 4) j : Nat) : Int) ((B.drop 5).take 32) (.slice none 0 0))]) (fun j => []) (fun j => j ≤ 4) 0 [(6, _), (19, _), (14, _), (5, _), (4, _), (3, _), (2, _), (0, _)] ⟨rfl, rfl, rfl, rfl, rfl, rfl, rfl, rfl, trivial⟩ [0] rfl [] rfl (Nat.zero_le _) ⟨rfl, trivial⟩ (fun j hI => ?_)
      refine hseq <| hseq <| hreg <| hy (fun _ => y_move rfl) <| hy (fun _ => y_gtr rfl rfl) <| hend <| hsub (ρ' := [(31, _), (7, _), (6, _), (19, _), (14, _), (5, _), (4, _), (3, _), (2, _), (0, _)]) ⟨rfl, rfl, rfl, rfl, rfl, rfl, rfl, rfl, rfl, rfl, trivial⟩ <| hthen <| ?_
      refine hif rfl (fun hj => ?_) (fun hj => ?_)
      · have hl4 : ((B.drop 1).take 4).length = 4 := by rw [List.length_take, List.length_drop]; omega
        have hac := acc_le ((B.drop 1).take 4) (show j ≤ 4 by omega)
        have hby : (((B.drop 1).take 4).getD (3 - j) 0).toNat < 256 := UInt8.toNat_lt _
        have hget : B.getD (4 - j) 0 = ((B.drop 1).take 4).getD (3 - j) 0 := by
          simp only [List.getD, List.getElem?_take, List.getElem?_drop]
          rw [if_pos (by omega), show 1 + (3 - j) = 4 - j by omega]
        refine hcskip <| hthen <| hseq <| hblock <| hdrw [10] [(0, some 0), (1, some 0), (2, some 0), (3, some 0), (4, some 0), (5, some 0), (6, some 0), (7, some 0), (8, some 0), (9, some 0), (10, none)] (by kernel_rfl) (by kernel_rfl) rfl 0 <| htyU (y_fld rfl fa93_1 (by decide)) <| hty (fun m => y_ld1 rfl ag3 (ld_blk (m.blk 0 rfl) rfl)) <| htyU (y_shl (p := 256) rfl rfl (by decide) (by decide) (by decide) (w64 (by omega) (by omega))) <| htyU (y_move rfl) <| htyU (y_move rfl) <| htyU (y_idxS1 rfl rfl Try.underlying29 sz5 hA_x (show ((4 - j : Nat) : Int) = _ by omega) (by omega)) <| hty (fun m => yV (y_ld1 rfl ag5 ((m.ord 1 rfl).cell (b8s_get (by omega)))) ((show B8 (B.getD (4 - j) 0) = B8 (((B.drop 1).take 4).getD (3 - j) 0) by rw [hget]))) <| htyU (y_conv rfl Try.underlying5 Try.underlying3 (wb8 _)) <| htyU (y_bits (by simp) rfl rfl (or_byte _ _ hac hby)) <| htyU (y_fld rfl fa93_1 (by decide)) <| ?_
        refine htx0 (xh_st1a 0 rfl rfl rfl sz3 rfl (by first | exact Nat.le_of_ble_eq_true rfl | simp) ⟨(fun h => absurd h (by decide)), ?_⟩)
        refine htend <| hsub (ρ' := [(31, _), (7, _), (6, _), (19, _), (14, _), (5, _), (4, _), (3, _), (2, _), (0, _)]) ⟨rfl, rfl, rfl, rfl, rfl, rfl, rfl, rfl, rfl, rfl, trivial⟩ <| hmemQ (X' := [_, _, _]) (S' := [_]) (fun _ m => m) <| hqblock <| hthen <| hreg <| hy (fun _ => y_move rfl) <| hy (fun _ => yV (y_sub rfl rfl (w64 (by omega) (by omega))) ((show Value.int .i64 ((4 - (j : Int)) - 1) = .int .i64 (4 - ((j + 1 : Nat) : Int)) by congr 1; omega))) <| hy (fun _ => y_assign rfl) <| hend <| hsub (ρ' := [(7, _), (31, _), (6, _), (19, _), (14, _), (5, _), (4, _), (3, _), (2, _), (0, _)]) ⟨rfl, rfl, rfl, rfl, rfl, rfl, rfl, rfl, rfl, rfl, trivial⟩ <| ?_
        refine hnext1 (j + 1) ⟨rfl, rfl, rfl, rfl, rfl, rfl, rfl, rfl, rfl, trivial⟩ [0, 0, 0] rfl [0] rfl (by omega) (by omega)
      · obtain rfl : j = 4 := by omega
        rw [acc4]
        have hws : (num4 ((B.drop 1).take 4) : Nat) = ws B := rfl
        rw [hws]
        have hsl : ws B < 4294967296 := num4_lt _
        refine hexit <| hthen_exit <| hthen_exit <| hqblock_exit <| hthen <| hseq <| hreg <| hy (fun _ => y_move rfl) <| hy (fun _ => y_slFrom rfl rfl Try.underlying29 sz5 (show ((37 : Nat) : Int) = 37 from rfl) (by omega)) <| ?_
        refine hx (xh_calll rfl Try.call49 (cloneC (by omega) (l := (B.drop 37))) [] rfl (.x 1 rfl (View.trans .own (View.drop hc_x h37)) .nil) ?_)
        rintro _ _ _ ⟨v2, rfl, rfl, rfl⟩
        refine ⟨rfl, ?_⟩
        refine hfactL (fun m => (m.own 0 rfl).slice) ?_
        rintro ⟨A_x2, c_x2, rfl, hc_x2⟩
        refine hfactL (fun m => (m.ord 0 rfl).2.1) fun hA_x2 => ?_
        refine hy (fun _ => y_fld rfl fa93_3 (by decide)) <| ?_
        refine hx0 (xh_st1a 1 rfl rfl rfl sz29 rfl (by rw [mc_len hnl]; decide) ?_)
        refine hmemL (fun w m => m.eqX 0 rfl (show _ = RBlk g6 93 (mc (wkd B) (ws B : Int) ((B.drop 5).take 32) (.slice A_x2 (B.length - 37) c_x2)) from congrArg (RBlk _ _) (mc_set hnl))) ?_
        refine hend <| hsub (ρ' := [(31, _), (7, _), (6, _), (19, _), (14, _), (5, _), (4, _), (3, _), (2, _), (0, _)]) ⟨rfl, rfl, rfl, rfl, rfl, rfl, rfl, rfl, rfl, rfl, trivial⟩ <| hmemQ (X' := [_, _, _, _]) (S' := [_]) (fun _ m => m) <| hthen <| hseq <| hseq <| hreg <| hy (fun m => y_ldN rfl ag93 sz93 (mc_len hnl) ((m.blk 0 rfl).cells0)) <| ?_
        refine hx (xh_call rfl Try.call68 (mayC (by omega)) [] rfl [] rfl ?_)
        rintro _ _ _ ⟨rfl, rfl, rfl⟩
        refine hy (fun _ => y_notp rfl) <| hend <| hsub (ρ' := [(50, _), (31, _), (7, _), (6, _), (19, _), (14, _), (5, _), (4, _), (3, _), (2, _), (0, _)]) ⟨rfl, rfl, rfl, rfl, rfl, rfl, rfl, rfl, rfl, rfl, rfl, trivial⟩ <| hmemQ (X' := [_, _, _, _]) (S' := [_]) (fun _ m => m) <| hthen <| ?_
        refine hif rfl (fun hW => ?_) (fun hW => ?_)
        · refine hseq <| hreg <| hy (fun _ => y_build0 ti93 rfl (by kernel_rfl)) <| ?_
          refine hx0 (xh_stA 3 rfl rfl rfl sz93 (mc_len z32) (mc_one (v := .slice none 0 0) rfl) rfl ?_)
          refine hy (fun _ => y_assign rfl) <| hend <| hsub (ρ' := [(3, _), (50, _), (31, _), (7, _), (6, _), (19, _), (14, _), (5, _), (4, _), (2, _), (0, _)]) ⟨rfl, rfl, rfl, rfl, rfl, rfl, rfl, rfl, rfl, rfl, rfl, trivial⟩ <| hmemQ (X' := [_, _, _, _]) (S' := [_]) (fun _ m => m) <| hthen <| hret <| hthen_ret <| ?_
          refine hmemQ (fun w m => m.addX (r' := ROwn 5 1 (.slice none 0 0) 0 []) (.refl _ _) (Own.nil _ _ _ _) (fun k hk => hk.elim)) ?_
          exact hretN1 trivial rfl rfl rfl ag93 sz93 (mc_len z32) (fun m => (m.blk 1 rfl).cells0) [0] rfl [] rfl ⟨_, _, _, [], _, _, _, rfl, rfl, rfl, ⟨z32, rfl, hbad (fun hb => hW hb.2)⟩⟩
        · have hW := Decidable.not_not.1 hW
          refine hcskip <| hthen <| hseq <| hreg <| hy (fun m => y_ldN rfl ag93 sz93 (mc_len hnl) ((m.blk 0 rfl).cells0)) <| ?_
          refine hx0 (xh_stA 3 rfl rfl rfl sz93 (mc_len hnl) (mc_one rfl) rfl ?_)
          refine hy (fun _ => y_assign rfl) <| hend <| hsub (ρ' := [(3, _), (50, _), (31, _), (7, _), (6, _), (19, _), (14, _), (5, _), (4, _), (2, _), (0, _)]) ⟨rfl, rfl, rfl, rfl, rfl, rfl, rfl, rfl, rfl, rfl, rfl, trivial⟩ <| hmemQ (X' := [_, _, _, _]) (S' := [_]) (fun _ m => m) <| hthen <| hret <| ?_
          exact hretN1 trivial rfl rfl rfl ag93 sz93 (mc_len hnl) (fun m => (m.blk 0 rfl).cells0) [2] rfl [] rfl ⟨_, _, _, B.drop 37, _, _, _, rfl, rfl, rfl, ⟨hnl, List.length_drop, hok ⟨h37, hW⟩⟩⟩
/-- the bytes of a message -/
def wbody (k s : Nat) (nm body : List UInt8) : List UInt8 := [UInt8.ofNat k] ++ le4 s ++ nm ++ body
theorem wbody_len {k s : Nat} {nm body : List UInt8} (h : nm.length = 32) : (wbody k s nm body).length = 37 + body.length := by simp [wbody, le4_length, h]; omega
theorem rwbytesC {k s : Nat} {nm body : List UInt8} (hk : k < 256) (hs : s < 4294967296) (hm : nm.length = 32) (hb : body.length ≤ 1000000) : Con Try.prog 12 [.agg (mc k s nm (.string (strOf body))).toArray] [] [] (fun v_ X_ S_ => ∃ v, v_ = v ∧ X_ = [ROwn 5 1 v (37 + body.length + 4) (b8s (putL (wbody k s nm body)))] ∧ S_ = []) := by
  refine henter (N := 25) Try.func12 rfl rfl (by simp) fun b => ?_
  refine hseq <| hreg <| ?_
  refine hx (xh_box rfl (fun g1 => ?_))
  refine hmemL (fun w m => m.eqX 0 rfl (show _ = RBlk g1 25 (mc k s nm (.string (strOf body))) from congrArg (RBlk _ _) (cells_agg _))) ?_
  refine hy (fun _ => y_assign rfl) <| hend <| hmemQ (X' := [_]) (S' := []) (fun _ m => m) <| hthen <| hseq <| hreg <| hy (fun _ => y_fld rfl fa25_0 (by decide)) <| hy (fun m => y_ld1 rfl ag3 (ld_blk (m.blk 0 rfl) rfl)) <| hy (fun _ => yV (y_conv rfl Try.underlying3 Try.underlying5 (u8mod k)) ((rfl : Value.int .u8 _ = B8 (UInt8.ofNat k)))) <| ?_
  refine hx (xh_bsl Try.underlying29 ti5 rfl rfl rfl (by simp [Value.cells, B8]) (by decide) (by decide) (fun g7 => ?_))
  have hA_b7 : 0 < 1 → (some (⟨g7, 0, none⟩ : Addr)) ≠ none := fun _ h => by cases h
  refine hmemL (fun w m => m.eqX 0 rfl (show _ = ROwn 5 1 (.slice (some ⟨g7, 0, none⟩) 1 1) 1 (b8s [UInt8.ofNat k]) from rfl)) ?_
  refine hy (fun _ => y_assign rfl) <| hend <| hsub (ρ' := [(3, _), (2, _), (1, _), (0, _)]) ⟨rfl, rfl, rfl, rfl, trivial⟩ <| hmemQ (X' := [_, _]) (S' := []) (fun _ m => m) <| hthen <| hseq <| hreg <| hy (fun _ => y_move rfl) <| hy (fun _ => y_fld rfl fa25_1 (by decide)) <| hy (fun m => y_ld1 rfl ag3 (ld_blk (m.blk 1 rfl) rfl)) <| ?_
  refine hx (xh_call rfl Try.call40 (numberC (by omega)) [] rfl [] rfl ?_)
  rintro _ _ _ ⟨v, rfl, rfl, rfl⟩
  refine hfactL (fun m => (m.own 0 rfl).slice) ?_
  rintro ⟨A_x, c_x, rfl, hc_x⟩
  refine hfactL (fun m => (m.ord 0 rfl).2.1) fun hA_x => ?_
  refine hx (xh_app 1 rfl rfl rfl Try.underlying29 Try.underlying29 (by exact .inl rfl) ti5 rfl (fun m => Src.of_rd (m.ord 0 rfl)) b8s_one (by unfold maxLen; omega) (by omega) (fun u => ?_))
  refine hfactL (fun m => (m.own 0 rfl).slice) ?_
  rintro ⟨A_b7, c_b7, rfl, hc_b7⟩
  refine hfactL (fun m => (m.ord 0 rfl).2.1) fun hA_b7 => ?_
  refine hmemL (fun w m => m.eqX 0 rfl (show _ = ROwn 5 1 (.slice A_b7 5 c_b7) 5 (b8s ([UInt8.ofNat k] ++ le4 s)) from congrArg (ROwn _ _ _ _) (b8s_append ..).symm)) ?_
  refine hy (fun _ => y_assign rfl) <| hend <| hsub (ρ' := [(3, _), (2, _), (1, _), (0, _)]) ⟨rfl, rfl, rfl, rfl, trivial⟩ <| hmemQ (X' := [_, _, _]) (S' := []) (fun _ m => m) <| hthen <| hseq <| hreg <| hy (fun _ => y_move rfl) <| hy (fun _ => y_fld rfl fa25_2 (by decide)) <| hy (fun m => y_ldN rfl ag23 sz23 (by rw [b8s_length]; exact hm) (mc_nm (m.blk 2 rfl))) <| ?_
  refine hx (xh_call rfl Try.call41 (bytesC (by omega)) [] rfl [] rfl ?_)
  rintro _ _ _ ⟨v2, rfl, rfl, rfl⟩
  refine hfactL (fun m => (m.own 0 rfl).slice) ?_
  rintro ⟨A_x2, c_x2, rfl, hc_x2⟩
  refine hfactL (fun m => (m.ord 0 rfl).2.1) fun hA_x2 => ?_
  refine hx (xh_app 1 rfl rfl rfl Try.underlying29 Try.underlying29 (by exact .inl rfl) ti5 rfl (fun m => Src.of_rd (m.ord 0 rfl)) b8s_one (by unfold maxLen; omega) (by omega) (fun u2 => ?_))
  refine hfactL (fun m => (m.own 0 rfl).slice) ?_
  rintro ⟨A_b72, c_b72, rfl, hc_b7⟩
  refine hfactL (fun m => (m.ord 0 rfl).2.1) fun hA_b7 => ?_
  refine hmemL (fun w m => m.eqX 0 rfl (show _ = ROwn 5 1 (.slice A_b72 37 c_b72) 37 (b8s ([UInt8.ofNat k] ++ le4 s ++ nm)) from congrArg (ROwn _ _ _ _) (b8s_append ..).symm)) ?_
  have hbs : (bytesOf (strOf body)).length = body.length := rfl
  refine hy (fun _ => y_assign rfl) <| hend <| hsub (ρ' := [(3, _), (2, _), (1, _), (0, _)]) ⟨rfl, rfl, rfl, rfl, trivial⟩ <| hmemQ (X' := [_, _, _, _]) (S' := []) (fun _ m => m) <| hthen <| hseq <| hreg <| hy (fun _ => y_move rfl) <| hy (fun _ => y_fld rfl fa25_3 (by decide)) <| hy (fun m => y_ld1 rfl ag9 (mc_v (m.blk 3 rfl) hm)) <| ?_
  refine hx (xh_s2b rfl Try.underlying9 Try.underlying29 Try.underlying5 (show body.length ≤ maxLen by unfold maxLen; omega) (fun v21 => ?_))
  refine hfactL (fun m => (m.own 0 rfl).slice) ?_
  rintro ⟨A_b21, c_b21, rfl, hc_b21⟩
  refine hfactL (fun m => (m.ord 0 rfl).2.1) fun hA_b21 => ?_
  refine hmemL (fun w m => m.eqX 0 rfl (show _ = ROwn 5 1 (.slice A_b21 body.length c_b21) body.length (b8s body) from rfl)) ?_
  refine hx (xh_app 1 rfl rfl rfl Try.underlying29 Try.underlying29 (by exact .inl rfl) ti5 rfl (fun m => Src.of_rd (m.ord 0 rfl)) b8s_one (show 37 + body.length ≤ maxLen by unfold maxLen; omega) (show (37 + body.length) * 1 ≤ 140737488355328 by omega) (fun u3 => ?_))
  refine hfactL (fun m => (m.own 0 rfl).slice) ?_
  rintro ⟨A_b73, c_b73, rfl, hc_b7⟩
  refine hfactL (fun m => (m.ord 0 rfl).2.1) fun hA_b7 => ?_
  refine hmemL (fun w m => m.eqX 0 rfl (show _ = ROwn 5 1 (.slice A_b73 (37 + body.length) c_b73) (37 + body.length) (b8s (wbody k s nm body)) from congrArg (ROwn _ _ _ _) (b8s_append ..).symm)) ?_
  refine hy (fun _ => y_assign rfl) <| hend <| hsub (ρ' := [(3, _), (2, _), (1, _), (0, _)]) ⟨rfl, rfl, rfl, rfl, trivial⟩ <| hmemQ (X' := [_, _, _, _, _]) (S' := []) (fun _ m => m) <| hthen <| hseq <| hreg <| hy (fun _ => y_move rfl) <| ?_
  refine hx (xh_calll rfl Try.call36 (rcrcPutC (by omega)) [] rfl (.x 0 rfl .own .nil) ?_)
  rintro _ _ _ ⟨v3, rfl, rfl, rfl⟩
  refine ⟨rfl, ?_⟩
  refine hfactL (fun m => (m.own 0 rfl).slice) ?_
  rintro ⟨A_x3, c_x3, rfl, hc_x3⟩
  refine hfactL (fun m => (m.ord 0 rfl).2.1) fun hA_x3 => ?_
  refine hy (fun _ => y_assign rfl) <| hend <| hsub (ρ' := [(2, _), (3, _), (1, _), (0, _)]) ⟨rfl, rfl, rfl, rfl, trivial⟩ <| hmemQ (X' := [_, _, _, _, _, _]) (S' := []) (fun _ m => m) <| hthen <| hret <| ?_
  exact hret1 trivial rfl rfl [0] rfl [] rfl ⟨_, rfl, rfl, rfl⟩
theorem rwgoodC {k s : Int} {nm body : List UInt8} (hk : -9223372036854775808 ≤ k ∧ k ≤ 9223372036854775807) (hs : -9223372036854775808 ≤ s ∧ s ≤ 9223372036854775807) (hm : nm.length = 32) : Con Try.prog 11 [.agg (mc k s nm (.string (strOf body))).toArray] [] [] (fun v_ X_ S_ => v_ = (.agg (mc (1 + around k 3) (around s 4294967296) nm (.string (strOf (if around k 3 = 1 then body.take 40 else [])))).toArray) ∧ X_ = [] ∧ S_ = []) := by
  obtain ⟨a0, a1⟩ := around_lt k 3 (by decide)
  have z32 : zm.length = 32 := by simp [zm]
  refine henter (N := 22) Try.func11 rfl rfl (by simp) fun b => ?_
  refine hseq <| hreg <| ?_
  refine hx (xh_box rfl (fun g1 => ?_))
  refine hmemL (fun w m => m.eqX 0 rfl (show _ = RBlk g1 25 (mc k s nm (.string (strOf body))) from congrArg (RBlk _ _) (cells_agg _))) ?_
  refine hx (xh_alloc ti25 (fun g2 => ?_))
  refine hend <| hmemQ (X' := [_, _]) (S' := []) (fun _ m => m) <| hthen <| hseq <| hdrwP [2, 6, 10, 11] (.take 0 3 <| .take 1 3 <| .take 4 3 <| .take 5 3 <| .take 7 3 <| .take 8 3 <| .alt 2 (.take 3 3 <| .alt 6 (.take 9 3 <| .alt 10 (.alt 11 (.done) (.stop)) (.stop)) (.alt 10 (.alt 6 (.take 9 3 <| .alt 11 (.done) (.stop)) (.stop)) (.stop))) (.alt 10 (.alt 2 (.take 3 3 <| .alt 6 (.take 9 3 <| .alt 11 (.done) (.stop)) (.stop)) (.stop)) (.stop))) (by kernel_rfl) (by kernel_rfl) rfl 3 <| hpyU (y_fld rfl fa25_0 (by decide)) <| hpy (fun m => y_ld1 rfl ag3 (ld_blk (m.blk 1 rfl) rfl)) <| hpyU (y_fld rfl fa25_1 (by decide)) <| hpy (fun m => y_ld1 rfl ag3 (ld_blk (m.blk 1 rfl) rfl)) <| hpyU (y_fld rfl fa25_2 (by decide)) <| hpy (fun m => yV (y_ldN rfl ag23 sz23 (by rw [b8s_length]; exact hm) (mc_nm (m.blk 1 rfl))) ((rfl : Value.agg _ = .agg (b8s nm).toArray))) <| ?_
  refine hpfork ?_ ?_
  · refine hpx (xh_call rfl Try.call13 (aroundC (by omega) (by omega) (by omega)) [] rfl [] rfl ?_)
    rintro _ _ _ ⟨rfl, rfl, rfl⟩
    refine ⟨(fun _ => wk [0, 0] [] rfl rfl), ?_⟩
    refine hpyU (y_add rfl rfl (w64 (by omega) (by omega))) <| ?_
    refine hpfork ?_ ?_
    · refine hpx (xh_call rfl Try.call13 (aroundC (by omega) (by omega) (by omega)) [] rfl [] rfl ?_)
      rintro _ _ _ ⟨rfl, rfl, rfl⟩
      refine ⟨(fun _ => wk [0, 0] [] rfl rfl), ?_⟩
      refine hpyU (y_build ti25 rfl rfl (by kernel_rfl) (bldM3 (k0 := 0) (s0 := 0) (zi := zm) (z := .string ⟨#[]⟩) pl25_0 pl25_1 pl25_2 z32 hm)) <| ?_
      refine hpx (xh_alloc ti25 (fun g3 => ⟨(fun _ => wk [1, 1] [] rfl rfl), ?_⟩))
      refine hpx0 (xh_stA 0 rfl rfl rfl sz25 (mc_len hm) (mc_one rfl) rfl ⟨(fun h => absurd h (by decide)), ?_⟩)
      refine hpmem (fun w m => m.eqX 0 rfl (show _ = RBlk g3 25 (mc (1 + around k 3) (around s 4294967296) nm (.string (strOf []))) from rfl)) ?_
      refine hpend <| hsub (ρ' := [(3, _), (2, _), (1, _), (0, _)]) ⟨rfl, rfl, rfl, rfl, trivial⟩ <| hmemQ (X' := [_, _, _]) (S' := []) (fun _ m => m) <| hthen <| hseq <| hseq <| hreg <| hy (fun _ => y_fld rfl fa25_0 (by decide)) <| hy (fun m => y_ld1 rfl ag3 (ld_blk (m.blk 0 rfl) rfl)) <| hy (fun _ => y_eql rfl rfl) <| hend <| hsub (ρ' := [(16, _), (3, _), (2, _), (1, _), (0, _)]) ⟨rfl, rfl, rfl, rfl, rfl, trivial⟩ <| hthen <| ?_
      refine hif rfl (fun h => ?_) (fun h => ?_)
      · refine hreg <| hy (fun _ => y_fld rfl fa25_3 (by decide)) <| hy (fun m => y_ld1 rfl ag9 (mc_v (m.blk 2 rfl) hm)) <| ?_
        refine hx (xh_call rfl Try.call39 (shortC (m := 40)) [] rfl [] rfl ?_)
        rintro _ _ _ ⟨rfl, rfl, rfl⟩
        refine hy (fun _ => y_fld rfl fa25_3 (by decide)) <| ?_
        refine hx0 (xh_st1a 0 rfl rfl rfl sz9 rfl (by rw [mc_len hm]; decide) ?_)
        refine hmemL (fun w m => m.eqX 0 rfl (show _ = RBlk g3 25 (mc (1 + around k 3) (around s 4294967296) nm (.string (strOf (body.take 40)))) from congrArg (RBlk _ _) (mc_set hm))) ?_
        refine hend <| hsub (ρ' := [(16, _), (3, _), (2, _), (1, _), (0, _)]) ⟨rfl, rfl, rfl, rfl, rfl, trivial⟩ <| hmemQ (X' := [_, _, _]) (S' := []) (fun _ m => m) <| hthen <| hseq <| hreg <| hy (fun m => y_ldN rfl ag25 sz25 (mc_len hm) ((m.blk 0 rfl).cells0)) <| ?_
        refine hx0 (xh_stA 1 rfl rfl rfl sz25 (mc_len hm) (mc_one rfl) rfl ?_)
        refine hend <| hsub (ρ' := [(16, _), (3, _), (2, _), (1, _), (0, _)]) ⟨rfl, rfl, rfl, rfl, rfl, trivial⟩ <| hmemQ (X' := [_, _, _]) (S' := []) (fun _ m => m) <| hthen <| hret <| ?_
        exact hretN trivial rfl rfl ag25 sz25 (mc_len hm) (fun m => (m.blk 0 rfl).cells0) [] rfl [] rfl ⟨(by rw [if_pos (by omega)]), rfl, rfl⟩
      · refine hcskip <| hthen <| hseq <| hreg <| hy (fun m => y_ldN rfl ag25 sz25 (mc_len hm) ((m.blk 0 rfl).cells0)) <| ?_
        refine hx0 (xh_stA 1 rfl rfl rfl sz25 (mc_len hm) (mc_one rfl) rfl ?_)
        refine hend <| hsub (ρ' := [(16, _), (3, _), (2, _), (1, _), (0, _)]) ⟨rfl, rfl, rfl, rfl, rfl, trivial⟩ <| hmemQ (X' := [_, _, _]) (S' := []) (fun _ m => m) <| hthen <| hret <| ?_
        exact hretN trivial rfl rfl ag25 sz25 (mc_len hm) (fun m => (m.blk 0 rfl).cells0) [] rfl [] rfl ⟨(by rw [if_neg (by omega)]), rfl, rfl⟩
    · refine hpx (xh_alloc ti25 (fun g3 => ⟨(fun _ => wk [1, 1] [] rfl rfl), ?_⟩))
      refine hpx (xh_call rfl Try.call13 (aroundC (by omega) (by omega) (by omega)) [] rfl [] rfl ?_)
      rintro _ _ _ ⟨rfl, rfl, rfl⟩
      refine ⟨(fun _ => wk [1, 1] [] rfl rfl), ?_⟩
      refine hpyU (y_build ti25 rfl rfl (by kernel_rfl) (bldM3 (k0 := 0) (s0 := 0) (zi := zm) (z := .string ⟨#[]⟩) pl25_0 pl25_1 pl25_2 z32 hm)) <| ?_
      refine hpx0 (xh_stA 0 rfl rfl rfl sz25 (mc_len hm) (mc_one rfl) rfl ⟨(fun h => absurd h (by decide)), ?_⟩)
      refine hpmem (fun w m => m.eqX 0 rfl (show _ = RBlk g3 25 (mc (1 + around k 3) (around s 4294967296) nm (.string (strOf []))) from rfl)) ?_
      refine hpend <| hsub (ρ' := [(3, _), (2, _), (1, _), (0, _)]) ⟨rfl, rfl, rfl, rfl, trivial⟩ <| hmemQ (X' := [_, _, _]) (S' := []) (fun _ m => m) <| hthen <| hseq <| hseq <| hreg <| hy (fun _ => y_fld rfl fa25_0 (by decide)) <| hy (fun m => y_ld1 rfl ag3 (ld_blk (m.blk 0 rfl) rfl)) <| hy (fun _ => y_eql rfl rfl) <| hend <| hsub (ρ' := [(16, _), (3, _), (2, _), (1, _), (0, _)]) ⟨rfl, rfl, rfl, rfl, rfl, trivial⟩ <| hthen <| ?_
      refine hif rfl (fun h => ?_) (fun h => ?_)
      · refine hreg <| hy (fun _ => y_fld rfl fa25_3 (by decide)) <| hy (fun m => y_ld1 rfl ag9 (mc_v (m.blk 2 rfl) hm)) <| ?_
        refine hx (xh_call rfl Try.call39 (shortC (m := 40)) [] rfl [] rfl ?_)
        rintro _ _ _ ⟨rfl, rfl, rfl⟩
        refine hy (fun _ => y_fld rfl fa25_3 (by decide)) <| ?_
        refine hx0 (xh_st1a 0 rfl rfl rfl sz9 rfl (by rw [mc_len hm]; decide) ?_)
        refine hmemL (fun w m => m.eqX 0 rfl (show _ = RBlk g3 25 (mc (1 + around k 3) (around s 4294967296) nm (.string (strOf (body.take 40)))) from congrArg (RBlk _ _) (mc_set hm))) ?_
        refine hend <| hsub (ρ' := [(16, _), (3, _), (2, _), (1, _), (0, _)]) ⟨rfl, rfl, rfl, rfl, rfl, trivial⟩ <| hmemQ (X' := [_, _, _]) (S' := []) (fun _ m => m) <| hthen <| hseq <| hreg <| hy (fun m => y_ldN rfl ag25 sz25 (mc_len hm) ((m.blk 0 rfl).cells0)) <| ?_
        refine hx0 (xh_stA 1 rfl rfl rfl sz25 (mc_len hm) (mc_one rfl) rfl ?_)
        refine hend <| hsub (ρ' := [(16, _), (3, _), (2, _), (1, _), (0, _)]) ⟨rfl, rfl, rfl, rfl, rfl, trivial⟩ <| hmemQ (X' := [_, _, _]) (S' := []) (fun _ m => m) <| hthen <| hret <| ?_
        exact hretN trivial rfl rfl ag25 sz25 (mc_len hm) (fun m => (m.blk 0 rfl).cells0) [] rfl [] rfl ⟨(by rw [if_pos (by omega)]), rfl, rfl⟩
      · refine hcskip <| hthen <| hseq <| hreg <| hy (fun m => y_ldN rfl ag25 sz25 (mc_len hm) ((m.blk 0 rfl).cells0)) <| ?_
        refine hx0 (xh_stA 1 rfl rfl rfl sz25 (mc_len hm) (mc_one rfl) rfl ?_)
        refine hend <| hsub (ρ' := [(16, _), (3, _), (2, _), (1, _), (0, _)]) ⟨rfl, rfl, rfl, rfl, rfl, trivial⟩ <| hmemQ (X' := [_, _, _]) (S' := []) (fun _ m => m) <| hthen <| hret <| ?_
        exact hretN trivial rfl rfl ag25 sz25 (mc_len hm) (fun m => (m.blk 0 rfl).cells0) [] rfl [] rfl ⟨(by rw [if_neg (by omega)]), rfl, rfl⟩
  · refine hpx (xh_alloc ti25 (fun g3 => ⟨(fun _ => wk [1, 1] [] rfl rfl), ?_⟩))
    refine hpx (xh_call rfl Try.call13 (aroundC (by omega) (by omega) (by omega)) [] rfl [] rfl ?_)
    rintro _ _ _ ⟨rfl, rfl, rfl⟩
    refine ⟨(fun _ => wk [1, 1] [] rfl rfl), ?_⟩
    refine hpyU (y_add rfl rfl (w64 (by omega) (by omega))) <| ?_
    refine hpx (xh_call rfl Try.call13 (aroundC (by omega) (by omega) (by omega)) [] rfl [] rfl ?_)
    rintro _ _ _ ⟨rfl, rfl, rfl⟩
    refine ⟨(fun _ => wk [1, 1] [] rfl rfl), ?_⟩
    refine hpyU (y_build ti25 rfl rfl (by kernel_rfl) (bldM3 (k0 := 0) (s0 := 0) (zi := zm) (z := .string ⟨#[]⟩) pl25_0 pl25_1 pl25_2 z32 hm)) <| ?_
    refine hpx0 (xh_stA 0 rfl rfl rfl sz25 (mc_len hm) (mc_one rfl) rfl ⟨(fun h => absurd h (by decide)), ?_⟩)
    refine hpmem (fun w m => m.eqX 0 rfl (show _ = RBlk g3 25 (mc (1 + around k 3) (around s 4294967296) nm (.string (strOf []))) from rfl)) ?_
    refine hpend <| hsub (ρ' := [(3, _), (2, _), (1, _), (0, _)]) ⟨rfl, rfl, rfl, rfl, trivial⟩ <| hmemQ (X' := [_, _, _]) (S' := []) (fun _ m => m) <| hthen <| hseq <| hseq <| hreg <| hy (fun _ => y_fld rfl fa25_0 (by decide)) <| hy (fun m => y_ld1 rfl ag3 (ld_blk (m.blk 0 rfl) rfl)) <| hy (fun _ => y_eql rfl rfl) <| hend <| hsub (ρ' := [(16, _), (3, _), (2, _), (1, _), (0, _)]) ⟨rfl, rfl, rfl, rfl, rfl, trivial⟩ <| hthen <| ?_
    refine hif rfl (fun h => ?_) (fun h => ?_)
    · refine hreg <| hy (fun _ => y_fld rfl fa25_3 (by decide)) <| hy (fun m => y_ld1 rfl ag9 (mc_v (m.blk 2 rfl) hm)) <| ?_
      refine hx (xh_call rfl Try.call39 (shortC (m := 40)) [] rfl [] rfl ?_)
      rintro _ _ _ ⟨rfl, rfl, rfl⟩
      refine hy (fun _ => y_fld rfl fa25_3 (by decide)) <| ?_
      refine hx0 (xh_st1a 0 rfl rfl rfl sz9 rfl (by rw [mc_len hm]; decide) ?_)
      refine hmemL (fun w m => m.eqX 0 rfl (show _ = RBlk g3 25 (mc (1 + around k 3) (around s 4294967296) nm (.string (strOf (body.take 40)))) from congrArg (RBlk _ _) (mc_set hm))) ?_
      refine hend <| hsub (ρ' := [(16, _), (3, _), (2, _), (1, _), (0, _)]) ⟨rfl, rfl, rfl, rfl, rfl, trivial⟩ <| hmemQ (X' := [_, _, _]) (S' := []) (fun _ m => m) <| hthen <| hseq <| hreg <| hy (fun m => y_ldN rfl ag25 sz25 (mc_len hm) ((m.blk 0 rfl).cells0)) <| ?_
      refine hx0 (xh_stA 1 rfl rfl rfl sz25 (mc_len hm) (mc_one rfl) rfl ?_)
      refine hend <| hsub (ρ' := [(16, _), (3, _), (2, _), (1, _), (0, _)]) ⟨rfl, rfl, rfl, rfl, rfl, trivial⟩ <| hmemQ (X' := [_, _, _]) (S' := []) (fun _ m => m) <| hthen <| hret <| ?_
      exact hretN trivial rfl rfl ag25 sz25 (mc_len hm) (fun m => (m.blk 0 rfl).cells0) [] rfl [] rfl ⟨(by rw [if_pos (by omega)]), rfl, rfl⟩
    · refine hcskip <| hthen <| hseq <| hreg <| hy (fun m => y_ldN rfl ag25 sz25 (mc_len hm) ((m.blk 0 rfl).cells0)) <| ?_
      refine hx0 (xh_stA 1 rfl rfl rfl sz25 (mc_len hm) (mc_one rfl) rfl ?_)
      refine hend <| hsub (ρ' := [(16, _), (3, _), (2, _), (1, _), (0, _)]) ⟨rfl, rfl, rfl, rfl, rfl, trivial⟩ <| hmemQ (X' := [_, _, _]) (S' := []) (fun _ m => m) <| hthen <| hret <| ?_
      exact hretN trivial rfl rfl ag25 sz25 (mc_len hm) (fun m => (m.blk 0 rfl).cells0) [] rfl [] rfl ⟨(by rw [if_neg (by omega)]), rfl, rfl⟩
end Go.Proofs.Ytpcgpnijhpcbeaa
