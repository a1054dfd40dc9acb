import Derived.Test.YtfikjheicjamhaaDoorG6
import Derived.Test.YtfikjheicjamhaaDoorG2
import Derived.Test.YtfikjheicjamhaaDoorG3
section
/- Contracts: the document's disk (layer 12): names, files, sums. -/
set_option linter.unusedVariables false
set_option linter.unusedSimpArgs false
set_option maxRecDepth 20000
namespace Go.Proofs.YtfikjheicjamhaaDoor
open Go.Eng Go.Hx
theorem y_sge {P : Program} {N : Nat} {D : List Deferred} {ρ : Env} {w : World} {x y : Operand} {ty t t' : TypeId} {a b : ByteArray} (hx : ev ρ x = some (.string a)) (hy : ev ρ y = some (.string b)) : Yl P N D ρ w (.binOp .geq t x y t') ty (.bool (!Op.bytesLess a.toList b.toList)) :=
  fun _ _ _ _ _ ha => by simp [execOp, ha.eval hx, ha.eval hy, eqGuard, binOp, Op.stringOp]
/-- a file: its name and its bytes -/
abbrev FP := List UInt8 × List UInt8
def fc (l : List FP) : List Value := l.flatMap fun x => [SV x.1, SV x.2]
theorem fc_len (l : List FP) : (fc l).length = l.length * 2 := by
  induction l with
  | nil => rfl
  | cons a r ih => simp only [fc, List.flatMap_cons, List.length_append, List.length_cons, List.length_nil] at ih ⊢; omega
theorem fc_append (a b : List FP) : fc (a ++ b) = fc a ++ fc b := by simp [fc]
theorem fc_get : ∀ (l : List FP) (i : Nat) (x : FP), l[i]? = some x → (fc l)[i * 2]? = some (SV x.1) ∧ (fc l)[i * 2 + 1]? = some (SV x.2)
  | [], i, x, h => by simp at h
  | a :: r, 0, x, h => by
    simp only [List.getElem?_cons_zero, Option.some.injEq] at h
    subst h
    exact ⟨rfl, rfl⟩
  | a :: r, i + 1, x, h => by
    have ih := fc_get r i x (by simpa using h)
    have e : fc (a :: r) = SV a.1 :: SV a.2 :: fc r := by simp [fc]
    rw [e, show (i + 1) * 2 = i * 2 + 2 by omega]
    exact ih
theorem fc_cells {w : World} {A : Option Addr} {n i : Nat} {l : List FP} {x : FP} (h : Rd w 2 A n (fc l)) (hx : l[i]? = some x) : ∀ (j : Nat) (u : Value), [SV x.1, SV x.2][j]? = some u → w.cell? (((A.getD d0).add (i * 2)).add j) = some u := by
  obtain ⟨g0, g1⟩ := fc_get l i x hx
  intro j u hu
  match j, hu with
  | 0, hu => cases hu; exact rd_fld h g0
  | 1, hu => cases hu; exact rd_fld h g1
  | j + 2, hu => simp at hu
theorem fc_one {l : List FP} : ∀ u ∈ fc l, u.oneCell' = true := by
  intro u hu
  obtain ⟨x, _, h⟩ := List.mem_flatMap.1 hu
  simp only [List.mem_cons, List.not_mem_nil, or_false] at h
  rcases h with rfl | rfl <;> rfl
theorem rnamedC {p : List UInt8} (hp : p.length ≤ 1000000000) : Con Tryd.prog 148 [.string (strOf p)] [] [] (fun v_ X_ S_ => v_ = (.bool (decide (Named p))) ∧ X_ = [] ∧ S_ = []) := by
  have hsz := strOf_size p
  refine henter (N := 22) Tryd.func148 rfl rfl (by simp) fun b => ?_
  refine hseq <| hreg <| hy (fun _ => y_assign rfl) <| hend <| hthen <| hseq <| hseq <| hreg <| hy (fun _ => y_assign rfl) <| hend <| hthen <| hblock <| ?_
  refine hloop1 (fun i => p.length - i) (fun i => [(3, .int .i64 (i : Nat))]) (fun i => []) (fun i => []) (fun i => i ≤ p.length ∧ ¬ (0 : UInt8) ∈ p.take i) 0 [(0, _)] ⟨rfl, trivial⟩ [] rfl [] rfl (⟨Nat.zero_le _, by simp⟩) ⟨rfl, trivial⟩ (fun i hI => ?_)
  obtain ⟨hip, hno⟩ := hI
  refine hseq <| hseq <| hreg <| hy (fun _ => y_move rfl) <| hy (fun _ => y_move rfl) <| hy (fun _ => y_lenStr rfl Tryd.underlying9) <| hy (fun _ => y_lss rfl rfl) <| hend <| hsub (ρ' := [(7, _), (3, _), (0, _)]) ⟨rfl, rfl, rfl, trivial⟩ <| hthen <| ?_
  refine hif rfl (fun h => ?_) (fun h => ?_)
  · have hil : i < p.length := by omega
    refine hcskip <| hthen <| hseq <| hblock <| hseq <| hreg <| hy (fun _ => y_move rfl) <| hy (fun _ => y_move rfl) <| hy (fun _ => y_idxStr rfl rfl Tryd.underlying9 rfl (strOf_at hil)) <| hy (fun _ => y_eql rfl rfl) <| hend <| hsub (ρ' := [(13, _), (7, _), (3, _), (0, _)]) ⟨rfl, rfl, rfl, rfl, trivial⟩ <| hthen <| ?_
    refine hif rfl (fun h0 => ?_) (fun h0 => ?_)
    · have h00 : p.getD i 0 = 0 := UInt8.toNat_inj.1 (by simpa using h0)
      refine hseq <| hreg <| hy (fun _ => y_assign rfl) <| hend <| hthen <| hret <| hqblock_ret <| hthen_ret <| hthen_ret <| hqblock_ret <| hthen_ret <| ?_
      exact hret1 trivial rfl rfl [] rfl [] rfl ⟨(congrArg Value.bool (decide_eq_false (fun hN => hN.2.2 (by rw [← h00]; rw [List.getD, List.getElem?_eq_getElem hil]; exact List.getElem_mem hil))).symm), rfl, rfl⟩
    · have hno2 : ¬ (0 : UInt8) ∈ p.take (i + 1) := fun hm => by
        rw [List.take_succ_eq_append_getElem hil] at hm
        rcases List.mem_append.1 hm with h1 | h1
        · exact hno h1
        · apply h0
          have := List.mem_singleton.1 h1
          rw [List.getD, List.getElem?_eq_getElem hil]
          simp [← this]
      refine hcskip <| hqblock <| hthen <| hreg <| hy (fun _ => y_move rfl) <| hy (fun _ => y_add rfl rfl (w64 (by omega) (by omega))) <| hy (fun _ => y_assign rfl) <| hend <| hsub (ρ' := [(3, _), (13, _), (7, _), (0, _)]) ⟨rfl, rfl, rfl, rfl, trivial⟩ <| ?_
      refine hnext1 (i + 1) ⟨rfl, rfl, trivial⟩ [] rfl [] rfl (⟨by omega, hno2⟩) (by omega)
  · obtain rfl : i = p.length := by omega
    rw [List.take_of_length_le (Nat.le_refl _)] at hno
    by_cases h1 : 0 < p.length
    · refine hexit <| hthen_exit <| hthen_exit <| hqblock_exit <| hthen <| hseq <| hreg <| hy (fun _ => y_move rfl) <| hy (fun _ => y_lenStr rfl Tryd.underlying9) <| hy (fun _ => yT (y_gtr rfl rfl) ((decide_eq_true (by omega)))) <| hy (fun _ => y_move rfl) <| hyg (o := _) rfl rfl rfl (fun _ => y_move rfl) <| hyg (o := _) rfl rfl rfl (fun _ => y_lenStr rfl Tryd.underlying9) <| hyg (o := _) rfl rfl rfl (fun _ => y_lss rfl rfl) <| hy (fun _ => y_pickT rfl rfl) <| hy (fun _ => y_assign rfl) <| hend <| hsub (ρ' := [(2, _), (7, _), (3, _), (0, _)]) ⟨rfl, rfl, rfl, rfl, trivial⟩ <| hthen <| hret <| ?_
      exact hret1 trivial rfl rfl [] rfl [] rfl ⟨(congrArg Value.bool (decide_eq_decide.2 ⟨fun h => ⟨fun e => by rw [e] at h1; exact absurd h1 (by decide), by omega, hno⟩, fun h => by have := h.2.1; omega⟩)), rfl, rfl⟩
    · refine hexit <| hthen_exit <| hthen_exit <| hqblock_exit <| hthen <| hseq <| hreg <| hy (fun _ => y_move rfl) <| hy (fun _ => y_lenStr rfl Tryd.underlying9) <| hy (fun _ => yF (y_gtr rfl rfl) ((decide_eq_false (by omega)))) <| hy (fun _ => y_move rfl) <| hskip rfl rfl rfl (by decide) <| hskip rfl rfl rfl (by decide) <| hskip rfl rfl rfl (by decide) <| hy (fun _ => y_pickF rfl rfl) <| hy (fun _ => y_assign rfl) <| hend <| hsub (ρ' := [(2, _), (7, _), (3, _), (0, _)]) ⟨rfl, rfl, rfl, rfl, trivial⟩ <| hthen <| hret <| ?_
      exact hret1 trivial rfl rfl [] rfl [] rfl ⟨(congrArg Value.bool (decide_eq_false (fun hN => hN.1 (List.eq_nil_of_length_eq_zero (by omega)))).symm), rfl, rfl⟩
/-- where a file stands -/
def findN (l : List FP) (p : List UInt8) : Nat := l.findIdx (fun x => decide (x.1 = p))
def findI (l : List FP) (p : List UInt8) : Int := if findN l p < l.length then (findN l p : Nat) else -1
theorem findN_at {l : List FP} {p : List UInt8} {i : Nat} {x : FP} (hx : l[i]? = some x) (h : x.1 = p) (hno : ∀ j, j < i → ∀ y, l[j]? = some y → y.1 ≠ p) : findN l p = i := by
  obtain ⟨hi, rfl⟩ := List.getElem?_eq_some_iff.1 hx
  unfold findN
  rw [List.findIdx_eq hi]
  exact ⟨by simpa using h, fun j hj => by simpa using hno j hj _ (List.getElem?_eq_getElem (by omega))⟩
theorem findN_no {l : List FP} {p : List UInt8} (hno : ∀ j, j < l.length → ∀ y, l[j]? = some y → y.1 ≠ p) : ¬ findN l p < l.length := by
  intro h
  have h1 := List.findIdx_getElem (w := h)
  exact hno _ h _ (List.getElem?_eq_getElem h) (of_decide_eq_true h1)
theorem rfindC {A : Option Addr} {n c : Nat} {l : List FP} {p : List UInt8} (hl : l.length = n) (hn : n ≤ 1000000000) : Con Tryd.prog 150 [.slice A n c, .string (strOf p)] [] [RRd 2 A n (fc l)] (fun v_ X_ S_ => v_ = (.int .i64 (findI l p)) ∧ X_ = [] ∧ S_ = []) := by
  refine henter (N := 20) Tryd.func150 rfl rfl (by simp) fun b => ?_
  refine hfactC (fun m => rdX (m.rd 0 rfl)) ?_
  rintro ⟨hl_r, hA_r⟩
  refine hseq <| hreg <| hy (fun _ => y_assign rfl) <| hend <| hthen <| hseq <| hseq <| hreg <| hy (fun _ => y_assign rfl) <| hend <| hthen <| hblock <| ?_
  refine hloop1 (fun i => n - i) (fun i => [(5, .int .i64 (i : Nat))]) (fun i => []) (fun i => []) (fun i => i ≤ n ∧ ∀ j, j < i → ∀ y, l[j]? = some y → y.1 ≠ p) 0 [(0, _), (1, _)] ⟨rfl, rfl, trivial⟩ [] rfl [] rfl (⟨Nat.zero_le _, fun j hj => absurd hj (Nat.not_lt_zero j)⟩) ⟨rfl, trivial⟩ (fun i hI => ?_)
  obtain ⟨hin, hno⟩ := hI
  refine hseq <| hseq <| hreg <| hy (fun _ => y_move rfl) <| hy (fun _ => y_move rfl) <| hy (fun _ => y_lenS rfl Tryd.underlying59) <| hy (fun _ => y_lss rfl rfl) <| hend <| hsub (ρ' := [(9, _), (5, _), (0, _), (1, _)]) ⟨rfl, rfl, rfl, rfl, trivial⟩ <| hthen <| ?_
  refine hif rfl (fun h => ?_) (fun h => ?_)
  · have hil : i < l.length := by omega
    obtain ⟨x, hx⟩ : ∃ x, l[i]? = some x := ⟨_, List.getElem?_eq_getElem hil⟩
    obtain ⟨g0, g1⟩ := fc_get l i x hx
    refine hcskip <| hthen <| hseq <| hblock <| hseq <| hreg <| hy (fun _ => y_move rfl) <| hy (fun _ => y_move rfl) <| hy (fun _ => y_idxS rfl rfl Tryd.underlying59 sz216 hA_r rfl (by omega)) <| hy (fun _ => y_fld rfl fa216_0 (by decide)) <| hy (fun m => yV (y_ld1 rfl ag9 (rd_fld (m.rd 0 rfl) g0)) ((rfl : _ = Value.string (strOf x.1)))) <| hy (fun _ => y_move rfl) <| hy (fun _ => y_seq rfl rfl) <| hend <| hsub (ρ' := [(18, _), (9, _), (5, _), (0, _), (1, _)]) ⟨rfl, rfl, rfl, rfl, rfl, trivial⟩ <| hthen <| ?_
    refine hif rfl (fun h0 => ?_) (fun h0 => ?_)
    · have he : x.1 = p := strOf_inj.1 h0
      have hN := findN_at hx he hno
      refine hseq <| hreg <| hy (fun _ => y_move rfl) <| hy (fun _ => y_assign rfl) <| hend <| hsub (ρ' := [(4, _), (18, _), (9, _), (5, _), (0, _), (1, _)]) ⟨rfl, rfl, rfl, rfl, rfl, rfl, trivial⟩ <| hthen <| hret <| hqblock_ret <| hthen_ret <| hthen_ret <| hqblock_ret <| hthen_ret <| ?_
      exact hret1 trivial rfl rfl [] rfl [] rfl ⟨(by rw [findI, hN, if_pos hil]), rfl, rfl⟩
    · have he : x.1 ≠ p := fun e => h0 (strOf_inj.2 e)
      have hno2 : ∀ j, j < i + 1 → ∀ y, l[j]? = some y → y.1 ≠ p := fun j hj y hy => by
        rcases Nat.lt_succ_iff_lt_or_eq.1 hj with h1 | h1
        · exact hno j h1 y hy
        · rw [h1, hx] at hy; cases hy; exact he
      refine hcskip <| hqblock <| hthen <| hreg <| hy (fun _ => y_move rfl) <| hy (fun _ => y_add rfl rfl (w64 (by omega) (by omega))) <| hy (fun _ => y_assign rfl) <| hend <| hsub (ρ' := [(5, _), (18, _), (9, _), (0, _), (1, _)]) ⟨rfl, rfl, rfl, rfl, rfl, trivial⟩ <| ?_
      refine hnext1 (i + 1) ⟨rfl, rfl, rfl, trivial⟩ [] rfl [0] rfl (⟨by omega, hno2⟩) (by omega)
  · obtain rfl : i = n := by omega
    refine hexit <| hthen_exit <| hthen_exit <| hqblock_exit <| hthen <| hseq <| hreg <| hy (fun _ => y_assign rfl) <| hend <| hthen <| hret <| ?_
    exact hret1 trivial rfl rfl [] rfl [] rfl ⟨(by rw [findI, if_neg (findN_no (fun j hj => hno j (by omega)))]), rfl, rfl⟩
def totF (l : List FP) : Nat := (l.map fun x => x.2.length).sum
theorem totF_take {l : List FP} {i : Nat} {x : FP} (h : l[i]? = some x) : totF (l.take (i + 1)) = totF (l.take i) + x.2.length := by
  obtain ⟨hi, rfl⟩ := List.getElem?_eq_some_iff.1 h
  rw [List.take_succ_eq_append_getElem hi]
  unfold totF
  rw [List.map_append, List.sum_append]
  simp
theorem totF_le (l : List FP) (i : Nat) : totF (l.take i) ≤ totF l := by
  have : totF l = totF (l.take i) + totF (l.drop i) := by
    conv => lhs; rw [← List.take_append_drop i l]
    simp only [totF, List.map_append, List.sum_append]
  omega
/-- a disk of the document, as a value -/
def dv (room : Int) (s l w : Value) (pw : Int) : List Value := [.int .i64 room, s, l, w, .int .i64 pw]
theorem rusedC {room pw : Int} {vl vw : Value} {A : Option Addr} {n c : Nat} {l : List FP} (hl : l.length = n) (hn : n ≤ 1000000000) (ht : totF l ≤ 1000000000000) : Con Tryd.prog 149 [.agg (dv room (.slice A n c) vl vw pw).toArray] [] [RRd 2 A n (fc l)] (fun v_ X_ S_ => v_ = (.int .i64 (totF l : Nat)) ∧ X_ = [] ∧ S_ = []) := by
  refine henter (N := 22) Tryd.func149 rfl rfl (by simp) fun b => ?_
  refine hfactC (fun m => rdX (m.rd 0 rfl)) ?_
  rintro ⟨hl_r, hA_r⟩
  refine hseq <| hreg <| ?_
  refine hx (xh_box rfl (fun g1 => ?_))
  refine hmemL (fun w m => m.eqX 0 rfl (show _ = RBlk g1 62 (dv room (.slice A n c) vl vw pw) from congrArg (RBlk _ _) (cells_agg _))) ?_
  refine hy (fun _ => y_assign rfl) <| hend <| hmemQ (X' := [_]) (S' := [_]) (fun _ m => m) <| hthen <| hseq <| hreg <| hy (fun _ => y_assign rfl) <| hend <| hthen <| hseq <| hseq <| hreg <| hy (fun _ => y_assign rfl) <| hend <| hthen <| hblock <| ?_
  refine hloop1 (fun i => n - i) (fun i => [(3, .int .i64 (totF (l.take i) : Nat)), (4, .int .i64 (i : Nat))]) (fun i => [RBlk g1 62 (dv room (.slice A n c) vl vw pw)]) (fun i => []) (fun i => i ≤ n) 0 [(2, _), (1, _), (0, _)] ⟨rfl, rfl, rfl, trivial⟩ [0] rfl [] rfl (Nat.zero_le _) ⟨rfl, rfl, trivial⟩ (fun i hI => ?_)
  refine hseq <| hseq <| hreg <| hy (fun _ => y_move rfl) <| hy (fun _ => y_fld rfl fa62_1 (by decide)) <| hy (fun m => y_ld1 rfl ag59 (ld_blk (m.blk 0 rfl) rfl)) <| hy (fun _ => y_lenS rfl Tryd.underlying59) <| hy (fun _ => y_lss rfl rfl) <| hend <| hsub (ρ' := [(9, _), (3, _), (4, _), (2, _), (1, _), (0, _)]) ⟨rfl, rfl, rfl, rfl, rfl, rfl, trivial⟩ <| hthen <| ?_
  refine hif rfl (fun h => ?_) (fun h => ?_)
  · have hil : i < l.length := by omega
    obtain ⟨x, hx⟩ : ∃ x, l[i]? = some x := ⟨_, List.getElem?_eq_getElem hil⟩
    obtain ⟨g0, g2⟩ := fc_get l i x hx
    have h1 := totF_take hx
    have h2 := totF_le l (i + 1)
    have hsz := strOf_size x.2
    refine hcskip <| hthen <| hseq <| hblock <| hreg <| hy (fun _ => y_move rfl) <| hy (fun _ => y_fld rfl fa62_1 (by decide)) <| hy (fun m => y_ld1 rfl ag59 (ld_blk (m.blk 0 rfl) (i := 1) rfl)) <| hy (fun _ => y_move rfl) <| hy (fun _ => y_idxS rfl rfl Tryd.underlying59 sz216 hA_r rfl (by omega)) <| hy (fun _ => y_fld rfl fa216_1 (by decide)) <| hy (fun m => yV (y_ld1 rfl ag9 (rd_fld (m.rd 0 rfl) g2)) ((rfl : _ = Value.string (strOf x.2)))) <| hy (fun _ => y_lenStr rfl Tryd.underlying9) <| hy (fun _ => yV (y_add rfl rfl (w64 (by omega) (by omega))) ((show Value.int .i64 ((totF (l.take i) : Nat) + ((strOf x.2).size : Nat)) = .int .i64 (totF (l.take (i + 1)) : Nat) by rw [hsz, h1]; rfl))) <| hy (fun _ => y_assign rfl) <| hend <| hsub (ρ' := [(3, _), (9, _), (4, _), (2, _), (1, _), (0, _)]) ⟨rfl, rfl, rfl, rfl, rfl, rfl, trivial⟩ <| hqblock <| hthen <| hreg <| hy (fun _ => y_move rfl) <| hy (fun _ => y_add rfl rfl (w64 (by omega) (by omega))) <| hy (fun _ => y_assign rfl) <| hend <| hsub (ρ' := [(4, _), (3, _), (9, _), (2, _), (1, _), (0, _)]) ⟨rfl, rfl, rfl, rfl, rfl, rfl, trivial⟩ <| ?_
    refine hnext1 (i + 1) ⟨rfl, rfl, rfl, rfl, rfl, trivial⟩ [0] rfl [0] rfl (by omega) (by omega)
  · obtain rfl : i = n := by omega
    refine hexit <| hthen_exit <| hthen_exit <| hqblock_exit <| hthen <| hseq <| hreg <| hy (fun _ => y_move rfl) <| hy (fun _ => y_assign rfl) <| hend <| hsub (ρ' := [(2, _), (9, _), (3, _), (4, _), (1, _), (0, _)]) ⟨rfl, rfl, rfl, rfl, rfl, rfl, trivial⟩ <| hthen <| hret <| ?_
    exact hret1 trivial rfl rfl [] rfl [] rfl ⟨(by rw [← hl, List.take_of_length_le (Nat.le_refl _)]), rfl, rfl⟩
theorem rwithoutC {A : Option Addr} {n c : Nat} {l : List FP} {p : List UInt8} (hl : l.length = n) (hn : n ≤ 1000000) : Con Tryd.prog 186 [.slice A n c, .string (strOf p)] [] [RRd 2 A n (fc l)] (fun v_ X_ S_ => ∃ v k, v_ = v ∧ X_ = [ROwn 216 2 v k (fc (l.filter fun x => decide (x.1 ≠ p)))] ∧ S_ = [] ∧ (k = (l.filter fun x => decide (x.1 ≠ p)).length)) := by
  refine henter (N := 28) Tryd.func186 rfl rfl (by simp) fun b => ?_
  refine hfactC (fun m => rdX (m.rd 0 rfl)) ?_
  rintro ⟨hl_r, hA_r⟩
  refine hseq <| hreg <| hy (fun _ => y_assign rfl) <| hend <| hthen <| hseq <| hreg <| hy (fun _ => y_assign rfl) <| hend <| hthen <| hseq <| hseq <| hreg <| hy (fun _ => y_assign rfl) <| hend <| hthen <| hblock <| ?_
  refine hmemC (fun w m => m.addX (r' := ROwn 216 2 (.slice none 0 0) 0 []) (.refl _ _) (Own.nil _ _ _ _) (fun k hk => hk.elim)) ?_
  refine hloop4 (fun i A1 k c1 => n - i) (fun i A1 k c1 => [(5, .slice A1 k c1), (6, .int .i64 (i : Nat))]) (fun i A1 k c1 => [ROwn 216 2 (.slice A1 k c1) k (fc ((l.take i).filter fun x => decide (x.1 ≠ p)))]) (fun i A1 k c1 => []) (fun i A1 k c1 => i ≤ n ∧ k = ((l.take i).filter fun x => decide (x.1 ≠ p)).length) 0 none 0 0 [(4, _), (0, _), (1, _)] ⟨rfl, rfl, rfl, trivial⟩ [0] rfl [] rfl (⟨Nat.zero_le _, rfl⟩) ⟨rfl, rfl, trivial⟩ (fun i A1 k c1 hI => ?_)
  obtain ⟨hin, hk⟩ := hI
  have hkl : ((l.take i).filter fun x => decide (x.1 ≠ p)).length ≤ i := Nat.le_trans (List.length_filter_le ..) (by rw [List.length_take]; omega)
  refine hseq <| hseq <| hreg <| hy (fun _ => y_move rfl) <| hy (fun _ => y_move rfl) <| hy (fun _ => y_lenS rfl Tryd.underlying59) <| hy (fun _ => y_lss rfl rfl) <| hend <| hsub (ρ' := [(10, _), (5, _), (6, _), (4, _), (0, _), (1, _)]) ⟨rfl, rfl, rfl, rfl, rfl, rfl, trivial⟩ <| hthen <| ?_
  refine hif rfl (fun h => ?_) (fun h => ?_)
  · have hil : i < l.length := by omega
    obtain ⟨x, hgx⟩ : ∃ x, l[i]? = some x := ⟨_, List.getElem?_eq_getElem hil⟩
    obtain ⟨g0, g2⟩ := fc_get l i x hgx
    have hts : (l.take (i + 1)).filter (fun x => decide (x.1 ≠ p)) = (l.take i).filter (fun x => decide (x.1 ≠ p)) ++ [x].filter (fun x => decide (x.1 ≠ p)) := by
      obtain ⟨hi, rfl⟩ := List.getElem?_eq_some_iff.1 hgx
      rw [List.take_succ_eq_append_getElem hi, List.filter_append]
    refine hcskip <| hthen <| hseq <| hblock <| hseq <| hreg <| hy (fun _ => y_move rfl) <| hy (fun _ => y_move rfl) <| hy (fun _ => y_idxS rfl rfl Tryd.underlying59 sz216 hA_r rfl (by omega)) <| hy (fun _ => y_fld rfl fa216_0 (by decide)) <| hy (fun m => yV (y_ld1 rfl ag9 (rd_fld (m.rd 0 rfl) g0)) ((rfl : _ = Value.string (strOf x.1)))) <| hy (fun _ => y_move rfl) <| hy (fun _ => y_sne rfl rfl) <| hend <| hsub (ρ' := [(19, _), (10, _), (5, _), (6, _), (4, _), (0, _), (1, _)]) ⟨rfl, rfl, rfl, rfl, rfl, rfl, rfl, trivial⟩ <| hthen <| ?_
    refine hif rfl (fun h0 => ?_) (fun h0 => ?_)
    · have hF : (l.take i).filter (fun x => decide (x.1 ≠ p)) ++ [x] = (l.take (i + 1)).filter (fun x => decide (x.1 ≠ p)) := by
        have hne : x.1 ≠ p := fun e => h0 (strOf_inj.2 e)
        rw [hts]; simp [hne]
      refine hreg <| hy (fun _ => y_move rfl) <| hy (fun _ => y_move rfl) <| hy (fun _ => y_move rfl) <| hy (fun _ => y_idxS rfl rfl Tryd.underlying59 sz216 hA_r rfl (by omega)) <| hy (fun m => yV (y_ldN rfl ag216 sz216 rfl (fc_cells (m.rd 0 rfl) hgx)) ((rfl : _ = Value.agg [SV x.1, SV x.2].toArray))) <| ?_
      refine hx (xh_bsl Tryd.underlying59 ti216 rfl rfl rfl (by simp [Value.cells, B8]) (by decide) (by decide) (fun g25 => ?_))
      have hA_b25 : 0 < 1 → (some (⟨g25, 0, none⟩ : Addr)) ≠ none := fun _ h => by cases h
      refine hmemL (fun w m => m.eqX 0 rfl (show _ = ROwn 216 2 (.slice (some ⟨g25, 0, none⟩) 1 1) 1 (fc [x]) from rfl)) ?_
      refine hx (xh_app 1 rfl rfl rfl Tryd.underlying59 Tryd.underlying59 (by exact .inl rfl) ti216 rfl (fun m => Src.of_rd (m.ord 0 rfl)) fc_one (by unfold maxLen; omega) (by omega) (fun u => ?_))
      refine hfactL (fun m => (m.own 0 rfl).slice) ?_
      rintro ⟨A_o, c_o, rfl, hc_o⟩
      refine hfactL (fun m => (m.ord 0 rfl).2.1) fun hA_o => ?_
      refine hmemL (fun w m => m.eqX 0 rfl (show _ = ROwn 216 2 (.slice A_o (k + 1) c_o) (k + 1) (fc ((l.take (i + 1)).filter fun x => decide (x.1 ≠ p))) from congrArg (ROwn _ _ _ _) ((fc_append ..).symm.trans (congrArg fc hF)))) ?_
      refine hy (fun _ => y_assign rfl) <| hend <| hsub (ρ' := [(5, _), (19, _), (10, _), (6, _), (4, _), (0, _), (1, _)]) ⟨rfl, rfl, rfl, rfl, rfl, rfl, rfl, trivial⟩ <| hmemQ (X' := [_, _]) (S' := [_]) (fun _ m => m) <| hqblock <| hthen <| hreg <| hy (fun _ => y_move rfl) <| hy (fun _ => y_add rfl rfl (w64 (by omega) (by omega))) <| hy (fun _ => y_assign rfl) <| hend <| hsub (ρ' := [(6, _), (5, _), (19, _), (10, _), (4, _), (0, _), (1, _)]) ⟨rfl, rfl, rfl, rfl, rfl, rfl, rfl, trivial⟩ <| ?_
      refine hnext4 (i + 1) A_o (k + 1) c_o ⟨rfl, rfl, rfl, rfl, rfl, trivial⟩ [0] rfl [0] rfl (⟨by omega, by rw [← hF, hk, List.length_append]; rfl⟩) (by omega)
    · have hF : (l.take (i + 1)).filter (fun x => decide (x.1 ≠ p)) = (l.take i).filter (fun x => decide (x.1 ≠ p)) := by
        have hne : x.1 = p := strOf_inj.1 (Decidable.not_not.1 h0)
        rw [hts]; simp [hne]
      refine hmemC (fun w m => m.eqX 0 rfl (show _ = ROwn 216 2 (.slice A1 k c1) k (fc ((l.take (i + 1)).filter fun x => decide (x.1 ≠ p))) from by rw [hF])) ?_
      refine hcskip <| hqblock <| hthen <| hreg <| hy (fun _ => y_move rfl) <| hy (fun _ => y_add rfl rfl (w64 (by omega) (by omega))) <| hy (fun _ => y_assign rfl) <| hend <| hsub (ρ' := [(6, _), (19, _), (10, _), (5, _), (4, _), (0, _), (1, _)]) ⟨rfl, rfl, rfl, rfl, rfl, rfl, rfl, trivial⟩ <| ?_
      refine hnext4 (i + 1) A1 k c1 ⟨rfl, rfl, rfl, rfl, rfl, trivial⟩ [0] rfl [0] rfl (⟨by omega, by rw [hF]; exact hk⟩) (by omega)
  · obtain rfl : i = n := by omega
    rw [← hl, List.take_of_length_le (Nat.le_refl _)] at hk
    refine hmemC (fun w m => m.eqX 0 rfl (show _ = ROwn 216 2 (.slice A1 k c1) k (fc (l.filter fun x => decide (x.1 ≠ p))) from by rw [← hl, List.take_of_length_le (Nat.le_refl _)])) ?_
    refine hexit <| hthen_exit <| hthen_exit <| hqblock_exit <| hthen <| hseq <| hreg <| hy (fun _ => y_move rfl) <| hy (fun _ => y_assign rfl) <| hend <| hsub (ρ' := [(4, _), (10, _), (5, _), (6, _), (0, _), (1, _)]) ⟨rfl, rfl, rfl, rfl, rfl, rfl, trivial⟩ <| hthen <| hret <| ?_
    exact hret1 trivial rfl rfl [0] rfl [] rfl ⟨_, _, rfl, rfl, rfl, hk⟩
end Go.Proofs.YtfikjheicjamhaaDoor
end
section
/- Contracts: the document's disk (layer 12): files with one more, changes. -/
set_option linter.unusedVariables false
set_option linter.unusedSimpArgs false
set_option maxRecDepth 20000
namespace Go.Proofs.YtfikjheicjamhaaDoor
open Go.Eng Go.Hx
def sless (a b : List UInt8) : Bool := Op.bytesLess (strOf a).toList (strOf b).toList
def wstep (f : FP) (st : List FP × Bool) (x : FP) : List FP × Bool :=
  let s1 := if st.2 = false ∧ sless x.1 f.1 = false then (st.1 ++ [f], true) else st
  (if x.1 ≠ f.1 then s1.1 ++ [x] else s1.1, s1.2)
def wst (f : FP) (l : List FP) (i : Nat) : List FP × Bool := (l.take i).foldl (wstep f) ([], false)
theorem wst_succ {f : FP} {l : List FP} {i : Nat} {x : FP} (h : l[i]? = some x) : wst f l (i + 1) = wstep f (wst f l i) x := by
  obtain ⟨hi, rfl⟩ := List.getElem?_eq_some_iff.1 h
  unfold wst
  rw [List.take_succ_eq_append_getElem hi, List.foldl_append]
  rfl
def withF (l : List FP) (f : FP) : List FP := if (wst f l l.length).2 then (wst f l l.length).1 else (wst f l l.length).1 ++ [f]
theorem rwithC {A : Option Addr} {n c : Nat} {l : List FP} {f : FP} (hl : l.length = n) (hn : n ≤ 1000000) : Con Tryd.prog 185 [.slice A n c, .agg [SV f.1, SV f.2].toArray] [] [RRd 2 A n (fc l)] (fun v_ X_ S_ => ∃ v k, v_ = v ∧ X_ = [ROwn 216 2 v k (fc (withF l f))] ∧ S_ = [] ∧ (k = (withF l f).length ∧ k ≤ n + 1)) := by
  refine henter (N := 52) Tryd.func185 rfl rfl (by simp) fun b => ?_
  refine hfactC (fun m => rdX (m.rd 0 rfl)) ?_
  rintro ⟨hl_r, hA_r⟩
  refine hseq <| hreg <| ?_
  refine hx (xh_box rfl (fun g3 => ?_))
  refine hmemL (fun w m => m.eqX 0 rfl (show _ = RBlk g3 216 [SV f.1, SV f.2] from congrArg (RBlk _ _) (cells_agg _))) ?_
  refine hy (fun _ => y_assign rfl) <| hend <| hmemQ (X' := [_]) (S' := [_]) (fun _ m => m) <| hthen <| hseq <| hreg <| hy (fun _ => y_assign rfl) <| hend <| hthen <| hseq <| hreg <| hy (fun _ => y_assign rfl) <| hend <| hthen <| hseq <| hseq <| hreg <| hy (fun _ => y_assign rfl) <| hend <| hthen <| hblock <| ?_
  refine hmemC (fun w m => m.addX (r' := ROwn 216 2 (.slice none 0 0) 0 []) (.refl _ _) (Own.nil _ _ _ _) (fun k hk => hk.elim)) ?_
  refine hloop6 (fun i A1 k c1 out pt => n - i) (fun i A1 k c1 out pt => [(5, .slice A1 k c1), (6, .bool pt), (7, .int .i64 (i : Nat))]) (fun i A1 k c1 out pt => [ROwn 216 2 (.slice A1 k c1) k (fc out), RBlk g3 216 [SV f.1, SV f.2]]) (fun i A1 k c1 out pt => []) (fun i A1 k c1 out pt => i ≤ n ∧ wst f l i = (out, pt) ∧ k = out.length ∧ k ≤ i + pt.toNat) 0 none 0 0 [] false [(4, _), (3, _), (0, _), (1, _)] ⟨rfl, rfl, rfl, rfl, trivial⟩ [0, 0] rfl [] rfl (⟨Nat.zero_le _, rfl, rfl, Nat.le_refl _⟩) ⟨rfl, rfl, rfl, trivial⟩ (fun i A1 k c1 out pt ⟨hin, hw, hk, hki⟩ => ?_)
  have hpt : pt.toNat ≤ 1 := by cases pt <;> decide
  refine hseq <| hseq <| hreg <| hy (fun _ => y_move rfl) <| hy (fun _ => y_move rfl) <| hy (fun _ => y_lenS rfl Tryd.underlying59) <| hy (fun _ => y_lss rfl rfl) <| hend <| hsub (ρ' := [(11, _), (5, _), (6, _), (7, _), (4, _), (3, _), (0, _), (1, _)]) ⟨rfl, rfl, rfl, rfl, rfl, rfl, rfl, rfl, trivial⟩ <| hthen <| ?_
  refine hif rfl (fun h => ?_) (fun h => ?_)
  · have hil : i < l.length := by omega
    obtain ⟨x, hgx⟩ : ∃ x, l[i]? = some x := ⟨_, List.getElem?_eq_getElem hil⟩
    obtain ⟨g0, g2⟩ := fc_get l i x hgx
    have hs := wst_succ (f := f) hgx
    rw [hw] at hs
    unfold wstep at hs
    by_cases hp : pt = true
    · subst hp
      simp only [Bool.true_eq_false, false_and, if_false] at hs
      refine hcskip <| hthen <| hseq <| hblock <| hseq <| hseq <| hdrw [] [(0, some 0), (1, some 0), (2, some 0), (3, some 0), (4, some 0), (5, some 0), (6, some 0), (7, some 0), (8, some 0), (9, some 0), (10, some 0), (11, some 0)] (by kernel_rfl) (by kernel_rfl) rfl 99 <| htyU (y_move rfl) <| htyU ((y_not rfl)) <| htyU (y_move rfl) <| htskip rfl rfl rfl (by decide) <| htskip rfl rfl rfl (by decide) <| htskip rfl rfl rfl (by decide) <| htskip rfl rfl rfl (by decide) <| htskip rfl rfl rfl (by decide) <| htskip rfl rfl rfl (by decide) <| htskip rfl rfl rfl (by decide) <| htskip rfl rfl rfl (by decide) <| htyU (y_pickF rfl rfl) <| htend <| hsub (ρ' := [(25, _), (11, _), (5, _), (6, _), (7, _), (4, _), (3, _), (0, _), (1, _)]) ⟨rfl, rfl, rfl, rfl, rfl, rfl, rfl, rfl, rfl, trivial⟩ <| hthen <| ?_
      refine hiff rfl (rfl) ?_
      refine hcskip <| hthen <| hseq <| hdrw [] [(0, some 0), (1, some 0), (2, some 0), (3, some 0), (4, some 0), (5, some 0), (6, some 0), (7, some 0)] (by kernel_rfl) (by kernel_rfl) rfl 99 <| htyU (y_move rfl) <| htyU (y_move rfl) <| htyU (y_idxS rfl rfl Tryd.underlying59 sz216 hA_r rfl (by omega)) <| htyU (y_fld rfl fa216_0 (by decide)) <| hty (fun m => yV (y_ld1 rfl ag9 (rd_fld (m.rd 0 rfl) g0)) ((rfl : _ = Value.string (strOf x.1)))) <| htyU (y_fld rfl fa216_0 (by decide)) <| hty (fun m => yV (y_ld1 rfl ag9 (ld_blk (m.blk 1 rfl) (i := 0) rfl)) ((rfl : _ = Value.string (strOf f.1)))) <| htyU (y_sne rfl rfl) <| htend <| hsub (ρ' := [(37, _), (25, _), (11, _), (5, _), (6, _), (7, _), (4, _), (3, _), (0, _), (1, _)]) ⟨rfl, rfl, rfl, rfl, rfl, rfl, rfl, rfl, rfl, rfl, trivial⟩ <| hthen <| ?_
      refine hif rfl (fun h1 => ?_) (fun h1 => ?_)
      · have hne : x.1 ≠ f.1 := fun e => h1 (strOf_inj.2 e)
        refine hreg <| hy (fun _ => y_move rfl) <| hy (fun _ => y_move rfl) <| hy (fun _ => y_move rfl) <| hy (fun _ => y_idxS rfl rfl Tryd.underlying59 sz216 hA_r rfl (by omega)) <| hy (fun m => yV (y_ldN rfl ag216 sz216 rfl (fc_cells (m.rd 0 rfl) hgx)) ((rfl : _ = Value.agg [SV x.1, SV x.2].toArray))) <| ?_
        refine hx (xh_bsl Tryd.underlying59 ti216 rfl rfl rfl (by simp [Value.cells, B8]) (by decide) (by decide) (fun g43 => ?_))
        have hA_b43 : 0 < 1 → (some (⟨g43, 0, none⟩ : Addr)) ≠ none := fun _ h => by cases h
        refine hmemL (fun w m => m.eqX 0 rfl (show _ = ROwn 216 2 (.slice (some ⟨g43, 0, none⟩) 1 1) 1 (fc [x]) from rfl)) ?_
        refine hx (xh_app 1 rfl rfl rfl Tryd.underlying59 Tryd.underlying59 (by exact .inl rfl) ti216 rfl (fun m => Src.of_rd (m.ord 0 rfl)) fc_one (by unfold maxLen; omega) (by omega) (fun u => ?_))
        refine hfactL (fun m => (m.own 0 rfl).slice) ?_
        rintro ⟨A_o, c_o, rfl, hc_o⟩
        refine hfactL (fun m => (m.ord 0 rfl).2.1) fun hA_o => ?_
        refine hmemL (fun w m => m.eqX 0 rfl (show _ = ROwn 216 2 (.slice A_o (k + 1) c_o) (k + 1) (fc (out ++ [x])) from congrArg (ROwn _ _ _ _) (fc_append ..).symm)) ?_
        refine hy (fun _ => y_assign rfl) <| hend <| hsub (ρ' := [(5, _), (37, _), (25, _), (11, _), (6, _), (7, _), (4, _), (3, _), (0, _), (1, _)]) ⟨rfl, rfl, rfl, rfl, rfl, rfl, rfl, rfl, rfl, rfl, trivial⟩ <| hmemQ (X' := [_, _, _]) (S' := [_]) (fun _ m => m) <| hqblock <| hthen <| hreg <| hy (fun _ => y_move rfl) <| hy (fun _ => y_add rfl rfl (w64 (by omega) (by omega))) <| hy (fun _ => y_assign rfl) <| hend <| hsub (ρ' := [(7, _), (5, _), (37, _), (25, _), (11, _), (6, _), (4, _), (3, _), (0, _), (1, _)]) ⟨rfl, rfl, rfl, rfl, rfl, rfl, rfl, rfl, rfl, rfl, trivial⟩ <| ?_
        refine hnext6 (i + 1) A_o (k + 1) c_o (out ++ [x]) true ⟨rfl, rfl, rfl, rfl, rfl, rfl, rfl, trivial⟩ [0, 1] rfl [0] rfl (⟨by omega, by rw [hs, if_pos hne], by rw [List.length_append, hk.symm]; rfl, by simp at hki ⊢; omega⟩) (by omega)
      · have hne : ¬ x.1 ≠ f.1 := fun e => h1 (fun h => e (strOf_inj.1 h))
        refine hcskip <| hqblock <| hthen <| hreg <| hy (fun _ => y_move rfl) <| hy (fun _ => y_add rfl rfl (w64 (by omega) (by omega))) <| hy (fun _ => y_assign rfl) <| hend <| hsub (ρ' := [(7, _), (37, _), (25, _), (11, _), (5, _), (6, _), (4, _), (3, _), (0, _), (1, _)]) ⟨rfl, rfl, rfl, rfl, rfl, rfl, rfl, rfl, rfl, rfl, trivial⟩ <| ?_
        refine hnext6 (i + 1) A1 (k) c1 (out) true ⟨rfl, rfl, rfl, rfl, rfl, rfl, rfl, trivial⟩ [0, 0] rfl [0] rfl (⟨by omega, by rw [hs, if_neg hne], hk.symm.symm, by simp at hki ⊢; omega⟩) (by omega)
    · obtain rfl : pt = false := by simpa using hp
      by_cases hge : sless x.1 f.1 = false
      · simp only [hge, and_self, if_true] at hs
        refine hcskip <| hthen <| hseq <| hblock <| hseq <| hseq <| hdrw [] [(0, some 0), (1, some 0), (2, some 0), (3, some 0), (4, some 0), (5, some 0), (6, some 0), (7, some 0), (8, some 0), (9, some 0), (10, some 0), (11, some 0)] (by kernel_rfl) (by kernel_rfl) rfl 99 <| htyU (y_move rfl) <| htyU ((y_not rfl)) <| htyU (y_move rfl) <| htyUg (o := _) rfl rfl rfl (y_move rfl) <| htyUg (o := _) rfl rfl rfl (y_move rfl) <| htyUg (o := _) rfl rfl rfl (y_idxS rfl rfl Tryd.underlying59 sz216 hA_r rfl (by omega)) <| htyUg (o := _) rfl rfl rfl (y_fld rfl fa216_0 (by decide)) <| htyg (o := _) rfl rfl rfl (fun m => yV (y_ld1 rfl ag9 (rd_fld (m.rd 0 rfl) g0)) ((rfl : _ = Value.string (strOf x.1)))) <| htyUg (o := _) rfl rfl rfl (y_fld rfl fa216_0 (by decide)) <| htyg (o := _) rfl rfl rfl (fun m => yV (y_ld1 rfl ag9 (ld_blk (m.blk 1 rfl) (i := 0) rfl)) ((rfl : _ = Value.string (strOf f.1)))) <| htyUg (o := _) rfl rfl rfl (yT (y_sge rfl rfl) ((by show (!sless x.1 f.1) = true; rw [hge]; rfl))) <| htyU (y_pickT rfl rfl) <| htend <| hsub (ρ' := [(25, _), (11, _), (5, _), (6, _), (7, _), (4, _), (3, _), (0, _), (1, _)]) ⟨rfl, rfl, rfl, rfl, rfl, rfl, rfl, rfl, rfl, trivial⟩ <| hthen <| ?_
        refine hift rfl (rfl) ?_
        refine hseq <| hreg <| hy (fun _ => y_move rfl) <| hy (fun m => yV (y_ldN rfl ag216 sz216 rfl ((m.blk 1 rfl).cells0)) ((rfl : _ = Value.agg [SV f.1, SV f.2].toArray))) <| ?_
        refine hx (xh_bsl Tryd.underlying59 ti216 rfl rfl rfl (by simp [Value.cells, B8]) (by decide) (by decide) (fun g28 => ?_))
        have hA_b28 : 0 < 1 → (some (⟨g28, 0, none⟩ : Addr)) ≠ none := fun _ h => by cases h
        refine hmemL (fun w m => m.eqX 0 rfl (show _ = ROwn 216 2 (.slice (some ⟨g28, 0, none⟩) 1 1) 1 (fc [f]) from rfl)) ?_
        refine hx (xh_app 1 rfl rfl rfl Tryd.underlying59 Tryd.underlying59 (by exact .inl rfl) ti216 rfl (fun m => Src.of_rd (m.ord 0 rfl)) fc_one (by unfold maxLen; omega) (by omega) (fun u => ?_))
        refine hfactL (fun m => (m.own 0 rfl).slice) ?_
        rintro ⟨A_o, c_o, rfl, hc_o⟩
        refine hfactL (fun m => (m.ord 0 rfl).2.1) fun hA_o => ?_
        refine hmemL (fun w m => m.eqX 0 rfl (show _ = ROwn 216 2 (.slice A_o (k + 1) c_o) (k + 1) (fc (out ++ [f])) from congrArg (ROwn _ _ _ _) (fc_append ..).symm)) ?_
        have hk1 : (out ++ [f]).length = k + 1 := by rw [List.length_append, hk]; rfl
        refine hy (fun _ => y_assign rfl) <| hend <| hsub (ρ' := [(5, _), (25, _), (11, _), (6, _), (7, _), (4, _), (3, _), (0, _), (1, _)]) ⟨rfl, rfl, rfl, rfl, rfl, rfl, rfl, rfl, rfl, trivial⟩ <| hmemQ (X' := [_, _, _]) (S' := [_]) (fun _ m => m) <| hthen <| hreg <| hy (fun _ => y_assign rfl) <| hend <| hthen <| hseq <| hdrw [] [(0, some 0), (1, some 0), (2, some 0), (3, some 0), (4, some 0), (5, some 0), (6, some 0), (7, some 0)] (by kernel_rfl) (by kernel_rfl) rfl 99 <| htyU (y_move rfl) <| htyU (y_move rfl) <| htyU (y_idxS rfl rfl Tryd.underlying59 sz216 hA_r rfl (by omega)) <| htyU (y_fld rfl fa216_0 (by decide)) <| hty (fun m => yV (y_ld1 rfl ag9 (rd_fld (m.rd 0 rfl) g0)) ((rfl : _ = Value.string (strOf x.1)))) <| htyU (y_fld rfl fa216_0 (by decide)) <| hty (fun m => yV (y_ld1 rfl ag9 (ld_blk (m.blk 2 rfl) (i := 0) rfl)) ((rfl : _ = Value.string (strOf f.1)))) <| htyU (y_sne rfl rfl) <| htend <| hsub (ρ' := [(37, _), (6, _), (5, _), (25, _), (11, _), (7, _), (4, _), (3, _), (0, _), (1, _)]) ⟨rfl, rfl, rfl, rfl, rfl, rfl, rfl, rfl, rfl, rfl, trivial⟩ <| hthen <| ?_
        refine hif rfl (fun h1 => ?_) (fun h1 => ?_)
        · have hne : x.1 ≠ f.1 := fun e => h1 (strOf_inj.2 e)
          refine hreg <| hy (fun _ => y_move rfl) <| hy (fun _ => y_move rfl) <| hy (fun _ => y_move rfl) <| hy (fun _ => y_idxS rfl rfl Tryd.underlying59 sz216 hA_r rfl (by omega)) <| hy (fun m => yV (y_ldN rfl ag216 sz216 rfl (fc_cells (m.rd 0 rfl) hgx)) ((rfl : _ = Value.agg [SV x.1, SV x.2].toArray))) <| ?_
          refine hx (xh_bsl Tryd.underlying59 ti216 rfl rfl rfl (by simp [Value.cells, B8]) (by decide) (by decide) (fun g43 => ?_))
          have hA_b43 : 0 < 1 → (some (⟨g43, 0, none⟩ : Addr)) ≠ none := fun _ h => by cases h
          refine hmemL (fun w m => m.eqX 0 rfl (show _ = ROwn 216 2 (.slice (some ⟨g43, 0, none⟩) 1 1) 1 (fc [x]) from rfl)) ?_
          refine hx (xh_app 1 rfl rfl rfl Tryd.underlying59 Tryd.underlying59 (by exact .inl rfl) ti216 rfl (fun m => Src.of_rd (m.ord 0 rfl)) fc_one (by unfold maxLen; omega) (by omega) (fun u2 => ?_))
          refine hfactL (fun m => (m.own 0 rfl).slice) ?_
          rintro ⟨A_o2, c_o2, rfl, hc_o⟩
          refine hfactL (fun m => (m.ord 0 rfl).2.1) fun hA_o => ?_
          refine hmemL (fun w m => m.eqX 0 rfl (show _ = ROwn 216 2 (.slice A_o2 (k + 1 + 1) c_o2) (k + 1 + 1) (fc ((out ++ [f]) ++ [x])) from congrArg (ROwn _ _ _ _) (fc_append ..).symm)) ?_
          refine hy (fun _ => y_assign rfl) <| hend <| hsub (ρ' := [(5, _), (37, _), (6, _), (25, _), (11, _), (7, _), (4, _), (3, _), (0, _), (1, _)]) ⟨rfl, rfl, rfl, rfl, rfl, rfl, rfl, rfl, rfl, rfl, trivial⟩ <| hmemQ (X' := [_, _, _, _]) (S' := [_]) (fun _ m => m) <| hqblock <| hthen <| hreg <| hy (fun _ => y_move rfl) <| hy (fun _ => y_add rfl rfl (w64 (by omega) (by omega))) <| hy (fun _ => y_assign rfl) <| hend <| hsub (ρ' := [(7, _), (5, _), (37, _), (6, _), (25, _), (11, _), (4, _), (3, _), (0, _), (1, _)]) ⟨rfl, rfl, rfl, rfl, rfl, rfl, rfl, rfl, rfl, rfl, trivial⟩ <| ?_
          refine hnext6 (i + 1) A_o2 (k + 1 + 1) c_o2 ((out ++ [f]) ++ [x]) true ⟨rfl, rfl, rfl, rfl, rfl, rfl, rfl, trivial⟩ [0, 2] rfl [0] rfl (⟨by omega, by rw [hs, if_pos hne], by rw [List.length_append, hk1]; rfl, by simp at hki ⊢; omega⟩) (by omega)
        · have hne : ¬ x.1 ≠ f.1 := fun e => h1 (fun h => e (strOf_inj.1 h))
          refine hcskip <| hqblock <| hthen <| hreg <| hy (fun _ => y_move rfl) <| hy (fun _ => y_add rfl rfl (w64 (by omega) (by omega))) <| hy (fun _ => y_assign rfl) <| hend <| hsub (ρ' := [(7, _), (37, _), (6, _), (5, _), (25, _), (11, _), (4, _), (3, _), (0, _), (1, _)]) ⟨rfl, rfl, rfl, rfl, rfl, rfl, rfl, rfl, rfl, rfl, trivial⟩ <| ?_
          refine hnext6 (i + 1) A_o (k + 1) c_o ((out ++ [f])) true ⟨rfl, rfl, rfl, rfl, rfl, rfl, rfl, trivial⟩ [0, 1] rfl [0] rfl (⟨by omega, by rw [hs, if_neg hne], hk1.symm, by simp at hki ⊢; omega⟩) (by omega)
      · have hlt : sless x.1 f.1 = true := by simpa using hge
        simp only [hlt, Bool.true_eq_false, and_false, if_false] at hs
        refine hcskip <| hthen <| hseq <| hblock <| hseq <| hseq <| hdrw [] [(0, some 0), (1, some 0), (2, some 0), (3, some 0), (4, some 0), (5, some 0), (6, some 0), (7, some 0), (8, some 0), (9, some 0), (10, some 0), (11, some 0)] (by kernel_rfl) (by kernel_rfl) rfl 99 <| htyU (y_move rfl) <| htyU ((y_not rfl)) <| htyU (y_move rfl) <| htyUg (o := _) rfl rfl rfl (y_move rfl) <| htyUg (o := _) rfl rfl rfl (y_move rfl) <| htyUg (o := _) rfl rfl rfl (y_idxS rfl rfl Tryd.underlying59 sz216 hA_r rfl (by omega)) <| htyUg (o := _) rfl rfl rfl (y_fld rfl fa216_0 (by decide)) <| htyg (o := _) rfl rfl rfl (fun m => yV (y_ld1 rfl ag9 (rd_fld (m.rd 0 rfl) g0)) ((rfl : _ = Value.string (strOf x.1)))) <| htyUg (o := _) rfl rfl rfl (y_fld rfl fa216_0 (by decide)) <| htyg (o := _) rfl rfl rfl (fun m => yV (y_ld1 rfl ag9 (ld_blk (m.blk 1 rfl) (i := 0) rfl)) ((rfl : _ = Value.string (strOf f.1)))) <| htyUg (o := _) rfl rfl rfl (yF (y_sge rfl rfl) ((by show (!sless x.1 f.1) = false; rw [hlt]; rfl))) <| htyU (y_pickT rfl rfl) <| htend <| hsub (ρ' := [(25, _), (11, _), (5, _), (6, _), (7, _), (4, _), (3, _), (0, _), (1, _)]) ⟨rfl, rfl, rfl, rfl, rfl, rfl, rfl, rfl, rfl, trivial⟩ <| hthen <| ?_
        refine hiff rfl (rfl) ?_
        refine hcskip <| hthen <| hseq <| hdrw [] [(0, some 0), (1, some 0), (2, some 0), (3, some 0), (4, some 0), (5, some 0), (6, some 0), (7, some 0)] (by kernel_rfl) (by kernel_rfl) rfl 99 <| htyU (y_move rfl) <| htyU (y_move rfl) <| htyU (y_idxS rfl rfl Tryd.underlying59 sz216 hA_r rfl (by omega)) <| htyU (y_fld rfl fa216_0 (by decide)) <| hty (fun m => yV (y_ld1 rfl ag9 (rd_fld (m.rd 0 rfl) g0)) ((rfl : _ = Value.string (strOf x.1)))) <| htyU (y_fld rfl fa216_0 (by decide)) <| hty (fun m => yV (y_ld1 rfl ag9 (ld_blk (m.blk 1 rfl) (i := 0) rfl)) ((rfl : _ = Value.string (strOf f.1)))) <| htyU (y_sne rfl rfl) <| htend <| hsub (ρ' := [(37, _), (25, _), (11, _), (5, _), (6, _), (7, _), (4, _), (3, _), (0, _), (1, _)]) ⟨rfl, rfl, rfl, rfl, rfl, rfl, rfl, rfl, rfl, rfl, trivial⟩ <| hthen <| ?_
        refine hif rfl (fun h1 => ?_) (fun h1 => ?_)
        · have hne : x.1 ≠ f.1 := fun e => h1 (strOf_inj.2 e)
          refine hreg <| hy (fun _ => y_move rfl) <| hy (fun _ => y_move rfl) <| hy (fun _ => y_move rfl) <| hy (fun _ => y_idxS rfl rfl Tryd.underlying59 sz216 hA_r rfl (by omega)) <| hy (fun m => yV (y_ldN rfl ag216 sz216 rfl (fc_cells (m.rd 0 rfl) hgx)) ((rfl : _ = Value.agg [SV x.1, SV x.2].toArray))) <| ?_
          refine hx (xh_bsl Tryd.underlying59 ti216 rfl rfl rfl (by simp [Value.cells, B8]) (by decide) (by decide) (fun g43 => ?_))
          have hA_b43 : 0 < 1 → (some (⟨g43, 0, none⟩ : Addr)) ≠ none := fun _ h => by cases h
          refine hmemL (fun w m => m.eqX 0 rfl (show _ = ROwn 216 2 (.slice (some ⟨g43, 0, none⟩) 1 1) 1 (fc [x]) from rfl)) ?_
          refine hx (xh_app 1 rfl rfl rfl Tryd.underlying59 Tryd.underlying59 (by exact .inl rfl) ti216 rfl (fun m => Src.of_rd (m.ord 0 rfl)) fc_one (by unfold maxLen; omega) (by omega) (fun u => ?_))
          refine hfactL (fun m => (m.own 0 rfl).slice) ?_
          rintro ⟨A_o, c_o, rfl, hc_o⟩
          refine hfactL (fun m => (m.ord 0 rfl).2.1) fun hA_o => ?_
          refine hmemL (fun w m => m.eqX 0 rfl (show _ = ROwn 216 2 (.slice A_o (k + 1) c_o) (k + 1) (fc (out ++ [x])) from congrArg (ROwn _ _ _ _) (fc_append ..).symm)) ?_
          refine hy (fun _ => y_assign rfl) <| hend <| hsub (ρ' := [(5, _), (37, _), (25, _), (11, _), (6, _), (7, _), (4, _), (3, _), (0, _), (1, _)]) ⟨rfl, rfl, rfl, rfl, rfl, rfl, rfl, rfl, rfl, rfl, trivial⟩ <| hmemQ (X' := [_, _, _]) (S' := [_]) (fun _ m => m) <| hqblock <| hthen <| hreg <| hy (fun _ => y_move rfl) <| hy (fun _ => y_add rfl rfl (w64 (by omega) (by omega))) <| hy (fun _ => y_assign rfl) <| hend <| hsub (ρ' := [(7, _), (5, _), (37, _), (25, _), (11, _), (6, _), (4, _), (3, _), (0, _), (1, _)]) ⟨rfl, rfl, rfl, rfl, rfl, rfl, rfl, rfl, rfl, rfl, trivial⟩ <| ?_
          refine hnext6 (i + 1) A_o (k + 1) c_o (out ++ [x]) false ⟨rfl, rfl, rfl, rfl, rfl, rfl, rfl, trivial⟩ [0, 1] rfl [0] rfl (⟨by omega, by rw [hs, if_pos hne], by rw [List.length_append, hk.symm]; rfl, by simp at hki ⊢; omega⟩) (by omega)
        · have hne : ¬ x.1 ≠ f.1 := fun e => h1 (fun h => e (strOf_inj.1 h))
          refine hcskip <| hqblock <| hthen <| hreg <| hy (fun _ => y_move rfl) <| hy (fun _ => y_add rfl rfl (w64 (by omega) (by omega))) <| hy (fun _ => y_assign rfl) <| hend <| hsub (ρ' := [(7, _), (37, _), (25, _), (11, _), (5, _), (6, _), (4, _), (3, _), (0, _), (1, _)]) ⟨rfl, rfl, rfl, rfl, rfl, rfl, rfl, rfl, rfl, rfl, trivial⟩ <| ?_
          refine hnext6 (i + 1) A1 (k) c1 (out) false ⟨rfl, rfl, rfl, rfl, rfl, rfl, rfl, trivial⟩ [0, 0] rfl [0] rfl (⟨by omega, by rw [hs, if_neg hne], hk.symm.symm, by simp at hki ⊢; omega⟩) (by omega)
  · obtain rfl : i = n := by omega
    have hww : wst f l l.length = (out, pt) := by rw [hl]; exact hw
    by_cases hp : pt = true
    · subst hp
      have hW : withF l f = out := by rw [withF, hww]; rfl
      refine hexit <| hthen_exit <| hthen_exit <| hqblock_exit <| hthen <| hseq <| hseq <| hreg <| hy (fun _ => y_move rfl) <| hy (fun _ => (y_not rfl)) <| hend <| hsub (ρ' := [(46, _), (11, _), (5, _), (6, _), (7, _), (4, _), (3, _), (0, _), (1, _)]) ⟨rfl, rfl, rfl, rfl, rfl, rfl, rfl, rfl, rfl, trivial⟩ <| hthen <| ?_
      refine hiff rfl (rfl) ?_
      refine hcskip <| hthen <| hseq <| hreg <| hy (fun _ => y_move rfl) <| hy (fun _ => y_assign rfl) <| hend <| hsub (ρ' := [(4, _), (46, _), (11, _), (5, _), (6, _), (7, _), (3, _), (0, _), (1, _)]) ⟨rfl, rfl, rfl, rfl, rfl, rfl, rfl, rfl, rfl, trivial⟩ <| hthen <| hret <| ?_
      refine hmemQ (fun w m => m.eqX 0 rfl (show _ = ROwn 216 2 (.slice A1 k c1) k (fc (withF l f)) from by rw [hW])) ?_
      exact hret1 trivial rfl rfl [0] rfl [] rfl ⟨_, _, rfl, rfl, rfl, ⟨by rw [hW]; exact hk, by simp at hki; omega⟩⟩
    · obtain rfl : pt = false := by simpa using hp
      have hW : withF l f = out ++ [f] := by rw [withF, hww]; rfl
      refine hexit <| hthen_exit <| hthen_exit <| hqblock_exit <| hthen <| hseq <| hseq <| hreg <| hy (fun _ => y_move rfl) <| hy (fun _ => (y_not rfl)) <| hend <| hsub (ρ' := [(46, _), (11, _), (5, _), (6, _), (7, _), (4, _), (3, _), (0, _), (1, _)]) ⟨rfl, rfl, rfl, rfl, rfl, rfl, rfl, rfl, rfl, trivial⟩ <| hthen <| ?_
      refine hift rfl (rfl) ?_
      refine hreg <| hy (fun _ => y_move rfl) <| hy (fun m => yV (y_ldN rfl ag216 sz216 rfl ((m.blk 1 rfl).cells0)) ((rfl : _ = Value.agg [SV f.1, SV f.2].toArray))) <| ?_
      refine hx (xh_bsl Tryd.underlying59 ti216 rfl rfl rfl (by simp [Value.cells, B8]) (by decide) (by decide) (fun g49 => ?_))
      have hA_b49 : 0 < 1 → (some (⟨g49, 0, none⟩ : Addr)) ≠ none := fun _ h => by cases h
      refine hmemL (fun w m => m.eqX 0 rfl (show _ = ROwn 216 2 (.slice (some ⟨g49, 0, none⟩) 1 1) 1 (fc [f]) from rfl)) ?_
      refine hx (xh_app 1 rfl rfl rfl Tryd.underlying59 Tryd.underlying59 (by exact .inl rfl) ti216 rfl (fun m => Src.of_rd (m.ord 0 rfl)) fc_one (by unfold maxLen; omega) (by omega) (fun u => ?_))
      refine hfactL (fun m => (m.own 0 rfl).slice) ?_
      rintro ⟨A_o, c_o, rfl, hc_o⟩
      refine hfactL (fun m => (m.ord 0 rfl).2.1) fun hA_o => ?_
      refine hmemL (fun w m => m.eqX 0 rfl (show _ = ROwn 216 2 (.slice A_o (k + 1) c_o) (k + 1) (fc (withF l f)) from (congrArg (ROwn _ _ _ _) ((fc_append ..).symm.trans (congrArg fc hW.symm))))) ?_
      refine hy (fun _ => y_assign rfl) <| hend <| hsub (ρ' := [(5, _), (46, _), (11, _), (6, _), (7, _), (4, _), (3, _), (0, _), (1, _)]) ⟨rfl, rfl, rfl, rfl, rfl, rfl, rfl, rfl, rfl, trivial⟩ <| hmemQ (X' := [_, _, _]) (S' := [_]) (fun _ m => m) <| hthen <| hseq <| hreg <| hy (fun _ => y_move rfl) <| hy (fun _ => y_assign rfl) <| hend <| hsub (ρ' := [(4, _), (5, _), (46, _), (11, _), (6, _), (7, _), (3, _), (0, _), (1, _)]) ⟨rfl, rfl, rfl, rfl, rfl, rfl, rfl, rfl, rfl, trivial⟩ <| hthen <| hret <| ?_
      exact hret1 trivial rfl rfl [0] rfl [] rfl ⟨_, _, rfl, rfl, rfl, ⟨by rw [hW, List.length_append, hk]; rfl, by simp at hki; omega⟩⟩
end Go.Proofs.YtfikjheicjamhaaDoor
end
section
/- Contracts: the document's disk (layer 12): a change made, Read. -/
set_option linter.unusedVariables false
set_option linter.unusedSimpArgs false
set_option maxRecDepth 20000
namespace Go.Proofs.YtfikjheicjamhaaDoor
open Go.Eng Go.Hx
def withoutF (l : List FP) (p : List UInt8) : List FP := l.filter fun x => decide (x.1 ≠ p)
/-- a change of the document, as a value -/
def cv (k : Int) (p t b : List UInt8) : List Value := [.int .i64 k, SV p, SV t, SV b]
def makeF (l : List FP) (k : Int) (p t b : List UInt8) : List FP :=
  if k = 0 then withF l (p, b) else match l[findN l p]? with
    | none => l
    | some x => if k = 2 then withoutF l p else withF (withoutF l p) (t, x.2)
theorem findI_neg {l : List FP} {p : List UInt8} : findI l p < 0 ↔ l[findN l p]? = none := by
  unfold findI
  by_cases h : findN l p < l.length
  · rw [if_pos h, List.getElem?_eq_getElem h]; simp
  · rw [if_neg h, List.getElem?_eq_none (by omega)]; simp
theorem rmakeC {A : Option Addr} {n c : Nat} {l : List FP} {k : Int} {p t bb : List UInt8} (hl : l.length = n) (hn : n ≤ 900000) : Con Tryd.prog 170 [.slice A n c, .agg (cv k p t bb).toArray] [] [RRd 2 A n (fc l)] (fun v_ X_ S_ => ∃ A1 n1 c1, v_ = (.slice A1 n1 c1) ∧ X_ = [] ∧ S_ = [RRd 2 A1 n1 (fc (makeF l k p t bb))] ∧ (n1 = (makeF l k p t bb).length ∧ n1 ≤ n + 1)) := by
  refine henter (N := 43) Tryd.func170 rfl rfl (by simp) fun b => ?_
  refine hfactC (fun m => rdX (m.rd 0 rfl)) ?_
  rintro ⟨hl_r, hA_r⟩
  refine hseq <| hreg <| ?_
  refine hx (xh_box rfl (fun g3 => ?_))
  refine hmemL (fun w m => m.eqX 0 rfl (show _ = RBlk g3 219 (cv k p t bb) from congrArg (RBlk _ _) (cells_agg _))) ?_
  refine hy (fun _ => y_assign rfl) <| hend <| hmemQ (X' := [_]) (S' := [_]) (fun _ m => m) <| hthen <| hseq <| hseq <| hreg <| hy (fun _ => y_fld rfl fa219_0 (by decide)) <| hy (fun m => y_ld1 rfl ag3 (ld_blk (m.blk 0 rfl) (i := 0) rfl)) <| hy (fun _ => y_eql rfl rfl) <| hend <| hsub (ρ' := [(8, _), (4, _), (3, _), (0, _), (1, _)]) ⟨rfl, rfl, rfl, rfl, rfl, trivial⟩ <| hthen <| ?_
  refine hif rfl (fun h0 => ?_) (fun h0 => ?_)
  · have hM : makeF l k p t bb = withF l (p, bb) := by rw [makeF, if_pos h0]
    refine hseq <| hreg <| hy (fun _ => y_move rfl) <| hy (fun _ => y_fld rfl fa219_1 (by decide)) <| hy (fun m => yV (y_ld1 rfl ag9 (ld_blk (m.blk 0 rfl) (i := 1) rfl)) ((rfl : _ = SV p))) <| hy (fun _ => y_fld rfl fa219_3 (by decide)) <| hy (fun m => yV (y_ld1 rfl ag9 (ld_blk (m.blk 0 rfl) (i := 3) rfl)) ((rfl : _ = SV bb))) <| hy (fun _ => yV (y_build ti216 rfl rfl (by kernel_rfl) (.cons (o := 0) (sz := 1) (by kernel_rfl) rfl rfl (Nat.le_of_ble_eq_true rfl) (.cons (o := 1) (sz := 1) (by kernel_rfl) rfl rfl (Nat.le_of_ble_eq_true rfl) .nil))) ((rfl : _ = Value.agg [SV p, SV bb].toArray))) <| ?_
    refine hx (xh_call rfl Tryd.call185 (rwithC (by omega) (by omega) (f := (p, bb))) [] rfl [0] rfl ?_)
    rintro _ _ _ ⟨v, k2, rfl, rfl, rfl, hp⟩
    refine hfactL (fun m => (m.own 0 rfl).slice) ?_
    rintro ⟨A_x, c_x, rfl, hc_x⟩
    refine hfactL (fun m => (m.ord 0 rfl).2.1) fun hA_x => ?_
    refine hy (fun _ => y_assign rfl) <| hend <| hsub (ρ' := [(4, _), (8, _), (3, _), (0, _), (1, _)]) ⟨rfl, rfl, rfl, rfl, rfl, trivial⟩ <| hmemQ (X' := [_, _]) (S' := [_]) (fun _ m => m) <| hthen <| hret <| hthen_ret <| ?_
    rw [← hM] at hp
    refine hmemQ (fun w m => m.eqX 0 rfl (show _ = ROwn 216 2 (.slice A_x k2 c_x) k2 (fc (makeF l k p t bb)) from by rw [hM])) ?_
    refine hmemQ (fun w m => (m.perm (takeR_perm [0] _ [_] _ rfl)).freeze) ?_
    refine hmemQ (fun w m => m.asV 0 rfl .own) ?_
    refine hfactQ (fun m => rdX (m.rd 0 rfl)) ?_
    rintro ⟨hl_xr, hA_xr⟩
    exact hret1 trivial rfl rfl [] rfl [0] rfl ⟨_, _, _, rfl, rfl, rfl, hp⟩
  · refine hcskip <| hthen <| hseq <| hreg <| hy (fun _ => y_move rfl) <| hy (fun _ => y_fld rfl fa219_1 (by decide)) <| hy (fun m => yV (y_ld1 rfl ag9 (ld_blk (m.blk 0 rfl) (i := 1) rfl)) ((rfl : _ = SV p))) <| ?_
    refine hx (xh_call rfl Tryd.call150 (rfindC (by omega) (by omega)) [] rfl [0] rfl ?_)
    rintro _ _ _ ⟨rfl, rfl, rfl⟩
    refine hy (fun _ => y_assign rfl) <| hend <| hsub (ρ' := [(5, _), (8, _), (4, _), (3, _), (0, _), (1, _)]) ⟨rfl, rfl, rfl, rfl, rfl, rfl, trivial⟩ <| hmemQ (X' := [_]) (S' := [_]) (fun _ m => m) <| hthen <| hseq <| hseq <| hreg <| hy (fun _ => y_move rfl) <| hy (fun _ => y_lss rfl rfl) <| hend <| hsub (ρ' := [(21, _), (5, _), (8, _), (4, _), (3, _), (0, _), (1, _)]) ⟨rfl, rfl, rfl, rfl, rfl, rfl, rfl, trivial⟩ <| hthen <| ?_
    refine hif rfl (fun h1 => ?_) (fun h1 => ?_)
    · have hM : makeF l k p t bb = l := by rw [makeF, if_neg h0, findI_neg.1 h1]
      refine hseq <| hreg <| hy (fun _ => y_move rfl) <| hy (fun _ => y_assign rfl) <| hend <| hsub (ρ' := [(4, _), (21, _), (5, _), (8, _), (3, _), (0, _), (1, _)]) ⟨rfl, rfl, rfl, rfl, rfl, rfl, rfl, trivial⟩ <| hthen <| hret <| hthen_ret <| ?_
      rw [hM]
      exact hret1 trivial rfl rfl [] rfl [0] rfl ⟨_, _, _, rfl, rfl, rfl, ⟨hl.symm, by omega⟩⟩
    · obtain ⟨x0, hx0⟩ : ∃ x0, l[findN l p]? = some x0 := by
        cases hq : l[findN l p]? with
        | none => exact absurd (findI_neg.2 hq) h1
        | some x0 => exact ⟨x0, rfl⟩
      have hfl : findN l p < l.length := (List.getElem?_eq_some_iff.1 hx0).1
      obtain ⟨f0, f1⟩ := fc_get l _ x0 hx0
      have hfi : findI l p = (findN l p : Nat) := by rw [findI, if_pos hfl]
      have hwl : (withoutF l p).length ≤ l.length := List.length_filter_le ..
      refine hcskip <| hthen <| hseq <| hseq <| hreg <| hy (fun _ => y_fld rfl fa219_0 (by decide)) <| hy (fun m => y_ld1 rfl ag3 (ld_blk (m.blk 0 rfl) (i := 0) rfl)) <| hy (fun _ => y_eql rfl rfl) <| hend <| hsub (ρ' := [(25, _), (21, _), (5, _), (8, _), (4, _), (3, _), (0, _), (1, _)]) ⟨rfl, rfl, rfl, rfl, rfl, rfl, rfl, rfl, trivial⟩ <| hthen <| ?_
      refine hif rfl (fun h2 => ?_) (fun h2 => ?_)
      · have hM : makeF l k p t bb = withoutF l p := by rw [makeF, if_neg h0, hx0]; simp only [if_pos h2]
        refine hseq <| hreg <| hy (fun _ => y_move rfl) <| hy (fun _ => y_fld rfl fa219_1 (by decide)) <| hy (fun m => yV (y_ld1 rfl ag9 (ld_blk (m.blk 0 rfl) (i := 1) rfl)) ((rfl : _ = SV p))) <| ?_
        refine hx (xh_call rfl Tryd.call186 (rwithoutC (by omega) (by omega)) [] rfl [0] rfl ?_)
        rintro _ _ _ ⟨v, k2, rfl, rfl, rfl, hp⟩
        refine hfactL (fun m => (m.own 0 rfl).slice) ?_
        rintro ⟨A_x, c_x, rfl, hc_x⟩
        refine hfactL (fun m => (m.ord 0 rfl).2.1) fun hA_x => ?_
        refine hy (fun _ => y_assign rfl) <| hend <| hsub (ρ' := [(4, _), (25, _), (21, _), (5, _), (8, _), (3, _), (0, _), (1, _)]) ⟨rfl, rfl, rfl, rfl, rfl, rfl, rfl, rfl, trivial⟩ <| hmemQ (X' := [_, _]) (S' := [_]) (fun _ m => m) <| hthen <| hret <| hthen_ret <| ?_
        refine hmemQ (fun w m => m.eqX 0 rfl (show _ = ROwn 216 2 (.slice A_x k2 c_x) k2 (fc (makeF l k p t bb)) from by rw [hM]; rfl)) ?_
        refine hmemQ (fun w m => (m.perm (takeR_perm [0] _ [_] _ rfl)).freeze) ?_
        refine hmemQ (fun w m => m.asV 0 rfl .own) ?_
        refine hfactQ (fun m => rdX (m.rd 0 rfl)) ?_
        rintro ⟨hl_xr, hA_xr⟩
        exact hret1 trivial rfl rfl [] rfl [0] rfl ⟨_, _, _, rfl, rfl, rfl, ⟨hp.trans (congrArg List.length hM.symm), by rw [hp]; show (withoutF l p).length ≤ _; omega⟩⟩
      · have hM : makeF l k p t bb = withF (withoutF l p) (t, x0.2) := by rw [makeF, if_neg h0, hx0]; simp only [if_neg h2]
        refine hcskip <| hthen <| hseq <| hdrw [3, 12] [(0, some 0), (1, some 0), (2, some 0), (4, some 1), (5, some 1), (6, some 2), (7, some 2), (8, some 1), (9, some 1), (10, some 1), (11, some 1), (3, none), (12, none), (13, some 2)] (by kernel_rfl) (by kernel_rfl) rfl 99 <| htyU (y_move rfl) <| htyU (y_fld rfl fa219_1 (by decide)) <| hty (fun m => yV (y_ld1 rfl ag9 (ld_blk (m.blk 0 rfl) (i := 1) rfl)) ((rfl : _ = SV p))) <| htyU (y_fld rfl fa219_2 (by decide)) <| hty (fun m => yV (y_ld1 rfl ag9 (ld_blk (m.blk 0 rfl) (i := 2) rfl)) ((rfl : _ = SV t))) <| htyU (y_move rfl) <| htyU (y_move rfl) <| htyU (y_idxS rfl rfl Tryd.underlying59 sz216 hA_r hfi.symm (by omega)) <| htyU (y_fld rfl fa216_1 (by decide)) <| hty (fun m => yV (y_ld1 rfl ag9 (rd_fld (m.rd 0 rfl) f1)) ((rfl : _ = SV x0.2))) <| htyU (yV (y_build ti216 rfl rfl (by kernel_rfl) (.cons (o := 0) (sz := 1) (by kernel_rfl) rfl rfl (Nat.le_of_ble_eq_true rfl) (.cons (o := 1) (sz := 1) (by kernel_rfl) rfl rfl (Nat.le_of_ble_eq_true rfl) .nil))) ((rfl : _ = Value.agg [SV t, SV x0.2].toArray))) <| ?_
        refine htx (xh_call rfl Tryd.call186 (rwithoutC (by omega) (by omega)) [] rfl [0] rfl ?_)
        rintro _ _ _ ⟨v, k2, rfl, rfl, rfl, hp⟩
        refine ⟨(fun _ => wk [1] [0] rfl rfl), ?_⟩
        refine htfact (fun m => (m.own 0 rfl).slice) ?_
        rintro ⟨A_x, c_x, rfl, hc_x⟩
        refine htfact (fun m => (m.ord 0 rfl).2.1) fun hA_x => ?_
        have hk2 : k2 = (withoutF l p).length := hp
        clear hp
        refine htx (xh_calll rfl Tryd.call185 (rwithC (by omega) (by omega) (l := (withoutF l p)) (f := (t, x0.2))) [] rfl (.x 0 rfl .own .nil) ?_)
        rintro _ _ _ ⟨v2, k3, rfl, rfl, rfl, hp2⟩
        refine ⟨rfl, ?_⟩
        refine ⟨(fun _ => wk [2] [0] rfl rfl), ?_⟩
        refine htfact (fun m => (m.own 0 rfl).slice) ?_
        rintro ⟨A_x2, c_x2, rfl, hc_x2⟩
        refine htfact (fun m => (m.ord 0 rfl).2.1) fun hA_x2 => ?_
        refine htyU (y_assign rfl) <| htend <| hsub (ρ' := [(4, _), (25, _), (21, _), (5, _), (8, _), (3, _), (0, _), (1, _)]) ⟨rfl, rfl, rfl, rfl, rfl, rfl, rfl, rfl, trivial⟩ <| hmemQ (X' := [_, _, _]) (S' := [_]) (fun _ m => m) <| hthen <| hret <| ?_
        rw [hM]
        refine hmemQ (fun w m => (m.perm (takeR_perm [0] _ [_] _ rfl)).freeze) ?_
        refine hmemQ (fun w m => m.asV 0 rfl .own) ?_
        refine hfactQ (fun m => rdX (m.rd 0 rfl)) ?_
        rintro ⟨hl_x2r, hA_x2r⟩
        exact hret1 trivial rfl rfl [] rfl [0] rfl ⟨_, _, _, rfl, rfl, rfl, ⟨hp2.1, by omega⟩⟩
abbrev RC := Int × List UInt8 × List UInt8 × List UInt8
def wcs (l : List RC) : List Value := l.flatMap fun x => cv x.1 x.2.1 x.2.2.1 x.2.2.2
theorem wcs_append (a b : List RC) : wcs (a ++ b) = wcs a ++ wcs b := by simp [wcs]
theorem wcs_one {l : List RC} : ∀ u ∈ wcs l, u.oneCell' = true := by
  intro u hu
  obtain ⟨x, _, h⟩ := List.mem_flatMap.1 hu
  simp only [cv, List.mem_cons, List.not_mem_nil, or_false] at h
  rcases h with rfl | rfl | rfl | rfl <;> rfl
theorem dv_one {room pw : Int} {A A2 A3 : Option Addr} {n c n2 c2 n3 c3 : Nat} : ∀ u ∈ dv room (.slice A n c) (.slice A2 n2 c2) (.slice A3 n3 c3) pw, u.oneCell' = true := by
  intro u hu
  simp only [dv, List.mem_cons, List.not_mem_nil, or_false] at hu
  rcases hu with rfl | rfl | rfl | rfl | rfl <;> rfl
def lessP (pw : Int) : Int := if 0 < pw then pw - 1 else pw
theorem rdoC {room pw : Int} {A Al A3 : Option Addr} {n c nl cl n3 c3 : Nat} {l : List FP} {wl : List RC} {k : Int} {p t bb : List UInt8} (hl : l.length = n) (hn : n ≤ 900000) (hw : wl.length = n3) (hn3 : n3 ≤ 900000) (hp1 : -10 ≤ pw) (hp2 : pw ≤ 1000000000000) : Con Tryd.prog 151 [.agg (dv room (.slice A n c) (.slice Al nl cl) (.slice A3 n3 c3) pw).toArray, .agg (cv k p t bb).toArray] [] [RRd 2 A n (fc l), RRd 4 A3 n3 (wcs wl)] (fun v_ X_ S_ => ∃ A1 n1 c1 A2 n2 c2, v_ = (.agg (dv room (.slice A1 n1 c1) (.slice Al nl cl) (.slice A2 n2 c2) (lessP pw)).toArray) ∧ X_ = [] ∧ S_ = [RRd 2 A1 n1 (fc (makeF l k p t bb)), RRd 4 A2 n2 (wcs (wl ++ [(k, p, t, bb)]))] ∧ (n1 = (makeF l k p t bb).length ∧ n1 ≤ n + 1 ∧ n2 = n3 + 1)) := by
  refine henter (N := 28) Tryd.func151 rfl rfl (by simp) fun b => ?_
  refine hfactC (fun m => rdX (m.rd 0 rfl)) ?_
  rintro ⟨hl_r, hA_r⟩
  refine hfactC (fun m => rdX (m.rd 1 rfl)) ?_
  rintro ⟨hl_w, hA_w⟩
  refine hseq <| hreg <| ?_
  refine hx (xh_box rfl (fun g2 => ?_))
  refine hmemL (fun w m => m.eqX 0 rfl (show _ = RBlk g2 62 (dv room (.slice A n c) (.slice Al nl cl) (.slice A3 n3 c3) pw) from congrArg (RBlk _ _) (cells_agg _))) ?_
  refine hx (xh_box rfl (fun g3 => ?_))
  refine hmemL (fun w m => m.eqX 0 rfl (show _ = RBlk g3 219 (cv k p t bb) from congrArg (RBlk _ _) (cells_agg _))) ?_
  refine hx (xh_alloc ti62 (fun g4 => ?_))
  refine hend <| hmemQ (X' := [_, _, _]) (S' := [_, _]) (fun _ m => m) <| hthen <| hseq <| hreg <| hy (fun _ => y_fld rfl fa62_1 (by decide)) <| hy (fun m => y_ld1 rfl ag59 (ld_blk (m.blk 2 rfl) (i := 1) rfl)) <| hy (fun m => yV (y_ldN rfl ag219 sz219 rfl ((m.blk 1 rfl).cells0)) ((rfl : _ = Value.agg (cv k p t bb).toArray))) <| ?_
  refine hx (xh_call rfl Tryd.call170 (rmakeC (by omega) (by omega)) [] rfl [0] rfl ?_)
  rintro _ _ _ ⟨A1, n1, c1, rfl, rfl, rfl, hp⟩
  refine hfactL (fun m => rdX (m.rd 0 rfl)) ?_
  rintro ⟨hl_q, hA_q⟩
  refine hy (fun _ => y_fld rfl fa62_1 (by decide)) <| ?_
  refine hx0 (xh_st1a 2 rfl rfl rfl sz59 rfl (by first | exact Nat.le_of_ble_eq_true rfl | simp) ?_)
  refine hend <| hsub (ρ' := [(4, _), (3, _), (2, _), (0, _), (1, _)]) ⟨rfl, rfl, rfl, rfl, rfl, trivial⟩ <| hmemQ (X' := [_, _, _]) (S' := [_, _, _]) (fun _ m => m) <| hthen <| hseq <| hreg <| hy (fun _ => y_assign rfl) <| hend <| hthen <| hseq <| hreg <| hy (fun _ => y_move rfl) <| hy (fun _ => y_fld rfl fa62_3 (by decide)) <| hy (fun m => y_ld1 rfl ag60 (ld_blk (m.blk 0 rfl) rfl)) <| ?_
  refine hmemL (fun w m => m.addX (r' := ROwn 219 4 (.slice none 0 0) 0 []) (.refl _ _) (Own.nil _ _ _ _) (fun k hk => hk.elim)) ?_
  refine hx (xh_app 0 rfl rfl rfl Tryd.underlying60 Tryd.underlying60 (by exact .inl rfl) ti219 rfl (fun m => Src.of_rd (m.rd 2 rfl)) wcs_one (by unfold maxLen; omega) (by omega) (fun u => ?_))
  refine hfactL (fun m => (m.own 0 rfl).slice) ?_
  rintro ⟨A_o, c_o, rfl, hc_o⟩
  refine hfactL (fun m => (m.ord 0 rfl).2.1) fun hA_o => ?_
  rw [Nat.zero_add]
  refine hmemL (fun w m => m.eqX 0 rfl (show _ = ROwn 219 4 (.slice A_o n3 c_o) n3 (wcs wl) from rfl)) ?_
  refine hy (fun _ => y_assign rfl) <| hend <| hsub (ρ' := [(5, _), (4, _), (3, _), (2, _), (0, _), (1, _)]) ⟨rfl, rfl, rfl, rfl, rfl, rfl, trivial⟩ <| hmemQ (X' := [_, _, _, _]) (S' := [_, _, _]) (fun _ m => m) <| hthen <| hseq <| hreg <| hy (fun _ => y_move rfl) <| hy (fun m => yV (y_ldN rfl ag219 sz219 rfl ((m.blk 3 rfl).cells0)) ((rfl : _ = Value.agg (cv k p t bb).toArray))) <| ?_
  refine hx (xh_bsl Tryd.underlying60 ti219 rfl rfl rfl (by simp [Value.cells, cv]) (by decide) (by decide) (fun g17 => ?_))
  have hA_b17 : 0 < 1 → (some (⟨g17, 0, none⟩ : Addr)) ≠ none := fun _ h => by cases h
  refine hmemL (fun w m => m.eqX 0 rfl (show _ = ROwn 219 4 (.slice (some ⟨g17, 0, none⟩) 1 1) 1 (wcs [(k, p, t, bb)]) from rfl)) ?_
  refine hx (xh_app 1 rfl rfl rfl Tryd.underlying60 Tryd.underlying60 (by exact .inl rfl) ti219 rfl (fun m => Src.of_rd (m.ord 0 rfl)) wcs_one (by unfold maxLen; omega) (by omega) (fun u2 => ?_))
  refine hfactL (fun m => (m.own 0 rfl).slice) ?_
  rintro ⟨A_o2, c_o2, rfl, hc_o⟩
  refine hfactL (fun m => (m.ord 0 rfl).2.1) fun hA_o => ?_
  refine hmemL (fun w m => m.eqX 0 rfl (show _ = ROwn 219 4 (.slice A_o2 (n3 + 1) c_o2) (n3 + 1) (wcs (wl ++ [(k, p, t, bb)])) from congrArg (ROwn _ _ _ _) (wcs_append ..).symm)) ?_
  refine hy (fun _ => y_fld rfl fa62_3 (by decide)) <| ?_
  refine hx0 (xh_st1a 2 rfl rfl rfl sz60 rfl (by first | exact Nat.le_of_ble_eq_true rfl | simp) ?_)
  refine hmemL (fun w m => m.eqX 0 rfl (show _ = RBlk g2 62 (dv room (.slice A1 n1 c1) (.slice Al nl cl) (.slice A_o2 (n3 + 1) c_o2) pw) from rfl)) ?_
  refine hend <| hsub (ρ' := [(5, _), (4, _), (3, _), (2, _), (0, _), (1, _)]) ⟨rfl, rfl, rfl, rfl, rfl, rfl, trivial⟩ <| hmemQ (X' := [_, _, _, _, _]) (S' := [_, _, _]) (fun _ m => m) <| hthen <| hseq <| hseq <| hreg <| hy (fun _ => y_fld rfl fa62_4 (by decide)) <| hy (fun m => y_ld1 rfl ag3 (ld_blk (m.blk 0 rfl) (i := 4) rfl)) <| hy (fun _ => y_gtr rfl rfl) <| hend <| hsub (ρ' := [(22, _), (5, _), (4, _), (3, _), (2, _), (0, _), (1, _)]) ⟨rfl, rfl, rfl, rfl, rfl, rfl, rfl, trivial⟩ <| hthen <| ?_
  refine hmemC (fun w m => (m.perm (takeR_perm [1] _ [_] _ rfl)).freeze) ?_
  refine hmemC (fun w m => m.asV 0 rfl .own) ?_
  refine hif rfl (fun h => ?_) (fun h => ?_)
  · refine hreg <| hy (fun _ => y_fld rfl fa62_4 (by decide)) <| hy (fun m => y_ld1 rfl ag3 (ld_blk (m.blk 0 rfl) (i := 4) rfl)) <| hy (fun _ => y_sub rfl rfl (w64 (by omega) (by omega))) <| hy (fun _ => y_fld rfl fa62_4 (by decide)) <| ?_
    refine hx0 (xh_st1a 0 rfl rfl rfl sz3 rfl (by first | exact Nat.le_of_ble_eq_true rfl | simp) ?_)
    refine hmemL (fun w m => m.eqX 0 rfl (show _ = RBlk g2 62 (dv room (.slice A1 n1 c1) (.slice Al nl cl) (.slice A_o2 (n3 + 1) c_o2) (lessP pw)) from by rw [lessP, if_pos h]; rfl)) ?_
    refine hend <| hsub (ρ' := [(22, _), (5, _), (4, _), (3, _), (2, _), (0, _), (1, _)]) ⟨rfl, rfl, rfl, rfl, rfl, rfl, rfl, trivial⟩ <| hmemQ (X' := [_, _, _, _]) (S' := [_, _, _, _, _]) (fun _ m => m) <| hthen <| hseq <| hreg <| hy (fun m => y_ldN rfl ag62 sz62 rfl ((m.blk 0 rfl).cells0)) <| ?_
    refine hx0 (xh_stA 2 rfl rfl rfl sz62 rfl dv_one rfl ?_)
    refine hend <| hsub (ρ' := [(22, _), (5, _), (4, _), (3, _), (2, _), (0, _), (1, _)]) ⟨rfl, rfl, rfl, rfl, rfl, rfl, rfl, trivial⟩ <| hmemQ (X' := [_, _, _, _]) (S' := [_, _, _, _, _]) (fun _ m => m) <| hthen <| hret <| ?_
    exact hretN trivial rfl rfl ag62 sz62 rfl (fun m => (m.blk 0 rfl).cells0) [] rfl [2, 0] rfl ⟨_, _, _, _, _, _, rfl, rfl, rfl, ⟨hp.1, hp.2, rfl⟩⟩
  · refine hmemC (fun w m => m.eqX 0 rfl (show _ = RBlk g2 62 (dv room (.slice A1 n1 c1) (.slice Al nl cl) (.slice A_o2 (n3 + 1) c_o2) (lessP pw)) from by rw [lessP, if_neg h])) ?_
    refine hcskip <| hthen <| hseq <| hreg <| hy (fun m => y_ldN rfl ag62 sz62 rfl ((m.blk 0 rfl).cells0)) <| ?_
    refine hx0 (xh_stA 2 rfl rfl rfl sz62 rfl dv_one rfl ?_)
    refine hend <| hsub (ρ' := [(22, _), (5, _), (4, _), (3, _), (2, _), (0, _), (1, _)]) ⟨rfl, rfl, rfl, rfl, rfl, rfl, rfl, trivial⟩ <| hmemQ (X' := [_, _, _, _]) (S' := [_, _, _, _, _]) (fun _ m => m) <| hthen <| hret <| ?_
    exact hretN trivial rfl rfl ag62 sz62 rfl (fun m => (m.blk 0 rfl).cells0) [] rfl [2, 0] rfl ⟨_, _, _, _, _, _, rfl, rfl, rfl, ⟨hp.1, hp.2, rfl⟩⟩
end Go.Proofs.YtfikjheicjamhaaDoor
end
section
/- Contracts: the document's disk (layer 12): Write, Read. -/
set_option linter.unusedVariables false
set_option linter.unusedSimpArgs false
set_option maxRecDepth 20000
namespace Go.Proofs.YtfikjheicjamhaaDoor
open Go.Eng Go.Hx
/-- a disk of the document -/
structure RD where
  room : Int
  seen : List FP
  lasts : List FP
  waits : List RC
  pw : Int
def RD.sz (d : RD) (p : List UInt8) : Nat := ((d.seen[findN d.seen p]?).map (·.2.length)).getD 0
def RD.writeE (d : RD) (p bb : List UInt8) : Int := if ¬ Named p then 1 else if d.pw = 0 then 6 else if d.room < (totF d.seen : Int) + (bb.length : Nat) - (d.sz p : Nat) then 5 else 0
def RD.did (d : RD) (k : Int) (p t bb : List UInt8) : RD := { d with seen := makeF d.seen k p t bb, waits := d.waits ++ [(k, p, t, bb)], pw := lessP d.pw }
def RD.write (d : RD) (p bb : List UInt8) : RD := if d.writeE p bb = 0 then d.did 0 p [] bb else d
structure ROk (d : RD) (k : Nat) : Prop where
  seen : d.seen.length ≤ k
  waits : d.waits.length ≤ k
  tot : totF d.seen ≤ k * 1048576
  p1 : -10 ≤ d.pw
  p2 : d.pw ≤ 1000000000000
theorem sz_le (d : RD) (p : List UInt8) : d.sz p ≤ totF d.seen := by
  unfold RD.sz
  cases h : d.seen[findN d.seen p]? with
  | none => simp
  | some x =>
    have h1 := totF_take h
    have h2 := totF_le d.seen (findN d.seen p + 1)
    simp only [Option.map_some, Option.getD_some]
    omega
def rv (d : RD) (A : Option Addr) (n c : Nat) (Al : Option Addr) (nl cl : Nat) (A3 : Option Addr) (n3 c3 : Nat) : List Value := dv d.room (.slice A n c) (.slice Al nl cl) (.slice A3 n3 c3) d.pw
theorem rnewC {room : Int} : Con Tryd.prog 76 [.int .i64 room] [] [] (fun v_ X_ S_ => v_ = (.agg (dv room (.slice none 0 0) (.slice none 0 0) (.slice none 0 0) (-1)).toArray) ∧ X_ = [] ∧ S_ = []) := by
  refine henter (N := 5) Tryd.func76 rfl rfl (by simp) fun b => ?_
  refine hseq <| hreg <| ?_
  refine hx (xh_alloc ti62 (fun g2 => ?_))
  refine hend <| hmemQ (X' := [_]) (S' := []) (fun _ m => m) <| hthen <| hseq <| hreg <| hy (fun _ => y_move rfl) <| hy (fun _ => yV (y_build ti62 rfl rfl (by kernel_rfl) (.cons (o := 0) (sz := 1) (by kernel_rfl) rfl rfl (Nat.le_of_ble_eq_true rfl) (.cons (o := 4) (sz := 1) (by kernel_rfl) rfl rfl (Nat.le_of_ble_eq_true rfl) .nil))) ((rfl : _ = Value.agg (dv room (.slice none 0 0) (.slice none 0 0) (.slice none 0 0) (-1)).toArray))) <| ?_
  refine hx0 (xh_stA 0 rfl rfl rfl sz62 rfl dv_one rfl ?_)
  refine hend <| hsub (ρ' := [(2, _), (0, _)]) ⟨rfl, rfl, trivial⟩ <| hmemQ (X' := [_]) (S' := []) (fun _ m => m) <| hthen <| hret <| ?_
  exact hretN trivial rfl rfl ag62 sz62 rfl (fun m => (m.blk 0 rfl).cells0) [] rfl [] rfl ⟨rfl, rfl, rfl⟩
theorem rwriteC {d : RD} {kk : Nat} {A Al A3 : Option Addr} {n c nl cl n3 c3 : Nat} {p bb : List UInt8} (hl : d.seen.length = n) (hw : d.waits.length = n3) (ok : ROk d kk) (hkk : kk ≤ 100000) (hpl : p.length ≤ 1000000) (hbb : bb.length ≤ 1000000) : Con Tryd.prog 120 [.agg (rv d A n c Al nl cl A3 n3 c3).toArray, .string (strOf p), .string (strOf bb)] [] [RRd 2 A n (fc d.seen), RRd 4 A3 n3 (wcs d.waits)] (fun v_ X_ S_ => ∃ A1 n1 c1 A2 n2 c2, v_ = (.tuple #[.agg (rv (d.write p bb) A1 n1 c1 Al nl cl A2 n2 c2).toArray, .int .i64 (d.writeE p bb)]) ∧ X_ = [] ∧ S_ = [RRd 2 A1 n1 (fc (d.write p bb).seen), RRd 4 A2 n2 (wcs (d.write p bb).waits)] ∧ ((d.write p bb).seen.length = n1 ∧ (d.write p bb).waits.length = n2)) := by
  have hk1 := ok.seen
  have hk2 := ok.waits
  have hk3 := ok.tot
  have hk4 := ok.p1
  have hk5 := ok.p2
  have hsz := sz_le d p
  refine henter (N := 50) Tryd.func120 rfl rfl (by simp) fun b => ?_
  refine hfactC (fun m => rdX (m.rd 0 rfl)) ?_
  rintro ⟨hl_r, hA_r⟩
  refine hfactC (fun m => rdX (m.rd 1 rfl)) ?_
  rintro ⟨hl_w, hA_w⟩
  refine hseq <| hreg <| ?_
  refine hx (xh_box rfl (fun g3 => ?_))
  refine hmemL (fun w m => m.eqX 0 rfl (show _ = RBlk g3 62 (rv d A n c Al nl cl A3 n3 c3) from congrArg (RBlk _ _) (cells_agg _))) ?_
  refine hx (xh_alloc ti62 (fun g6 => ?_))
  refine hy (fun _ => y_assign rfl) <| hend <| hmemQ (X' := [_, _]) (S' := [_, _]) (fun _ m => m) <| hthen <| hseq <| hreg <| hy (fun _ => y_move rfl) <| ?_
  refine hx (xh_call rfl Tryd.call148 (rnamedC (by omega)) [] rfl [] rfl ?_)
  rintro _ _ _ ⟨rfl, rfl, rfl⟩
  refine hy (fun _ => y_assign rfl) <| hend <| hsub (ρ' := [(8, _), (7, _), (6, _), (3, _), (0, _), (1, _), (2, _)]) ⟨rfl, rfl, rfl, rfl, rfl, rfl, rfl, trivial⟩ <| hmemQ (X' := [_, _]) (S' := [_, _]) (fun _ m => m) <| hthen <| hseq <| hseq <| hreg <| hy (fun _ => y_move rfl) <| hy (fun _ => y_notp rfl) <| hend <| hsub (ρ' := [(14, _), (8, _), (7, _), (6, _), (3, _), (0, _), (1, _), (2, _)]) ⟨rfl, rfl, rfl, rfl, rfl, rfl, rfl, rfl, trivial⟩ <| hthen <| ?_
  refine hif rfl (fun hN => ?_) (fun hN => ?_)
  · have hE : d.writeE p bb = 1 := by rw [RD.writeE, if_pos hN]
    have hW : d.write p bb = d := by rw [RD.write, if_neg (by rw [hE]; decide)]
    rw [hE, hW]
    refine hseq <| hreg <| hy (fun m => yV (y_ldN rfl ag62 sz62 rfl ((m.blk 1 rfl).cells0)) ((rfl : _ = Value.agg (rv d A n c Al nl cl A3 n3 c3).toArray))) <| ?_
    refine hx0 (xh_stA 0 rfl rfl rfl sz62 rfl dv_one rfl ?_)
    refine hy (fun _ => y_assign rfl) <| hend <| hsub (ρ' := [(7, _), (14, _), (8, _), (6, _), (3, _), (0, _), (1, _), (2, _)]) ⟨rfl, rfl, rfl, rfl, rfl, rfl, rfl, rfl, trivial⟩ <| hmemQ (X' := [_, _]) (S' := [_, _]) (fun _ m => m) <| hthen <| hret <| hthen_ret <| ?_
    exact hretN1 trivial rfl rfl rfl ag62 sz62 rfl (fun m => (m.blk 0 rfl).cells0) [] rfl [0, 1] rfl ⟨_, _, _, _, _, _, rfl, rfl, rfl, ⟨hl, hw⟩⟩
  · refine hcskip <| hthen <| hseq <| hseq <| hreg <| hy (fun _ => y_fld rfl fa62_4 (by decide)) <| hy (fun m => y_ld1 rfl ag3 (ld_blk (m.blk 1 rfl) (i := 4) rfl)) <| hy (fun _ => y_eql rfl rfl) <| hend <| hsub (ρ' := [(18, _), (14, _), (8, _), (7, _), (6, _), (3, _), (0, _), (1, _), (2, _)]) ⟨rfl, rfl, rfl, rfl, rfl, rfl, rfl, rfl, rfl, trivial⟩ <| hthen <| ?_
    refine hif rfl (fun h0 => ?_) (fun h0 => ?_)
    · have hE : d.writeE p bb = 6 := by rw [RD.writeE, if_neg hN, if_pos h0]
      have hW : d.write p bb = d := by rw [RD.write, if_neg (by rw [hE]; decide)]
      rw [hE, hW]
      refine hseq <| hreg <| hy (fun m => yV (y_ldN rfl ag62 sz62 rfl ((m.blk 1 rfl).cells0)) ((rfl : _ = Value.agg (rv d A n c Al nl cl A3 n3 c3).toArray))) <| ?_
      refine hx0 (xh_stA 0 rfl rfl rfl sz62 rfl dv_one rfl ?_)
      refine hy (fun _ => y_assign rfl) <| hend <| hsub (ρ' := [(7, _), (18, _), (14, _), (8, _), (6, _), (3, _), (0, _), (1, _), (2, _)]) ⟨rfl, rfl, rfl, rfl, rfl, rfl, rfl, rfl, rfl, trivial⟩ <| hmemQ (X' := [_, _]) (S' := [_, _]) (fun _ m => m) <| hthen <| hret <| hthen_ret <| ?_
      exact hretN1 trivial rfl rfl rfl ag62 sz62 rfl (fun m => (m.blk 0 rfl).cells0) [] rfl [0, 1] rfl ⟨_, _, _, _, _, _, rfl, rfl, rfl, ⟨hl, hw⟩⟩
    · have hsb := strOf_size bb
      refine hcskip <| hthen <| hseq <| hreg <| hy (fun m => yV (y_ldN rfl ag62 sz62 rfl ((m.blk 1 rfl).cells0)) ((rfl : _ = Value.agg (rv d A n c Al nl cl A3 n3 c3).toArray))) <| ?_
      refine hx (xh_call rfl Tryd.call149 (rusedC (by omega) (by omega) (by omega)) [] rfl [0] rfl ?_)
      rintro _ _ _ ⟨rfl, rfl, rfl⟩
      refine hy (fun _ => y_move rfl) <| hy (fun _ => y_lenStr rfl Tryd.underlying9) <| hy (fun _ => y_add rfl rfl (w64 (by omega) (by omega))) <| hy (fun _ => y_assign rfl) <| hend <| hsub (ρ' := [(9, _), (18, _), (14, _), (8, _), (7, _), (6, _), (3, _), (0, _), (1, _), (2, _)]) ⟨rfl, rfl, rfl, rfl, rfl, rfl, rfl, rfl, rfl, rfl, trivial⟩ <| hmemQ (X' := [_, _]) (S' := [_, _]) (fun _ m => m) <| hthen <| hseq <| hreg <| hy (fun _ => y_fld rfl fa62_1 (by decide)) <| hy (fun m => y_ld1 rfl ag59 (ld_blk (m.blk 1 rfl) (i := 1) rfl)) <| hy (fun _ => y_move rfl) <| ?_
      refine hx (xh_call rfl Tryd.call150 (rfindC (by omega) (by omega)) [] rfl [0] rfl ?_)
      rintro _ _ _ ⟨rfl, rfl, rfl⟩
      refine hy (fun _ => y_assign rfl) <| hend <| hsub (ρ' := [(10, _), (9, _), (18, _), (14, _), (8, _), (7, _), (6, _), (3, _), (0, _), (1, _), (2, _)]) ⟨rfl, rfl, rfl, rfl, rfl, rfl, rfl, rfl, rfl, rfl, rfl, trivial⟩ <| hmemQ (X' := [_, _]) (S' := [_, _]) (fun _ m => m) <| hthen <| hseq <| hseq <| hreg <| hy (fun _ => y_move rfl) <| hy (fun _ => y_geq rfl rfl) <| hend <| hsub (ρ' := [(30, _), (10, _), (9, _), (18, _), (14, _), (8, _), (7, _), (6, _), (3, _), (0, _), (1, _), (2, _)]) ⟨rfl, rfl, rfl, rfl, rfl, rfl, rfl, rfl, rfl, rfl, rfl, rfl, trivial⟩ <| hthen <| ?_
      refine hif rfl (fun hf => ?_) (fun hf => ?_)
      · obtain ⟨x0, hfx⟩ : ∃ x0, d.seen[findN d.seen p]? = some x0 := by
          cases hq : d.seen[findN d.seen p]? with
          | none => exact absurd (findI_neg.2 hq) (by omega)
          | some x0 => exact ⟨x0, rfl⟩
        have hfl : findN d.seen p < d.seen.length := (List.getElem?_eq_some_iff.1 hfx).1
        obtain ⟨f0, f1⟩ := fc_get d.seen _ x0 hfx
        have hfi : findI d.seen p = (findN d.seen p : Nat) := by rw [findI, if_pos hfl]
        have hsx := strOf_size x0.2
        have hs0 : d.sz p = x0.2.length := by unfold RD.sz; rw [hfx]; rfl
        refine hreg <| hy (fun _ => y_move rfl) <| hy (fun _ => y_fld rfl fa62_1 (by decide)) <| hy (fun m => y_ld1 rfl ag59 (ld_blk (m.blk 1 rfl) (i := 1) rfl)) <| hy (fun _ => y_move rfl) <| hy (fun _ => y_idxS rfl rfl Tryd.underlying59 sz216 hA_r hfi.symm (by omega)) <| hy (fun _ => y_fld rfl fa216_1 (by decide)) <| hy (fun m => yV (y_ld1 rfl ag9 (rd_fld (m.rd 0 rfl) f1)) ((rfl : _ = Value.string (strOf x0.2)))) <| hy (fun _ => y_lenStr rfl Tryd.underlying9) <| hy (fun _ => y_sub rfl rfl (w64 (by omega) (by omega))) <| hy (fun _ => y_assign rfl) <| hend <| hsub (ρ' := [(9, _), (30, _), (10, _), (18, _), (14, _), (8, _), (7, _), (6, _), (3, _), (0, _), (1, _), (2, _)]) ⟨rfl, rfl, rfl, rfl, rfl, rfl, rfl, rfl, rfl, rfl, rfl, rfl, trivial⟩ <| hthen <| hseq <| hseq <| hreg <| hy (fun _ => y_move rfl) <| hy (fun _ => y_fld rfl fa62_0 (by decide)) <| hy (fun m => y_ld1 rfl ag3 (ld_blk (m.blk 1 rfl) (i := 0) rfl)) <| hy (fun _ => y_gtr rfl rfl) <| hend <| hsub (ρ' := [(43, _), (9, _), (30, _), (10, _), (18, _), (14, _), (8, _), (7, _), (6, _), (3, _), (0, _), (1, _), (2, _)]) ⟨rfl, rfl, rfl, rfl, rfl, rfl, rfl, rfl, rfl, rfl, rfl, rfl, rfl, trivial⟩ <| hthen <| ?_
        refine hif rfl (fun hR => ?_) (fun hR => ?_)
        · have hE : d.writeE p bb = 5 := by rw [RD.writeE, if_neg hN, if_neg h0, if_pos (by omega)]
          have hW : d.write p bb = d := by rw [RD.write, if_neg (by rw [hE]; decide)]
          rw [hE, hW]
          refine hseq <| hreg <| hy (fun m => yV (y_ldN rfl ag62 sz62 rfl ((m.blk 1 rfl).cells0)) ((rfl : _ = Value.agg (rv d A n c Al nl cl A3 n3 c3).toArray))) <| ?_
          refine hx0 (xh_stA 0 rfl rfl rfl sz62 rfl dv_one rfl ?_)
          refine hy (fun _ => y_assign rfl) <| hend <| hsub (ρ' := [(7, _), (43, _), (9, _), (30, _), (10, _), (18, _), (14, _), (8, _), (6, _), (3, _), (0, _), (1, _), (2, _)]) ⟨rfl, rfl, rfl, rfl, rfl, rfl, rfl, rfl, rfl, rfl, rfl, rfl, rfl, trivial⟩ <| hmemQ (X' := [_, _]) (S' := [_, _]) (fun _ m => m) <| hthen <| hret <| hthen_ret <| ?_
          exact hretN1 trivial rfl rfl rfl ag62 sz62 rfl (fun m => (m.blk 0 rfl).cells0) [] rfl [0, 1] rfl ⟨_, _, _, _, _, _, rfl, rfl, rfl, ⟨hl, hw⟩⟩
        · have hE : d.writeE p bb = 0 := by rw [RD.writeE, if_neg hN, if_neg h0, if_neg (by omega)]
          have hW : d.write p bb = d.did 0 p [] bb := by rw [RD.write, if_pos hE]
          rw [hE, hW]
          refine hcskip <| hthen <| hseq <| hreg <| hy (fun m => yV (y_ldN rfl ag62 sz62 rfl ((m.blk 1 rfl).cells0)) ((rfl : _ = Value.agg (dv d.room (.slice A n c) (.slice Al nl cl) (.slice A3 n3 c3) d.pw).toArray))) <| hy (fun _ => y_move rfl) <| hy (fun _ => y_move rfl) <| hy (fun _ => yV (y_build ti219 rfl rfl (by kernel_rfl) (.cons (o := 1) (sz := 1) (by kernel_rfl) rfl rfl (Nat.le_of_ble_eq_true rfl) (.cons (o := 3) (sz := 1) (by kernel_rfl) rfl rfl (Nat.le_of_ble_eq_true rfl) .nil))) ((rfl : _ = Value.agg (cv 0 p [] bb).toArray))) <| ?_
          refine hx (xh_call rfl Tryd.call151 (rdoC (by omega) (by omega) (by omega) (by omega) (by omega) (by omega)) [] rfl [0, 1] rfl ?_)
          rintro _ _ _ ⟨A1, n1, c1, A2, n2, c2, rfl, rfl, rfl, hp⟩
          refine hfactL (fun m => rdX (m.rd 0 rfl)) ?_
          rintro ⟨hl_q, hA_q⟩
          refine hfactL (fun m => rdX (m.rd 1 rfl)) ?_
          rintro ⟨hl_u, hA_u⟩
          refine hx0 (xh_stA 0 rfl rfl rfl sz62 rfl dv_one rfl ?_)
          refine hy (fun _ => y_assign rfl) <| hend <| hsub (ρ' := [(7, _), (43, _), (9, _), (30, _), (10, _), (18, _), (14, _), (8, _), (6, _), (3, _), (0, _), (1, _), (2, _)]) ⟨rfl, rfl, rfl, rfl, rfl, rfl, rfl, rfl, rfl, rfl, rfl, rfl, rfl, trivial⟩ <| hmemQ (X' := [_, _]) (S' := [_, _, _, _]) (fun _ m => m) <| hthen <| hret <| ?_
          exact hretN1 trivial rfl rfl rfl ag62 sz62 rfl (fun m => (m.blk 0 rfl).cells0) [] rfl [0, 1] rfl ⟨_, _, _, _, _, _, rfl, rfl, rfl, ⟨hp.1.symm, by rw [hp.2.2, ← hw]; exact List.length_append⟩⟩
      · have hs0 : d.sz p = 0 := by
          unfold RD.sz
          rw [findI_neg.1 (by omega)]; rfl
        refine hcskip <| hthen <| hseq <| hseq <| hreg <| hy (fun _ => y_move rfl) <| hy (fun _ => y_fld rfl fa62_0 (by decide)) <| hy (fun m => y_ld1 rfl ag3 (ld_blk (m.blk 1 rfl) (i := 0) rfl)) <| hy (fun _ => y_gtr rfl rfl) <| hend <| hsub (ρ' := [(43, _), (30, _), (10, _), (9, _), (18, _), (14, _), (8, _), (7, _), (6, _), (3, _), (0, _), (1, _), (2, _)]) ⟨rfl, rfl, rfl, rfl, rfl, rfl, rfl, rfl, rfl, rfl, rfl, rfl, rfl, trivial⟩ <| hthen <| ?_
        refine hif rfl (fun hR => ?_) (fun hR => ?_)
        · have hE : d.writeE p bb = 5 := by rw [RD.writeE, if_neg hN, if_neg h0, if_pos (by omega)]
          have hW : d.write p bb = d := by rw [RD.write, if_neg (by rw [hE]; decide)]
          rw [hE, hW]
          refine hseq <| hreg <| hy (fun m => yV (y_ldN rfl ag62 sz62 rfl ((m.blk 1 rfl).cells0)) ((rfl : _ = Value.agg (rv d A n c Al nl cl A3 n3 c3).toArray))) <| ?_
          refine hx0 (xh_stA 0 rfl rfl rfl sz62 rfl dv_one rfl ?_)
          refine hy (fun _ => y_assign rfl) <| hend <| hsub (ρ' := [(7, _), (43, _), (30, _), (10, _), (9, _), (18, _), (14, _), (8, _), (6, _), (3, _), (0, _), (1, _), (2, _)]) ⟨rfl, rfl, rfl, rfl, rfl, rfl, rfl, rfl, rfl, rfl, rfl, rfl, rfl, trivial⟩ <| hmemQ (X' := [_, _]) (S' := [_, _]) (fun _ m => m) <| hthen <| hret <| hthen_ret <| ?_
          exact hretN1 trivial rfl rfl rfl ag62 sz62 rfl (fun m => (m.blk 0 rfl).cells0) [] rfl [0, 1] rfl ⟨_, _, _, _, _, _, rfl, rfl, rfl, ⟨hl, hw⟩⟩
        · have hE : d.writeE p bb = 0 := by rw [RD.writeE, if_neg hN, if_neg h0, if_neg (by omega)]
          have hW : d.write p bb = d.did 0 p [] bb := by rw [RD.write, if_pos hE]
          rw [hE, hW]
          refine hcskip <| hthen <| hseq <| hreg <| hy (fun m => yV (y_ldN rfl ag62 sz62 rfl ((m.blk 1 rfl).cells0)) ((rfl : _ = Value.agg (dv d.room (.slice A n c) (.slice Al nl cl) (.slice A3 n3 c3) d.pw).toArray))) <| hy (fun _ => y_move rfl) <| hy (fun _ => y_move rfl) <| hy (fun _ => yV (y_build ti219 rfl rfl (by kernel_rfl) (.cons (o := 1) (sz := 1) (by kernel_rfl) rfl rfl (Nat.le_of_ble_eq_true rfl) (.cons (o := 3) (sz := 1) (by kernel_rfl) rfl rfl (Nat.le_of_ble_eq_true rfl) .nil))) ((rfl : _ = Value.agg (cv 0 p [] bb).toArray))) <| ?_
          refine hx (xh_call rfl Tryd.call151 (rdoC (by omega) (by omega) (by omega) (by omega) (by omega) (by omega)) [] rfl [0, 1] rfl ?_)
          rintro _ _ _ ⟨A1, n1, c1, A2, n2, c2, rfl, rfl, rfl, hp⟩
          refine hfactL (fun m => rdX (m.rd 0 rfl)) ?_
          rintro ⟨hl_q, hA_q⟩
          refine hfactL (fun m => rdX (m.rd 1 rfl)) ?_
          rintro ⟨hl_u, hA_u⟩
          refine hx0 (xh_stA 0 rfl rfl rfl sz62 rfl dv_one rfl ?_)
          refine hy (fun _ => y_assign rfl) <| hend <| hsub (ρ' := [(7, _), (43, _), (30, _), (10, _), (9, _), (18, _), (14, _), (8, _), (6, _), (3, _), (0, _), (1, _), (2, _)]) ⟨rfl, rfl, rfl, rfl, rfl, rfl, rfl, rfl, rfl, rfl, rfl, rfl, rfl, trivial⟩ <| hmemQ (X' := [_, _]) (S' := [_, _, _, _]) (fun _ m => m) <| hthen <| hret <| ?_
          exact hretN1 trivial rfl rfl rfl ag62 sz62 rfl (fun m => (m.blk 0 rfl).cells0) [] rfl [0, 1] rfl ⟨_, _, _, _, _, _, rfl, rfl, rfl, ⟨hp.1.symm, by rw [hp.2.2, ← hw]; exact List.length_append⟩⟩
def RD.readE (d : RD) (p : List UInt8) : Int := if d.pw = 0 then 6 else if d.seen[findN d.seen p]? = none then 4 else 0
def RD.readB (d : RD) (p : List UInt8) : List UInt8 := if d.pw = 0 then [] else ((d.seen[findN d.seen p]?).map (·.2)).getD []
theorem rreadC {d : RD} {kk : Nat} {A Al A3 : Option Addr} {n c nl cl n3 c3 : Nat} {p : List UInt8} (hl : d.seen.length = n) (ok : ROk d kk) (hkk : kk ≤ 100000) : Con Tryd.prog 152 [.agg (rv d A n c Al nl cl A3 n3 c3).toArray, .string (strOf p)] [] [RRd 2 A n (fc d.seen)] (fun v_ X_ S_ => v_ = (.tuple #[.string (strOf (d.readB p)), .int .i64 (d.readE p)]) ∧ X_ = [] ∧ S_ = []) := by
  have hk1 := ok.seen
  refine henter (N := 22) Tryd.func152 rfl rfl (by simp) fun b => ?_
  refine hfactC (fun m => rdX (m.rd 0 rfl)) ?_
  rintro ⟨hl_r, hA_r⟩
  refine hseq <| hreg <| ?_
  refine hx (xh_box rfl (fun g2 => ?_))
  refine hmemL (fun w m => m.eqX 0 rfl (show _ = RBlk g2 62 (rv d A n c Al nl cl A3 n3 c3) from congrArg (RBlk _ _) (cells_agg _))) ?_
  refine hy (fun _ => y_assign rfl) <| hy (fun _ => y_assign rfl) <| hend <| hmemQ (X' := [_]) (S' := [_]) (fun _ m => m) <| hthen <| hseq <| hreg <| hy (fun _ => y_fld rfl fa62_1 (by decide)) <| hy (fun m => y_ld1 rfl ag59 (ld_blk (m.blk 0 rfl) (i := 1) rfl)) <| hy (fun _ => y_move rfl) <| ?_
  refine hx (xh_call rfl Tryd.call150 (rfindC (by omega) (by omega)) [] rfl [0] rfl ?_)
  rintro _ _ _ ⟨rfl, rfl, rfl⟩
  refine hy (fun _ => y_assign rfl) <| hend <| hsub (ρ' := [(6, _), (5, _), (4, _), (2, _), (0, _), (1, _)]) ⟨rfl, rfl, rfl, rfl, rfl, rfl, trivial⟩ <| hmemQ (X' := [_]) (S' := [_]) (fun _ m => m) <| hthen <| hseq <| hseq <| hreg <| hy (fun _ => y_fld rfl fa62_4 (by decide)) <| hy (fun m => y_ld1 rfl ag3 (ld_blk (m.blk 0 rfl) (i := 4) rfl)) <| hy (fun _ => y_eql rfl rfl) <| hend <| hsub (ρ' := [(13, _), (6, _), (5, _), (4, _), (2, _), (0, _), (1, _)]) ⟨rfl, rfl, rfl, rfl, rfl, rfl, rfl, trivial⟩ <| hthen <| ?_
  refine hif rfl (fun h0 => ?_) (fun h0 => ?_)
  · have hE : d.readE p = 6 := by rw [RD.readE, if_pos h0]
    have hB : d.readB p = [] := by rw [RD.readB, if_pos h0]
    rw [hE, hB]
    refine hseq <| hreg <| hy (fun _ => y_assign rfl) <| hy (fun _ => y_assign rfl) <| hend <| hthen <| hret <| hthen_ret <| ?_
    exact hret2 trivial rfl rfl rfl [] rfl [] rfl ⟨rfl, rfl, rfl⟩
  · refine hcskip <| hthen <| hseq <| hseq <| hreg <| hy (fun _ => y_move rfl) <| hy (fun _ => y_lss rfl rfl) <| hend <| hsub (ρ' := [(15, _), (13, _), (6, _), (5, _), (4, _), (2, _), (0, _), (1, _)]) ⟨rfl, rfl, rfl, rfl, rfl, rfl, rfl, rfl, trivial⟩ <| hthen <| ?_
    refine hif rfl (fun h1 => ?_) (fun h1 => ?_)
    · have hq := findI_neg.1 h1
      have hE : d.readE p = 4 := by rw [RD.readE, if_neg h0, if_pos hq]
      have hB : d.readB p = [] := by rw [RD.readB, if_neg h0, hq]; rfl
      rw [hE, hB]
      refine hseq <| hreg <| hy (fun _ => y_assign rfl) <| hy (fun _ => y_assign rfl) <| hend <| hthen <| hret <| hthen_ret <| ?_
      exact hret2 trivial rfl rfl rfl [] rfl [] rfl ⟨rfl, rfl, rfl⟩
    · obtain ⟨x0, hfx⟩ : ∃ x0, d.seen[findN d.seen p]? = some x0 := by
        cases hq : d.seen[findN d.seen p]? with
        | none => exact absurd (findI_neg.2 hq) h1
        | some x0 => exact ⟨x0, rfl⟩
      have hfl : findN d.seen p < d.seen.length := (List.getElem?_eq_some_iff.1 hfx).1
      obtain ⟨f0, f1⟩ := fc_get d.seen _ x0 hfx
      have hfi : findI d.seen p = (findN d.seen p : Nat) := by rw [findI, if_pos hfl]
      have hE : d.readE p = 0 := by rw [RD.readE, if_neg h0, if_neg (by rw [hfx]; exact fun e => by cases e)]
      have hB : d.readB p = x0.2 := by rw [RD.readB, if_neg h0, hfx]; rfl
      rw [hE, hB]
      refine hcskip <| hthen <| hseq <| hreg <| hy (fun _ => y_fld rfl fa62_1 (by decide)) <| hy (fun m => y_ld1 rfl ag59 (ld_blk (m.blk 0 rfl) (i := 1) rfl)) <| hy (fun _ => y_move rfl) <| hy (fun _ => y_idxS rfl rfl Tryd.underlying59 sz216 hA_r hfi.symm (by omega)) <| hy (fun _ => y_fld rfl fa216_1 (by decide)) <| hy (fun m => yV (y_ld1 rfl ag9 (rd_fld (m.rd 0 rfl) f1)) ((rfl : _ = Value.string (strOf x0.2)))) <| hy (fun _ => y_assign rfl) <| hy (fun _ => y_assign rfl) <| hend <| hsub (ρ' := [(5, _), (4, _), (15, _), (13, _), (6, _), (2, _), (0, _), (1, _)]) ⟨rfl, rfl, rfl, rfl, rfl, rfl, rfl, rfl, trivial⟩ <| hthen <| hret <| ?_
      exact hret2 trivial rfl rfl rfl [] rfl [] rfl ⟨rfl, rfl, rfl⟩
end Go.Proofs.YtfikjheicjamhaaDoor
end
section
/- Contracts: the document's disk (layer 12), as one thing: Read, Write, Rename, Remove, Sync, Power, Restart. -/
set_option linter.unusedVariables false
set_option linter.unusedSimpArgs false
set_option maxRecDepth 20000
namespace Go.Proofs.YtfikjheicjamhaaDoor
open Go.Eng Go.Hx
/-- a disk of the document, and where its lists lie -/
structure RX where
  d : RD
  A : Option Addr
  c : Nat
  Al : Option Addr
  cl : Nat
  A3 : Option Addr
  c3 : Nat
def RX.cs (x : RX) : List Value := rv x.d x.A x.d.seen.length x.c x.Al x.d.lasts.length x.cl x.A3 x.d.waits.length x.c3
abbrev RX.parts (x : RX) : List Res := [RRd 2 x.A x.d.seen.length (fc x.d.seen), RRd 2 x.Al x.d.lasts.length (fc x.d.lasts), RRd 4 x.A3 x.d.waits.length (wcs x.d.waits)]
def RRef (x : RX) : Res := RAll x.parts
theorem cs_one {x : RX} : ∀ u ∈ x.cs, u.oneCell' = true := dv_one
theorem View.ref0 {x : RX} : View (RRef x) (RRd 2 x.A x.d.seen.length (fc x.d.seen)) := View.alls 0 rfl
theorem View.ref1 {x : RX} : View (RRef x) (RRd 2 x.Al x.d.lasts.length (fc x.d.lasts)) := View.alls 1 rfl
theorem View.ref2 {x : RX} : View (RRef x) (RRd 4 x.A3 x.d.waits.length (wcs x.d.waits)) := View.alls 2 rfl
def RD.new (room : Int) : RD := ⟨room, [], [], [], -1⟩
def RX.new (room : Int) : RX := ⟨RD.new room, none, 0, none, 0, none, 0⟩
theorem der_ref {y : RX} {S : List Res} (h0 : ∃ t ∈ S, View t (RRd 2 y.A y.d.seen.length (fc y.d.seen))) (h1 : ∃ t ∈ S, View t (RRd 2 y.Al y.d.lasts.length (fc y.d.lasts))) (h2 : ∃ t ∈ S, View t (RRd 4 y.A3 y.d.waits.length (wcs y.d.waits))) : Der S [RRef y] := by
  refine Der.cons (fun s hs => ?_) Der.nil
  simp only [List.mem_cons, List.not_mem_nil, or_false] at hs
  rcases hs with rfl | rfl | rfl
  · exact h0
  · exact h1
  · exact h2
theorem ref_new {room : Int} : Der [] [RRef (RX.new room)] := by
  intro s hs
  obtain rfl := List.mem_singleton.1 hs
  refine ⟨fun w _ x hx => ?_, fun k hk => ?_⟩
  · simp only [List.mem_cons, List.not_mem_nil, or_false] at hx
    rcases hx with rfl | rfl | rfl <;> exact Rd.nil _ _ _
  · obtain ⟨x, hx, hk⟩ := hk
    simp only [List.mem_cons, List.not_mem_nil, or_false] at hx
    rcases hx with rfl | rfl | rfl <;> exact absurd rfl hk.1
theorem in1 {r : Res} {S : List Res} : ∃ t ∈ r :: S, View t r := ⟨r, List.mem_cons_self .., .same⟩
theorem inr {r a : Res} {S : List Res} (h : ∃ t ∈ S, View t r) : ∃ t ∈ a :: S, View t r := by
  obtain ⟨t, ht, hv⟩ := h
  exact ⟨t, List.mem_cons_of_mem _ ht, hv⟩
theorem inv1 {r a : Res} {S : List Res} (h : View a r) : ∃ t ∈ a :: S, View t r := ⟨a, List.mem_cons_self .., h⟩
theorem rnewX {room : Int} : Con Tryd.prog 76 [.int .i64 room] [] [] (fun v_ X_ S_ => ∃ y, v_ = (.agg y.cs.toArray) ∧ X_ = [] ∧ S_ = [RRef y] ∧ (y.d = RD.new room)) := by
  exact Con.viaS rnewC (fun s hs => by cases hs) (fun v X S h => by
    obtain ⟨rfl, rfl, rfl⟩ := h
    exact ⟨_, ⟨RX.new room, rfl, rfl, rfl, rfl⟩, ref_new⟩)
theorem rreadX {x : RX} {kk : Nat} {p : List UInt8} (ok : ROk x.d kk) (hkk : kk ≤ 100000) : Con Tryd.prog 152 [.agg x.cs.toArray, .string (strOf p)] [] [RRef x] (fun v_ X_ S_ => v_ = (.tuple #[.string (strOf (x.d.readB p)), .int .i64 (x.d.readE p)]) ∧ X_ = [] ∧ S_ = []) := by
  exact Con.viaS (rreadC rfl ok hkk) (fun s hs => ⟨_, List.mem_singleton_self _, by rw [List.mem_singleton.1 hs]; exact View.ref0⟩) (fun v X S h => ⟨[], ⟨h.1, h.2.1, rfl⟩, Der.nil⟩)
theorem rusedX {x : RX} {kk : Nat} (ok : ROk x.d kk) (hkk : kk ≤ 100000) : Con Tryd.prog 149 [.agg x.cs.toArray] [] [RRef x] (fun v_ X_ S_ => v_ = (.int .i64 (totF x.d.seen : Nat)) ∧ X_ = [] ∧ S_ = []) := by
  exact Con.viaS (rusedC rfl (by have := ok.seen; omega) (by have := ok.tot; omega)) (fun s hs => ⟨_, List.mem_singleton_self _, by rw [List.mem_singleton.1 hs]; exact View.ref0⟩) (fun v X S h => ⟨[], ⟨h.1, h.2.1, rfl⟩, Der.nil⟩)
theorem write_lasts (d : RD) (p bb : List UInt8) : (d.write p bb).lasts = d.lasts := by
  unfold RD.write
  split <;> rfl
theorem views02 {x : RX} : ∀ s ∈ [RRd 2 x.A x.d.seen.length (fc x.d.seen), RRd 4 x.A3 x.d.waits.length (wcs x.d.waits)], ∃ t ∈ [RRef x], View t s := by
  intro s hs
  refine ⟨_, List.mem_singleton_self _, ?_⟩
  simp only [List.mem_cons, List.not_mem_nil, or_false] at hs
  rcases hs with rfl | rfl
  · exact View.ref0
  · exact View.ref2
theorem rwriteX {x : RX} {kk : Nat} {p bb : List UInt8} (ok : ROk x.d kk) (hkk : kk ≤ 100000) (hpl : p.length ≤ 1000000) (hbb : bb.length ≤ 1000000) : Con Tryd.prog 120 [.agg x.cs.toArray, .string (strOf p), .string (strOf bb)] [] [RRef x] (fun v_ X_ S_ => ∃ y, v_ = (.tuple #[.agg y.cs.toArray, .int .i64 (x.d.writeE p bb)]) ∧ X_ = [] ∧ S_ = [RRef y] ∧ (y.d = x.d.write p bb)) := by
  refine Con.viaS (rwriteC rfl rfl ok hkk hpl hbb) views02 (fun v X S h => ?_)
  obtain ⟨A1, n1, c1, A2, n2, c2, rfl, rfl, rfl, rfl, rfl⟩ := h
  refine ⟨_, ⟨⟨x.d.write p bb, A1, c1, x.Al, x.cl, A2, c2⟩, by unfold RX.cs; simp only [write_lasts], rfl, rfl, rfl⟩, der_ref in1 (inr (inr (inv1 ?_))) (inr in1)⟩
  simp only [write_lasts]
  exact View.ref1
theorem rdoX {x : RX} {kk : Nat} {k : Int} {p t bb : List UInt8} (ok : ROk x.d kk) (hkk : kk ≤ 100000) : Con Tryd.prog 151 [.agg x.cs.toArray, .agg (cv k p t bb).toArray] [] [RRef x] (fun v_ X_ S_ => ∃ y, v_ = (.agg y.cs.toArray) ∧ X_ = [] ∧ S_ = [RRef y] ∧ (y.d = x.d.did k p t bb)) := by
  have h1 := ok.seen
  have h2 := ok.waits
  refine Con.viaS (rdoC rfl (by omega) rfl (by omega) ok.p1 ok.p2) views02 (fun v X S h => ?_)
  obtain ⟨A1, n1, c1, A2, n2, c2, rfl, rfl, rfl, rfl, _, rfl⟩ := h
  have e : (x.d.waits ++ [(k, p, t, bb)]).length = x.d.waits.length + 1 := by simp
  refine ⟨_, ⟨⟨x.d.did k p t bb, A1, c1, x.Al, x.cl, A2, c2⟩, by unfold RX.cs; simp only [RD.did, e]; rfl, rfl, rfl, rfl⟩, der_ref in1 (inr (inr (inv1 View.ref1))) (inr (inv1 ?_))⟩
  simp only [RD.did, e]
  exact .same
/-- what is told of a Rename -/
def RD.renameE (d : RD) (a c : List UInt8) : Int := if ¬ Named c then 1 else d.readE a
def RD.rename (d : RD) (a c : List UInt8) : RD := if d.renameE a c = 0 then d.did 1 a c [] else d
def RD.remove (d : RD) (p : List UInt8) : RD := if d.readE p = 0 then d.did 2 p [] [] else d
theorem rrenameX {x : RX} {kk : Nat} {a c : List UInt8} (ok : ROk x.d kk) (hkk : kk ≤ 100000) (hcl : c.length ≤ 1000000) : Con Tryd.prog 122 [.agg x.cs.toArray, .string (strOf a), .string (strOf c)] [] [RRef x] (fun v_ X_ S_ => ∃ y, v_ = (.tuple #[.agg y.cs.toArray, .int .i64 (x.d.renameE a c)]) ∧ X_ = [] ∧ S_ = [RRef y] ∧ (y.d = x.d.rename a c)) := by
  refine henter (N := 31) Tryd.func122 rfl rfl (by simp) fun b => ?_
  refine hseq <| hreg <| ?_
  refine hx (xh_box rfl (fun g3 => ?_))
  refine hmemL (fun w m => m.eqX 0 rfl (show _ = RBlk g3 62 x.cs from congrArg (RBlk _ _) (cells_agg _))) ?_
  refine hx (xh_alloc ti62 (fun g6 => ?_))
  refine hy (fun _ => y_assign rfl) <| hend <| hmemQ (X' := [_, _]) (S' := [_]) (fun _ m => m) <| hthen <| hseq <| hreg <| hy (fun _ => y_move rfl) <| ?_
  refine hx (xh_call rfl Tryd.call148 (rnamedC (by omega)) [] rfl [] rfl ?_)
  rintro _ _ _ ⟨rfl, rfl, rfl⟩
  refine hy (fun _ => y_assign rfl) <| hend <| hsub (ρ' := [(8, _), (7, _), (6, _), (3, _), (0, _), (1, _), (2, _)]) ⟨rfl, rfl, rfl, rfl, rfl, rfl, rfl, trivial⟩ <| hmemQ (X' := [_, _]) (S' := [_]) (fun _ m => m) <| hthen <| hseq <| hseq <| hreg <| hy (fun _ => y_move rfl) <| hy (fun _ => y_notp rfl) <| hend <| hsub (ρ' := [(14, _), (8, _), (7, _), (6, _), (3, _), (0, _), (1, _), (2, _)]) ⟨rfl, rfl, rfl, rfl, rfl, rfl, rfl, rfl, trivial⟩ <| hthen <| ?_
  refine hif rfl (fun hN => ?_) (fun hN => ?_)
  · have hE : x.d.renameE a c = 1 := by rw [RD.renameE, if_pos hN]
    have hE0 : ¬ (1 : Int) = 0 := by decide
    have hW : x.d.rename a c = x.d := by rw [RD.rename, if_neg (by rw [hE]; exact hE0)]
    rw [hE, hW]
    refine hseq <| hreg <| hy (fun m => yV (y_ldN rfl ag62 sz62 rfl ((m.blk 1 rfl).cells0)) ((rfl : _ = Value.agg x.cs.toArray))) <| ?_
    refine hx0 (xh_stA 0 rfl rfl rfl sz62 rfl cs_one rfl ?_)
    refine hy (fun _ => y_assign rfl) <| hend <| hsub (ρ' := [(7, _), (14, _), (8, _), (6, _), (3, _), (0, _), (1, _), (2, _)]) ⟨rfl, rfl, rfl, rfl, rfl, rfl, rfl, rfl, trivial⟩ <| hmemQ (X' := [_, _]) (S' := [_]) (fun _ m => m) <| hthen <| hret <| hthen_ret <| ?_
    exact hretN1 trivial rfl rfl rfl ag62 sz62 rfl (fun m => (m.blk 0 rfl).cells0) [] rfl [0] rfl ⟨x, rfl, rfl, rfl, rfl⟩
  · have hE : x.d.renameE a c = x.d.readE a := by rw [RD.renameE, if_neg hN]
    refine hcskip <| hthen <| hseq <| hreg <| hy (fun m => yV (y_ldN rfl ag62 sz62 rfl ((m.blk 1 rfl).cells0)) ((rfl : _ = Value.agg x.cs.toArray))) <| hy (fun _ => y_move rfl) <| ?_
    refine hx (xh_call rfl Tryd.call152 (rreadX (by omega) (by omega)) [] rfl [0] rfl ?_)
    rintro _ _ _ ⟨rfl, rfl, rfl⟩
    refine hy (fun _ => y_move rfl) <| hy (fun _ => y_extract rfl rfl) <| hy (fun _ => y_extract rfl rfl) <| hy (fun _ => y_assign rfl) <| hy (fun _ => y_assign rfl) <| hend <| hsub (ρ' := [(10, _), (14, _), (8, _), (7, _), (6, _), (3, _), (0, _), (1, _), (2, _)]) ⟨rfl, rfl, rfl, rfl, rfl, rfl, rfl, rfl, rfl, trivial⟩ <| hmemQ (X' := [_, _]) (S' := [_]) (fun _ m => m) <| hthen <| hseq <| hseq <| hreg <| hy (fun _ => y_move rfl) <| hy (fun _ => y_neq rfl rfl) <| hend <| hsub (ρ' := [(23, _), (10, _), (14, _), (8, _), (7, _), (6, _), (3, _), (0, _), (1, _), (2, _)]) ⟨rfl, rfl, rfl, rfl, rfl, rfl, rfl, rfl, rfl, rfl, trivial⟩ <| hthen <| ?_
    refine hif rfl (fun hE0 => ?_) (fun hE0 => ?_)
    · have hW : x.d.rename a c = x.d := by rw [RD.rename, if_neg (by rw [hE]; exact hE0)]
      rw [hE, hW]
      refine hseq <| hreg <| hy (fun m => yV (y_ldN rfl ag62 sz62 rfl ((m.blk 1 rfl).cells0)) ((rfl : _ = Value.agg x.cs.toArray))) <| hy (fun _ => y_move rfl) <| ?_
      refine hx0 (xh_stA 0 rfl rfl rfl sz62 rfl cs_one rfl ?_)
      refine hy (fun _ => y_assign rfl) <| hend <| hsub (ρ' := [(7, _), (23, _), (10, _), (14, _), (8, _), (6, _), (3, _), (0, _), (1, _), (2, _)]) ⟨rfl, rfl, rfl, rfl, rfl, rfl, rfl, rfl, rfl, rfl, trivial⟩ <| hmemQ (X' := [_, _]) (S' := [_]) (fun _ m => m) <| hthen <| hret <| hthen_ret <| ?_
      exact hretN1 trivial rfl rfl rfl ag62 sz62 rfl (fun m => (m.blk 0 rfl).cells0) [] rfl [0] rfl ⟨x, rfl, rfl, rfl, rfl⟩
    · have hr0 := Decidable.not_not.1 hE0
      have hW : x.d.rename a c = x.d.did 1 a c [] := by rw [RD.rename, if_pos (by rw [hE]; exact hr0)]
      rw [hE, hW, hr0]
      refine hcskip <| hthen <| hseq <| hreg <| hy (fun m => yV (y_ldN rfl ag62 sz62 rfl ((m.blk 1 rfl).cells0)) ((rfl : _ = Value.agg x.cs.toArray))) <| hy (fun _ => y_move rfl) <| hy (fun _ => y_move rfl) <| hy (fun _ => yV (y_build ti219 rfl rfl (by kernel_rfl) (.cons (o := 0) (sz := 1) (by kernel_rfl) rfl rfl (Nat.le_of_ble_eq_true rfl) (.cons (o := 1) (sz := 1) (by kernel_rfl) rfl rfl (Nat.le_of_ble_eq_true rfl) (.cons (o := 2) (sz := 1) (by kernel_rfl) rfl rfl (Nat.le_of_ble_eq_true rfl) .nil)))) ((rfl : _ = Value.agg (cv 1 a c []).toArray))) <| ?_
      refine hx (xh_call rfl Tryd.call151 (rdoX (by omega) (by omega)) [] rfl [0] rfl ?_)
      rintro _ _ _ ⟨y, rfl, rfl, rfl, hp⟩
      refine hx0 (xh_stA 0 rfl rfl rfl sz62 rfl cs_one rfl ?_)
      refine hy (fun _ => y_assign rfl) <| hend <| hsub (ρ' := [(7, _), (23, _), (10, _), (14, _), (8, _), (6, _), (3, _), (0, _), (1, _), (2, _)]) ⟨rfl, rfl, rfl, rfl, rfl, rfl, rfl, rfl, rfl, rfl, trivial⟩ <| hmemQ (X' := [_, _]) (S' := [_, _]) (fun _ m => m) <| hthen <| hret <| ?_
      exact hretN1 trivial rfl rfl rfl ag62 sz62 rfl (fun m => (m.blk 0 rfl).cells0) [] rfl [0] rfl ⟨y, rfl, rfl, rfl, hp⟩
def RD.syncE (d : RD) : Int := if d.pw = 0 then 6 else 0
def RD.sync (d : RD) : RD := if d.pw = 0 then d else { d with lasts := d.seen, waits := [], pw := lessP d.pw }
theorem rsyncX {x : RX} {kk : Nat} (ok : ROk x.d kk) : Con Tryd.prog 121 [.agg x.cs.toArray] [] [RRef x] (fun v_ X_ S_ => ∃ y, v_ = (.tuple #[.agg y.cs.toArray, .int .i64 x.d.syncE]) ∧ X_ = [] ∧ S_ = [RRef y] ∧ (y.d = x.d.sync)) := by
  have hp1 := ok.p1
  have hp2 := ok.p2
  refine henter (N := 20) Tryd.func121 rfl rfl (by simp) fun b => ?_
  refine hseq <| hreg <| ?_
  refine hx (xh_box rfl (fun g1 => ?_))
  refine hmemL (fun w m => m.eqX 0 rfl (show _ = RBlk g1 62 x.cs from congrArg (RBlk _ _) (cells_agg _))) ?_
  refine hx (xh_alloc ti62 (fun g2 => ?_))
  refine hy (fun _ => y_assign rfl) <| hend <| hmemQ (X' := [_, _]) (S' := [_]) (fun _ m => m) <| hthen <| hseq <| hseq <| hreg <| hy (fun _ => y_fld rfl fa62_4 (by decide)) <| hy (fun m => y_ld1 rfl ag3 (ld_blk (m.blk 1 rfl) (i := 4) rfl)) <| hy (fun _ => y_eql rfl rfl) <| hend <| hsub (ρ' := [(6, _), (3, _), (2, _), (1, _), (0, _)]) ⟨rfl, rfl, rfl, rfl, rfl, trivial⟩ <| hthen <| ?_
  refine hif rfl (fun h0 => ?_) (fun h0 => ?_)
  · have hE : x.d.syncE = 6 := by rw [RD.syncE, if_pos h0]
    have hW : x.d.sync = x.d := by rw [RD.sync, if_pos h0]
    rw [hE, hW]
    refine hseq <| hreg <| hy (fun m => yV (y_ldN rfl ag62 sz62 rfl ((m.blk 1 rfl).cells0)) ((rfl : _ = Value.agg x.cs.toArray))) <| ?_
    refine hx0 (xh_stA 0 rfl rfl rfl sz62 rfl cs_one rfl ?_)
    refine hy (fun _ => y_assign rfl) <| hend <| hsub (ρ' := [(3, _), (6, _), (2, _), (1, _), (0, _)]) ⟨rfl, rfl, rfl, rfl, rfl, trivial⟩ <| hmemQ (X' := [_, _]) (S' := [_]) (fun _ m => m) <| hthen <| hret <| hthen_ret <| ?_
    exact hretN1 trivial rfl rfl rfl ag62 sz62 rfl (fun m => (m.blk 0 rfl).cells0) [] rfl [0] rfl ⟨x, rfl, rfl, rfl, rfl⟩
  · have hE : x.d.syncE = 0 := by rw [RD.syncE, if_neg h0]
    have hW : x.d.sync = { x.d with lasts := x.d.seen, waits := [], pw := lessP x.d.pw } := by rw [RD.sync, if_neg h0]
    rw [hE]
    refine hmemC (fun w m => m.asV 0 rfl View.ref0) ?_
    refine hfactC (fun m => rdX (m.rd 0 rfl)) ?_
    rintro ⟨hl_r0, hA_r0⟩
    refine hmemC (fun w m => m.addS (r' := RRd 4 none 0 []) (.refl _ _) (Rd.nil _ _ _) (fun k hk => absurd rfl hk.1)) ?_
    have hA_z : 0 < 0 → (none : Option Addr) ≠ none := fun h => absurd h (by decide)
    refine hcskip <| hthen <| hseq <| hreg <| hy (fun _ => y_fld rfl fa62_1 (by decide)) <| hy (fun m => y_ld1 rfl ag59 (ld_blk (m.blk 1 rfl) (i := 1) rfl)) <| hy (fun _ => y_fld rfl fa62_2 (by decide)) <| ?_
    refine hx0 (xh_st1a 1 rfl rfl rfl sz59 rfl (by first | exact Nat.le_of_ble_eq_true rfl | simp) ?_)
    refine hend <| hsub (ρ' := [(6, _), (3, _), (2, _), (1, _), (0, _)]) ⟨rfl, rfl, rfl, rfl, rfl, trivial⟩ <| hmemQ (X' := [_, _]) (S' := [_, _, _]) (fun _ m => m) <| hthen <| hseq <| hreg <| hy (fun _ => y_fld rfl fa62_3 (by decide)) <| ?_
    refine hx0 (xh_st1a 0 rfl rfl rfl sz60 rfl (by first | exact Nat.le_of_ble_eq_true rfl | simp) ?_)
    refine hend <| hsub (ρ' := [(6, _), (3, _), (2, _), (1, _), (0, _)]) ⟨rfl, rfl, rfl, rfl, rfl, trivial⟩ <| hmemQ (X' := [_, _]) (S' := [_, _, _]) (fun _ m => m) <| hthen <| hseq <| hseq <| hreg <| hy (fun _ => y_fld rfl fa62_4 (by decide)) <| hy (fun m => y_ld1 rfl ag3 (ld_blk (m.blk 0 rfl) (i := 4) rfl)) <| hy (fun _ => y_gtr rfl rfl) <| hend <| hsub (ρ' := [(14, _), (6, _), (3, _), (2, _), (1, _), (0, _)]) ⟨rfl, rfl, rfl, rfl, rfl, rfl, trivial⟩ <| hthen <| ?_
    refine hmemC (S' := RRef ⟨{ x.d with lasts := x.d.seen, waits := [], pw := lessP x.d.pw }, x.A, x.c, x.A, x.c, none, 0⟩ :: _) (fun w m => m.allS [1, 1, 0] rfl) ?_
    refine hif rfl (fun h1 => ?_) (fun h1 => ?_)
    · refine hreg <| hy (fun _ => y_fld rfl fa62_4 (by decide)) <| hy (fun m => y_ld1 rfl ag3 (ld_blk (m.blk 0 rfl) (i := 4) rfl)) <| hy (fun _ => y_sub rfl rfl (w64 (by omega) (by omega))) <| hy (fun _ => y_fld rfl fa62_4 (by decide)) <| ?_
      refine hx0 (xh_st1a 0 rfl rfl rfl sz3 rfl (by first | exact Nat.le_of_ble_eq_true rfl | simp) ?_)
      refine hend <| hsub (ρ' := [(14, _), (6, _), (3, _), (2, _), (1, _), (0, _)]) ⟨rfl, rfl, rfl, rfl, rfl, rfl, trivial⟩ <| hmemQ (X' := [_, _]) (S' := [_, _, _, _]) (fun _ m => m) <| hthen <| hseq <| hreg <| ?_
      refine hmemL (fun w m => m.eqX 0 rfl (show _ = RBlk g1 62 (RX.cs ⟨{ x.d with lasts := x.d.seen, waits := [], pw := lessP x.d.pw }, x.A, x.c, x.A, x.c, none, 0⟩) from by rw [lessP, if_pos h1]; rfl)) ?_
      refine hy (fun m => yV (y_ldN rfl ag62 sz62 rfl ((m.blk 0 rfl).cells0)) ((rfl : _ = Value.agg (RX.cs ⟨{ x.d with lasts := x.d.seen, waits := [], pw := lessP x.d.pw }, x.A, x.c, x.A, x.c, none, 0⟩).toArray))) <| ?_
      refine hx0 (xh_stA 1 rfl rfl rfl sz62 rfl cs_one rfl ?_)
      refine hy (fun _ => y_assign rfl) <| hend <| hsub (ρ' := [(3, _), (14, _), (6, _), (2, _), (1, _), (0, _)]) ⟨rfl, rfl, rfl, rfl, rfl, rfl, trivial⟩ <| hmemQ (X' := [_, _]) (S' := [_, _, _, _]) (fun _ m => m) <| hthen <| hret <| ?_
      exact hretN1 trivial rfl rfl rfl ag62 sz62 rfl (fun m => (m.blk 0 rfl).cells0) [] rfl [0] rfl ⟨_, rfl, rfl, rfl, hW.symm⟩
    · refine hcskip <| hthen <| hseq <| hreg <| ?_
      refine hmemL (fun w m => m.eqX 0 rfl (show _ = RBlk g1 62 (RX.cs ⟨{ x.d with lasts := x.d.seen, waits := [], pw := lessP x.d.pw }, x.A, x.c, x.A, x.c, none, 0⟩) from by rw [lessP, if_neg h1]; rfl)) ?_
      refine hy (fun m => yV (y_ldN rfl ag62 sz62 rfl ((m.blk 0 rfl).cells0)) ((rfl : _ = Value.agg (RX.cs ⟨{ x.d with lasts := x.d.seen, waits := [], pw := lessP x.d.pw }, x.A, x.c, x.A, x.c, none, 0⟩).toArray))) <| ?_
      refine hx0 (xh_stA 1 rfl rfl rfl sz62 rfl cs_one rfl ?_)
      refine hy (fun _ => y_assign rfl) <| hend <| hsub (ρ' := [(3, _), (14, _), (6, _), (2, _), (1, _), (0, _)]) ⟨rfl, rfl, rfl, rfl, rfl, rfl, trivial⟩ <| hmemQ (X' := [_, _]) (S' := [_, _, _, _]) (fun _ m => m) <| hthen <| hret <| ?_
      exact hretN1 trivial rfl rfl rfl ag62 sz62 rfl (fun m => (m.blk 0 rfl).cells0) [] rfl [0] rfl ⟨_, rfl, rfl, rfl, hW.symm⟩
def RD.power (d : RD) (n : Int) : RD := { d with pw := max n (-1) }
end Go.Proofs.YtfikjheicjamhaaDoor
end
section
/- The document's files and a map's files, over plain lists. No program walked. -/
set_option linter.unusedVariables false
set_option linter.unusedSimpArgs false
namespace Go.Proofs.YtfikjheicjamhaaDoor
open Go.Eng Go.Hx
theorem bl_eq : ∀ (x y : List UInt8), Op.bytesLess x y = decide (x < y)
  | [], [] => by simp [Op.bytesLess]
  | _ :: _, [] => by simp [Op.bytesLess]
  | [], _ :: _ => by simp [Op.bytesLess]
  | a :: x, b :: y => by
    rw [Op.bytesLess, bl_eq x y]
    simp only [List.cons_lt_cons_iff]
    by_cases h1 : a < b <;> by_cases h2 : a = b <;> by_cases h3 : x < y <;> simp [h1, h2, h3]
theorem sless_iff {a b : List UInt8} : sless a b = decide (a < b) := by
  unfold sless
  rw [bl_eq, Lib.toList_data, Lib.toList_data]
  rfl
def insF : List FP → FP → List FP
  | [], f => [f]
  | x :: r, f => if x.1 < f.1 then x :: insF r f else f :: (x :: r).filter fun y => decide (y.1 ≠ f.1)
theorem fold_true (f : FP) : ∀ (l acc : List FP), l.foldl (wstep f) (acc, true) = (acc ++ l.filter (fun y => decide (y.1 ≠ f.1)), true)
  | [], acc => by simp
  | x :: r, acc => by
    rw [List.foldl_cons]
    by_cases h : x.1 = f.1
    · have : wstep f (acc, true) x = (acc, true) := by simp [wstep, h]
      rw [this, fold_true f r acc]; simp [h]
    · have : wstep f (acc, true) x = (acc ++ [x], true) := by simp [wstep, h]
      rw [this, fold_true f r (acc ++ [x])]; simp [h]
def wfin (f : FP) (st : List FP × Bool) : List FP := if st.2 then st.1 else st.1 ++ [f]
theorem fold_false (f : FP) : ∀ (l acc : List FP), wfin f (l.foldl (wstep f) (acc, false)) = acc ++ insF l f
  | [], acc => by simp [insF, wfin]
  | x :: r, acc => by
    rw [List.foldl_cons]
    by_cases h : x.1 < f.1
    · have hne : x.1 ≠ f.1 := fun e => by rw [e] at h; exact List.lt_irrefl _ h
      have : wstep f (acc, false) x = (acc ++ [x], false) := by simp [wstep, sless_iff, h, hne]
      rw [this, fold_false f r (acc ++ [x]), insF, if_pos h]; simp
    · have hs : sless x.1 f.1 = false := by rw [sless_iff]; simpa using h
      rw [insF, if_neg h]
      by_cases he : x.1 = f.1
      · have hs' : sless f.1 f.1 = false := he ▸ hs
        have : wstep f (acc, false) x = (acc ++ [f], true) := by simp [wstep, hs', he]
        rw [this, fold_true]; simp [he, wfin]
      · have : wstep f (acc, false) x = (acc ++ [f] ++ [x], true) := by simp [wstep, hs, he]
        rw [this, fold_true]; simp [he, wfin]
theorem withF_ins (l : List FP) (f : FP) : withF l f = insF l f := by
  have := fold_false f l []
  rw [List.nil_append] at this
  rw [← this]
  unfold withF wst wfin
  rw [List.take_of_length_le (Nat.le_refl _)]
/-- what stands under a name -/
def lk : List FP → List UInt8 → Option (List UInt8)
  | [], _ => none
  | x :: r, p => if x.1 = p then some x.2 else lk r p
theorem lk_find : ∀ (l : List FP) (p : List UInt8), (l[findN l p]?).map (·.2) = lk l p
  | [], p => rfl
  | x :: r, p => by
    have := lk_find r p
    unfold findN at this ⊢
    rw [List.findIdx_cons]
    by_cases h : x.1 = p
    · simp [h, lk]
    · simp [h, lk, this]
theorem lk_filter (q : List UInt8) : ∀ (l : List FP) (p : List UInt8), lk (l.filter fun y => decide (y.1 ≠ q)) p = if p = q then none else lk l p
  | [], p => by simp [lk]
  | x :: r, p => by
    have ih := lk_filter q r p
    by_cases h : x.1 = q
    · rw [List.filter_cons, if_neg (by simp [h]), ih]
      by_cases hp : p = q
      · simp [hp]
      · rw [if_neg hp, if_neg hp, lk, if_neg (fun e => hp (e.symm.trans h))]
    · rw [List.filter_cons, if_pos (by simp [h]), lk, ih]
      by_cases hp : p = q
      · rw [if_pos hp, if_pos hp, if_neg (fun e => h (e.trans hp))]
      · rw [if_neg hp, if_neg hp, lk]
theorem lk_ins : ∀ (l : List FP) (f : FP) (p : List UInt8), lk (insF l f) p = if p = f.1 then some f.2 else lk l p
  | [], f, p => by simp only [insF, lk, eq_comm]
  | x :: r, f, p => by
    unfold insF
    by_cases h : x.1 < f.1
    · rw [if_pos h, lk, lk_ins r f p, lk]
      have hne : x.1 ≠ f.1 := fun e => by rw [e] at h; exact List.lt_irrefl _ h
      by_cases hp : p = f.1
      · rw [if_pos hp, if_pos hp, if_neg (fun e => hne (e.trans hp))]
      · rw [if_neg hp, if_neg hp]
    · rw [if_neg h, lk, lk_filter]
      by_cases hp : p = f.1
      · rw [if_pos hp.symm, if_pos hp]
      · rw [if_neg (fun e => hp e.symm), if_neg hp, if_neg hp]
/-- in order, each name once -/
def Srtd (l : List FP) : Prop := (l.map (·.1)).Pairwise (· < ·)
theorem srtd_filter {l : List FP} (q : FP → Bool) (h : Srtd l) : Srtd (l.filter q) := List.Pairwise.sublist (List.Sublist.map _ List.filter_sublist) h
theorem mem_ins {l : List FP} {f y : FP} (h : y ∈ insF l f) : y = f ∨ y ∈ l := by
  induction l with
  | nil => exact .inl (by simpa [insF] using h)
  | cons x r ih =>
    unfold insF at h
    split at h
    · rcases List.mem_cons.1 h with h | h
      · exact .inr (by rw [h]; exact List.mem_cons_self ..)
      · rcases ih h with h | h
        · exact .inl h
        · exact .inr (List.mem_cons_of_mem _ h)
    · rcases List.mem_cons.1 h with h | h
      · exact .inl h
      · exact .inr ((List.mem_filter.1 h).1)
theorem srtd_ins {l : List FP} {f : FP} (h : Srtd l) : Srtd (insF l f) := by
  induction l with
  | nil => simp [Srtd, insF]
  | cons x r ih =>
    have hx : ∀ y ∈ r, x.1 < y.1 := by
      intro y hy
      exact (List.pairwise_cons.1 h).1 _ (List.mem_map.2 ⟨y, hy, rfl⟩)
    have hr : Srtd r := (List.pairwise_cons.1 h).2
    unfold insF
    by_cases hlt : x.1 < f.1
    · rw [if_pos hlt]
      refine List.pairwise_cons.2 ⟨?_, ih hr⟩
      intro a ha
      obtain ⟨y, hy, rfl⟩ := List.mem_map.1 ha
      rcases mem_ins hy with rfl | hy
      · exact hlt
      · exact hx y hy
    · rw [if_neg hlt]
      refine List.pairwise_cons.2 ⟨?_, srtd_filter _ h⟩
      intro a ha
      obtain ⟨y, hy, rfl⟩ := List.mem_map.1 ha
      have hy1 := (List.mem_filter.1 hy).1
      have hy2 : y.1 ≠ f.1 := by simpa using (List.mem_filter.1 hy).2
      have hge : ¬ y.1 < f.1 := by
        rcases List.mem_cons.1 hy1 with rfl | h1
        · exact hlt
        · exact fun e => hlt (List.lt_trans (hx y h1) e)
      exact Decidable.byContradiction fun hn => hy2 (List.le_antisymm (List.not_lt.1 hn) (List.not_lt.1 hge))
/-- a map's files are the document's -/
structure FSim (fs : Files) (l : List FP) : Prop where
  ord : Srtd l
  nd : (akeys fs).Nodup
  look : ∀ p, (aget fs p).map (·.l) = lk l p
  len : ∀ x ∈ fs, x.2.n = x.2.l.length
theorem FSim.nil : FSim [] [] := ⟨by simp [Srtd], by simp [akeys], fun p => rfl, fun x h => by cases h⟩
theorem lk_mem {l : List FP} {p : List UInt8} : lk l p ≠ none ↔ p ∈ l.map (·.1) := by
  induction l with
  | nil => simp [lk]
  | cons x r ih =>
    unfold lk
    by_cases h : x.1 = p
    · simp [h]
    · rw [if_neg h, ih]; simp [Ne.symm h]
theorem FSim.keys {fs : Files} {l : List FP} (h : FSim fs l) : (akeys fs).Perm (l.map (·.1)) := by
  have hn : (l.map (·.1)).Nodup := List.Pairwise.imp (fun hlt e => by rw [e] at hlt; exact List.lt_irrefl _ hlt) h.ord
  refine (List.perm_ext_iff_of_nodup h.nd hn).2 fun p => ?_
  rw [← lk_mem, ← h.look p]
  have := @aget_none (List UInt8) BRow _ fs p
  cases hq : aget fs p with
  | none => simp [this.1 hq]
  | some r => simp; exact Decidable.byContradiction fun hm => by rw [this.2 hm] at hq; cases hq
theorem FSim.put {fs : Files} {l : List FP} (h : FSim fs l) {p : List UInt8} {r : BRow} (hr : r.n = r.l.length) : FSim (aput fs p r) (withF l (p, r.l)) := by
  rw [withF_ins]
  refine ⟨srtd_ins h.ord, aput_nodup h.nd, fun q => ?_, fun x hx => ?_⟩
  · rw [aget_aput, lk_ins]
    by_cases hq : p = q
    · rw [if_pos hq, if_pos hq.symm]; rfl
    · rw [if_neg hq, if_neg (fun e => hq e.symm)]; exact h.look q
  · rcases aput_vals (List.mem_map.2 ⟨x, hx, rfl⟩) with h1 | h1
    · obtain ⟨y, hy, e⟩ := List.mem_map.1 h1
      rw [← e]; exact h.len y hy
    · rw [h1]; exact hr
theorem sum_perm {a b : List Nat} (h : a.Perm b) : a.sum = b.sum := by
  induction h with
  | nil => rfl
  | cons x _ ih => simp [ih]
  | swap x y l => simp; omega
  | trans _ _ h1 h2 => rw [h1, h2]
theorem lk_self {l : List FP} (h : Srtd l) {x : FP} (hx : x ∈ l) : lk l x.1 = some x.2 := by
  induction l with
  | nil => cases hx
  | cons y r ih =>
    unfold lk
    rcases List.mem_cons.1 hx with rfl | h1
    · rw [if_pos rfl]
    · have hlt : y.1 < x.1 := (List.pairwise_cons.1 h).1 _ (List.mem_map.2 ⟨x, h1, rfl⟩)
      rw [if_neg (fun e => by rw [e] at hlt; exact List.lt_irrefl _ hlt)]
      exact ih (List.pairwise_cons.1 h).2 h1
theorem FSim.tot {fs : Files} {l : List FP} (h : FSim fs l) : tot fs = totF l := by
  let g : List UInt8 → Nat := fun p => ((lk l p).getD []).length
  have h1 : fs.map (fun x => x.2.n) = (akeys fs).map g := by
    rw [akeys, List.map_map]
    refine List.map_congr_left fun x hx => ?_
    have := h.look x.1
    rw [aget_of_mem h.nd (show (x.1, x.2) ∈ fs from hx)] at this
    show x.2.n = ((lk l x.1).getD []).length
    rw [← this, h.len x hx]; rfl
  have h2 : l.map (fun x => x.2.length) = (l.map (·.1)).map g := by
    rw [List.map_map]
    refine List.map_congr_left fun x hx => ?_
    show x.2.length = ((lk l x.1).getD []).length
    rw [lk_self h.ord hx]; rfl
  show (fs.map fun x => x.2.n).sum = (l.map fun x => x.2.length).sum
  rw [h1, h2]
  exact sum_perm (h.keys.map g)
theorem FSim.len1 {fs : Files} {l : List FP} (h : FSim fs l) : fs.length = l.length := by
  have := h.keys.length_eq
  simpa [akeys] using this
theorem FSim.sz {fs : Files} {l : List FP} (h : FSim fs l) (p : List UInt8) : ((aget fs p).map (·.n)).getD 0 = ((l[findN l p]?).map (·.2.length)).getD 0 := by
  have h1 := h.look p
  rw [← lk_find] at h1
  cases hq : aget fs p with
  | none =>
    rw [hq] at h1
    cases hl : l[findN l p]? with
    | none => rfl
    | some x => rw [hl] at h1; cases h1
  | some r =>
    rw [hq] at h1
    cases hl : l[findN l p]? with
    | none => rw [hl] at h1; cases h1
    | some x =>
      rw [hl] at h1
      have e : r.l = x.2 := Option.some.inj h1
      have := h.len _ (aget_mem hq)
      simp only [Option.map_some, Option.getD_some]
      rw [← e]; exact this
/-- a disk is the document's -/
structure DSim (st : DSt) (d : RD) : Prop where
  room : st.room = d.room
  power : st.power = d.pw
  files : FSim st.seen d.seen
  waits : st.waits.length = d.waits.length
theorem DSim.writeE {st : DSt} {d : RD} (h : DSim st d) (p bb : List UInt8) : writeE st p bb.length = d.writeE p bb := by
  have h1 := h.files.sz p
  have h2 := h.files.tot
  unfold Go.Proofs.YtfikjheicjamhaaDoor.writeE RD.writeE RD.sz
  rw [h.power, h.room, h1, h2]
  by_cases hn : ¬ Named p
  · rw [if_pos hn, if_pos hn]
  · rw [if_neg hn, if_neg hn]
    by_cases h0 : d.pw = 0
    · rw [if_pos h0, if_pos h0]
    · rw [if_neg h0, if_neg h0]
      by_cases hr : d.room < (totF d.seen : Int) + (bb.length : Nat) - (((d.seen[findN d.seen p]?).map (·.2.length)).getD 0 : Nat)
      · rw [if_pos hr, if_pos (by omega)]
      · rw [if_neg hr, if_neg (by omega)]
theorem DSim.wrote {st : DSt} {d : RD} (h : DSim st d) {p : List UInt8} {r : BRow} (hr : r.n = r.l.length) {A : Option Addr} {c : Nat} : DSim (st.wrote p r A c) (d.did 0 p [] r.l) := by
  refine ⟨h.room, ?_, ?_, ?_⟩
  · show (if 0 < st.power then st.power - 1 else st.power) = lessP d.pw
    rw [h.power]; rfl
  · show FSim (aput st.seen p r) (makeF d.seen 0 p [] r.l)
    rw [makeF, if_pos rfl]; exact h.files.put hr
  · show (st.waits ++ [Chg.written p r]).length = (d.waits ++ [(0, p, [], r.l)]).length
    rw [List.length_append, List.length_append, h.waits]; rfl
theorem DSim.readE {st : DSt} {d : RD} (h : DSim st d) (p : List UInt8) : foundE st p = d.readE p := by
  have h1 := h.files.look p
  rw [← lk_find] at h1
  unfold foundE RD.readE
  rw [h.power]
  by_cases h0 : d.pw = 0
  · rw [if_pos h0, if_pos h0]
  · rw [if_neg h0, if_neg h0]
    cases ha : aget st.seen p with
    | none =>
      rw [ha] at h1
      cases hb : d.seen[findN d.seen p]? with
      | none => simp
      | some y => rw [hb] at h1; cases h1
    | some r =>
      rw [ha] at h1
      cases hb : d.seen[findN d.seen p]? with
      | none => rw [hb] at h1; cases h1
      | some y => simp
theorem DSim.readB {st : DSt} {d : RD} (h : DSim st d) (p : List UInt8) : readB st p = d.readB p := by
  have h1 := h.files.look p
  rw [← lk_find] at h1
  have h2 := h.readE p
  unfold Go.Proofs.YtfikjheicjamhaaDoor.readB RD.readB
  rw [h2, ← h1]
  unfold RD.readE
  by_cases h0 : d.pw = 0
  · rw [if_pos h0, if_pos h0, if_neg (by decide)]
  · rw [if_neg h0, if_neg h0]
    cases hb : d.seen[findN d.seen p]? with
    | none =>
      rw [hb] at h1
      cases ha : aget st.seen p with
      | none => simp
      | some r => rw [ha] at h1; cases h1
    | some y => simp
end Go.Proofs.YtfikjheicjamhaaDoor
end
section
/- Contracts: the document's disk (layer 12): Restart, names of a small world. -/
set_option linter.unusedVariables false
set_option linter.unusedSimpArgs false
set_option maxRecDepth 20000
namespace Go.Proofs.YtfikjheicjamhaaDoor
open Go.Eng Go.Hx
theorem flat_get {α : Type} {f : α → List Value} {k : Nat} (hf : ∀ x, (f x).length = k) : ∀ (l : List α) (i j : Nat) (x : α), l[i]? = some x → j < k → (l.flatMap f)[i * k + j]? = (f x)[j]?
  | [], i, j, x, h, hj => by simp at h
  | a :: r, 0, j, x, h, hj => by
    simp only [List.getElem?_cons_zero, Option.some.injEq] at h
    subst h
    rw [List.flatMap_cons, Nat.zero_mul, Nat.zero_add, List.getElem?_append_left (by rw [hf]; exact hj)]
  | a :: r, i + 1, j, x, h, hj => by
    rw [List.flatMap_cons, List.getElem?_append_right (by rw [hf, Nat.succ_mul]; omega), hf, show (i + 1) * k + j - k = i * k + j by rw [Nat.succ_mul]; omega]
    exact flat_get hf r i j x (by simpa using h) hj
theorem flat_cells {α : Type} {f : α → List Value} {k : Nat} {w : World} {A : Option Addr} {n i : Nat} {l : List α} {x : α} (hf : ∀ x, (f x).length = k) (h : Rd w k A n (l.flatMap f)) (hx : l[i]? = some x) : ∀ (j : Nat) (u : Value), (f x)[j]? = some u → w.cell? (((A.getD d0).add (i * k)).add j) = some u := by
  intro j u hu
  have hj : j < k := by have := (List.getElem?_eq_some_iff.1 hu).1; rwa [hf] at this
  exact rd_fld h (by rw [flat_get hf l i j x hx hj]; exact hu)
theorem wcs_cells {w : World} {A : Option Addr} {n i : Nat} {l : List RC} {x : RC} (h : Rd w 4 A n (wcs l)) (hx : l[i]? = some x) : ∀ (j : Nat) (u : Value), (cv x.1 x.2.1 x.2.2.1 x.2.2.2)[j]? = some u → w.cell? (((A.getD d0).add (i * 4)).add j) = some u :=
  flat_cells (f := fun x : RC => cv x.1 x.2.1 x.2.2.1 x.2.2.2) (fun _ => rfl) h hx
/-- one change that waits, at a restart -/
def dstep (s : List Bool × List FP) (c : RC) : List Bool × List FP :=
  if s.1.headD false then
    if c.1 = 0 then (s.1.tail.tail, makeF s.2 c.1 c.2.1 c.2.2.1 (if s.1.tail.headD false then c.2.2.2 else c.2.2.2.take (c.2.2.2.length / 2)))
    else (s.1.tail, makeF s.2 c.1 c.2.1 c.2.2.1 c.2.2.2)
  else (s.1.tail, s.2)
def dfold (keep : List Bool) (d : RD) (i : Nat) : List Bool × List FP := (d.waits.take i).foldl dstep (keep, d.lasts)
theorem dfold_succ {keep : List Bool} {d : RD} {i : Nat} {c : RC} (h : d.waits[i]? = some c) : dfold keep d (i + 1) = dstep (dfold keep d i) c := by
  unfold dfold
  obtain ⟨hi, rfl⟩ := List.getElem?_eq_some_iff.1 h
  rw [List.take_succ_eq_append_getElem hi, List.foldl_append]
  rfl
def RD.restart (d : RD) (keep : List Bool) : RD := { d with seen := (dfold keep d d.waits.length).2, lasts := (dfold keep d d.waits.length).2, waits := [], pw := -1 }
theorem head_drop {bs : List Bool} {at_ : Nat} (h : at_ < bs.length) : (bools bs)[at_]? = some (.bool ((bs.drop at_).headD false)) := by
  have : bs.drop at_ = bs[at_] :: bs.drop (at_ + 1) := List.drop_eq_getElem_cons h
  rw [this]
  simp [bools, List.getElem?_map, List.getElem?_eq_getElem h]
theorem head_lt {bs : List Bool} {at_ : Nat} (h : (bs.drop at_).headD false = true) : at_ < bs.length := by
  refine Decidable.byContradiction fun hn => ?_
  rw [List.drop_eq_nil_of_le (by omega)] at h
  cases h
theorem tail_drop {bs : List Bool} {at_ : Nat} : (bs.drop at_).tail = bs.drop (at_ + 1) := List.tail_drop
end Go.Proofs.YtfikjheicjamhaaDoor
end
section
/- A disk that is the document's, in all: what is seen, what lasts, what waits; kept by all that is done. No program walked. -/
set_option linter.unusedVariables false
set_option linter.unusedSimpArgs false
namespace Go.Proofs.YtfikjheicjamhaaDoor
open Go.Eng Go.Hx
theorem FSim.del {fs : Files} {l : List FP} (h : FSim fs l) (p : List UInt8) : FSim (adel fs p) (withoutF l p) := by
  refine ⟨srtd_filter _ h.ord, adel_nodup h.nd, fun q => ?_, fun x hx => ?_⟩
  · rw [aget_adel h.nd]
    have := lk_filter p l q
    unfold withoutF
    rw [this]
    by_cases hq : p = q
    · rw [if_pos hq, if_pos hq.symm]; rfl
    · rw [if_neg hq, if_neg (fun e => hq e.symm)]; exact h.look q
  · have h1 := adel_vals (List.mem_map.2 ⟨x, hx, rfl⟩)
    obtain ⟨y, hy, e⟩ := List.mem_map.1 h1
    rw [← e]; exact h.len y hy
theorem FSim.at {fs : Files} {l : List FP} (h : FSim fs l) (p : List UInt8) : (aget fs p = none ∧ l[findN l p]? = none) ∨ ∃ r x, aget fs p = some r ∧ l[findN l p]? = some x ∧ r.l = x.2 ∧ r.n = r.l.length := by
  have h1 := h.look p
  rw [← lk_find] at h1
  cases ha : aget fs p with
  | none =>
    rw [ha] at h1
    cases hb : l[findN l p]? with
    | none => exact .inl ⟨rfl, rfl⟩
    | some y => rw [hb] at h1; cases h1
  | some r =>
    rw [ha] at h1
    cases hb : l[findN l p]? with
    | none => rw [hb] at h1; cases h1
    | some y =>
      rw [hb] at h1
      exact .inr ⟨r, y, rfl, rfl, Option.some.inj h1, h.len _ (aget_mem ha)⟩
/-- a change, as the document has it -/
def Chg.rc : Chg → RC
  | .written p r => (0, p, [], r.l)
  | .renamed a c => (1, a, c, [])
  | .removed p => (2, p, [], [])
def Chg.wl (c : Chg) : Prop := ∀ r, c.row = some r → r.n = r.l.length
theorem FSim.apl {fs : Files} {l : List FP} (h : FSim fs l) {c : Chg} (hc : c.wl) : FSim (apl fs c) (makeF l c.rc.1 c.rc.2.1 c.rc.2.2.1 c.rc.2.2.2) := by
  cases c with
  | written p r =>
    rw [makeF]
    exact h.put (hc r rfl)
  | renamed a b =>
    rw [makeF]
    simp only [Chg.rc, Go.Proofs.YtfikjheicjamhaaDoor.apl]
    rcases h.at a with ⟨h1, h2⟩ | ⟨r, x, h1, h2, h3, h4⟩
    · simp only [h1, h2]; exact h
    · simp only [h1, h2]
      rw [← h3]
      exact (h.del a).put h4
  | removed p =>
    rw [makeF]
    simp only [Chg.rc, Go.Proofs.YtfikjheicjamhaaDoor.apl]
    rcases h.at p with ⟨h1, h2⟩ | ⟨r, x, h1, h2, h3, h4⟩
    · simp only [h2]
      have e : adel fs p = fs := by
        have hk : ¬ p ∈ akeys fs := aget_none.1 h1
        clear h h2 h1
        induction fs with
        | nil => rfl
        | cons a q ih =>
          obtain ⟨k, u⟩ := a
          simp only [akeys, List.map_cons, List.mem_cons, not_or] at hk
          simp only [adel]
          rw [if_neg (fun e => hk.1 e.symm), ih hk.2]
      rw [if_neg (by decide), e]; exact h
    · simp only [h2]
      rw [if_neg (by decide)]
      exact h.del p
/-- a disk is the document's -/
structure DS (st : DSt) (d : RD) (k : Nat) : Prop where
  sim : DSim st d
  ok : DOk st k
  low : -1 ≤ d.pw
  lasts : FSim st.lasts d.lasts
  waits : st.waits.map Chg.rc = d.waits
  wlen : ∀ c ∈ st.waits, c.wl
theorem DS.le {st : DSt} {d : RD} {k k' : Nat} (h : DS st d k) (hk : k ≤ k') : DS st d k' := ⟨h.sim, h.ok.le hk, h.low, h.lasts, h.waits, h.wlen⟩
theorem DS.rok {st : DSt} {d : RD} {k : Nat} (h : DS st d k) : ROk d k := by
  refine ⟨?_, ?_, ?_, by have := h.low; omega, ?_⟩
  · rw [← h.sim.files.len1]; exact h.ok.seen
  · rw [← h.sim.waits]; have := h.ok.rest; omega
  · rw [← h.sim.files.tot]; exact h.ok.tot
  · rw [← h.sim.power]; exact h.ok.power
theorem DS.init {n : Int} {gs gl : Nat} (h : n ≤ 1048576) : DS (dinit n gs gl) (RD.new n) 0 :=
  ⟨⟨rfl, rfl, FSim.nil, rfl⟩, DOk.init h, Int.le_refl _, FSim.nil, rfl, fun c hc => by cases hc⟩
theorem lessP_low {p : Int} (h : -1 ≤ p) : -1 ≤ lessP p := by
  unfold lessP
  split <;> omega
theorem DS.did {st : DSt} {d : RD} {k : Nat} (h : DS st d k) {c : Chg} (hc : c.wl) {st1 : DSt} (hs : st1.room = st.room ∧ st1.lasts = st.lasts ∧ st1.power = st.spent.power ∧ st1.seen = apl st.seen c ∧ st1.waits = st.waits ++ [c]) (ok : DOk st1 (k + 1)) :
    DS st1 (d.did c.rc.1 c.rc.2.1 c.rc.2.2.1 c.rc.2.2.2) (k + 1) := by
  obtain ⟨h1, h2, h3, h4, h5⟩ := hs
  refine ⟨⟨h1.trans h.sim.room, ?_, ?_, ?_⟩, ok, lessP_low h.low, ?_, ?_, fun x hx => ?_⟩
  · rw [h3]
    show (if 0 < st.power then st.power - 1 else st.power) = lessP d.pw
    rw [h.sim.power]; rfl
  · rw [h4]; exact h.sim.files.apl hc
  · rw [h5, List.length_append, h.sim.waits]
    show _ = (d.waits ++ [_]).length
    rw [List.length_append]; rfl
  · rw [h2]; exact h.lasts
  · rw [h5, List.map_append, h.waits]; rfl
  · rw [h5] at hx
    rcases List.mem_append.1 hx with hx | hx
    · exact h.wlen x hx
    · rw [List.mem_singleton.1 hx]; exact hc
/-- behind a Write, of both -/
theorem DS.write {st st1 : DSt} {d : RD} {k n : Nat} (h : DS st d k) {p l : List UInt8} {B A : Option Addr} {c1 c2 : Nat} (hl : l.length = n) (hn : n ≤ 1048576)
    (hw : (writeE st p n ≠ 0 ∧ st1 = st) ∨ (writeE st p n = 0 ∧ st1 = st.wrote p ⟨B, n, c1, l⟩ A c2)) : DS st1 (d.write p l) (k + 1) ∧ d.writeE p l = writeE st p n := by
  subst hl
  have e := h.sim.writeE p l
  refine ⟨?_, e.symm⟩
  unfold RD.write
  rw [← e]
  rcases hw with ⟨h1, rfl⟩ | ⟨h1, rfl⟩
  · rw [if_neg h1]; exact h.le (Nat.le_succ _)
  · rw [if_pos h1]
    exact h.did (c := .written p ⟨B, l.length, c1, l⟩) (fun r hr => by cases hr; rfl) ⟨rfl, rfl, rfl, rfl, rfl⟩ (h.ok.wrote hn A c2)
theorem DS.readE {st : DSt} {d : RD} {k : Nat} (h : DS st d k) (p : List UInt8) : d.readE p = foundE st p := (h.sim.readE p).symm
theorem DS.readB {st : DSt} {d : RD} {k : Nat} (h : DS st d k) (p : List UInt8) : d.readB p = readB st p := (h.sim.readB p).symm
theorem DS.rename {st st1 : DSt} {d : RD} {k : Nat} (h : DS st d k) {a c : List UInt8} {A : Option Addr} {j : Nat}
    (hw : (renameE st a c ≠ 0 ∧ st1 = st) ∨ (renameE st a c = 0 ∧ st1 = st.did (.renamed a c) A j)) : DS st1 (d.rename a c) (k + 1) ∧ d.renameE a c = renameE st a c := by
  have e : d.renameE a c = renameE st a c := by
    unfold RD.renameE Go.Proofs.YtfikjheicjamhaaDoor.renameE
    rw [h.readE]
  refine ⟨?_, e⟩
  unfold RD.rename
  rw [e]
  rcases hw with ⟨h1, rfl⟩ | ⟨h1, rfl⟩
  · rw [if_neg h1]; exact h.le (Nat.le_succ _)
  · rw [if_pos h1]
    exact h.did (c := .renamed a c) (fun r hr => by cases hr) ⟨rfl, rfl, rfl, rfl, rfl⟩ (h.ok.did rfl A j)
theorem DS.remove {st st1 : DSt} {d : RD} {k : Nat} (h : DS st d k) {p : List UInt8} {A : Option Addr} {j : Nat}
    (hw : (foundE st p ≠ 0 ∧ st1 = st) ∨ (foundE st p = 0 ∧ st1 = st.did (.removed p) A j)) : DS st1 (d.remove p) (k + 1) := by
  unfold RD.remove
  rw [h.readE]
  rcases hw with ⟨h1, rfl⟩ | ⟨h1, rfl⟩
  · rw [if_neg h1]; exact h.le (Nat.le_succ _)
  · rw [if_pos h1]
    exact h.did (c := .removed p) (fun r hr => by cases hr) ⟨rfl, rfl, rfl, rfl, rfl⟩ (h.ok.did rfl A j)
theorem DS.sync {st st1 : DSt} {d : RD} {k gl : Nat} (h : DS st d k) (hw : (st.power = 0 ∧ st1 = st) ∨ (st.power ≠ 0 ∧ st1 = st.synced gl)) : DS st1 d.sync k ∧ d.syncE = syncE st := by
  have e : d.syncE = syncE st := by unfold RD.syncE Go.Proofs.YtfikjheicjamhaaDoor.syncE; rw [h.sim.power]
  refine ⟨?_, e⟩
  unfold RD.sync
  rw [← h.sim.power]
  rcases hw with ⟨h1, rfl⟩ | ⟨h1, rfl⟩
  · rw [if_pos h1]; exact h
  · rw [if_neg h1]
    refine ⟨⟨h.sim.room, ?_, h.sim.files, rfl⟩, h.ok.synced gl, ?_, h.sim.files, rfl, fun c hc => by cases hc⟩
    · rfl
    · rw [h.sim.power]; exact lessP_low h.low
theorem DS.power {st : DSt} {d : RD} {k : Nat} (h : DS st d k) {n : Int} (hn : n ≤ 1000000000000) : DS (st.powered n) (d.power n) k := by
  refine ⟨⟨h.sim.room, rfl, h.sim.files, h.sim.waits⟩, ⟨?_, h.ok.room, h.ok.seen, h.ok.rest, h.ok.small⟩, ?_, h.lasts, h.waits, h.wlen⟩
  · show max n (-1) ≤ _; omega
  · show -1 ≤ max n (-1); omega
theorem rstep_sim {ks : List Bool} {L : Files} {l : List FP} {c : Chg} (h : FSim L l) (hc : c.wl) : (rstep (ks, L) c).1 = (dstep (ks, l) c.rc).1 ∧ FSim (rstep (ks, L) c).2 (dstep (ks, l) c.rc).2 := by
  unfold rstep dstep
  by_cases hb : ks.headD false = true
  · rw [if_pos hb, if_pos hb]
    cases c with
    | written p r =>
      rw [if_pos (show (Chg.rc (.written p r)).1 = 0 from rfl)]
      refine ⟨rfl, ?_⟩
      have hr := hc r rfl
      by_cases hb2 : ks.tail.headD false = true
      · simp only [hb2, if_true]
        exact h.apl hc
      · simp only [hb2, if_false]
        have e : (Chg.written p r.half).rc = (0, p, [], r.l.take (r.l.length / 2)) := by simp [Chg.rc, BRow.half, hr]
        have := h.apl (c := .written p r.half) (fun x hx => by cases hx; simp [BRow.half]; omega)
        rw [e] at this
        exact this
    | renamed a b => exact ⟨rfl, h.apl hc⟩
    | removed p => exact ⟨rfl, h.apl hc⟩
  · rw [if_neg hb, if_neg hb]
    exact ⟨rfl, h⟩
theorem fold_sim : ∀ (cs : List Chg) {ks : List Bool} {L : Files} {l : List FP}, FSim L l → (∀ c ∈ cs, c.wl) → (cs.foldl rstep (ks, L)).1 = ((cs.map Chg.rc).foldl dstep (ks, l)).1 ∧ FSim (cs.foldl rstep (ks, L)).2 ((cs.map Chg.rc).foldl dstep (ks, l)).2
  | [], ks, L, l, h, hc => ⟨rfl, h⟩
  | c :: r, ks, L, l, h, hc => by
    obtain ⟨h1, h2⟩ := rstep_sim (ks := ks) h (hc c (List.mem_cons_self ..))
    have e : dstep (ks, l) c.rc = ((rstep (ks, L) c).1, (dstep (ks, l) c.rc).2) := by rw [h1]
    rw [List.map_cons, List.foldl_cons, List.foldl_cons, e]
    exact fold_sim r h2 (fun x hx => hc x (List.mem_cons_of_mem _ hx))
theorem DS.restart {st : DSt} {d : RD} {k : Nat} (h : DS st d k) (keep : List Bool) (gs : Nat) : DS (st.started keep gs) (d.restart keep) k := by
  have hf := (fold_sim st.waits (ks := keep) h.lasts h.wlen).2
  rw [h.waits] at hf
  have e1 : rfold keep st st.waits.length = st.waits.foldl rstep (keep, st.lasts) := by rw [rfold, List.take_of_length_le (Nat.le_refl _)]
  have e2 : dfold keep d d.waits.length = d.waits.foldl dstep (keep, d.lasts) := by rw [dfold, List.take_of_length_le (Nat.le_refl _)]
  rw [← e1, ← e2] at hf
  exact ⟨⟨h.sim.room, rfl, hf, rfl⟩, h.ok.started keep gs, by show -1 ≤ (-1 : Int); omega, hf, rfl, fun c hc => by cases hc⟩
theorem DS.wbound {st : DSt} {d : RD} {k : Nat} (h : DS st d k) : ∀ c ∈ d.waits, c.2.2.2.length ≤ 1048576 := by
  intro c hc
  rw [← h.waits] at hc
  obtain ⟨x, hx, rfl⟩ := List.mem_map.1 hc
  cases x with
  | written p r =>
    have h1 := h.wlen _ hx r rfl
    have h2 := h.ok.small r (by unfold rowsOf; exact List.mem_append_right _ (List.mem_filterMap.2 ⟨_, hx, rfl⟩))
    show r.l.length ≤ _
    omega
  | renamed a b => exact Nat.zero_le _
  | removed p => exact Nat.zero_le _
theorem DS.lbound {st : DSt} {d : RD} {k : Nat} (h : DS st d k) : d.lasts.length ≤ k := by
  rw [← h.lasts.len1]; have := h.ok.rest; omega
/-- a disk of the document that some disk of the program could be -/
def RD.ok (d : RD) (k : Nat) : Prop := ∃ st, DS st d k
theorem DS.rdok {st : DSt} {d : RD} {k : Nat} (h : DS st d k) : d.ok k := ⟨st, h⟩
theorem RD.ok.rok {d : RD} {k : Nat} (h : d.ok k) : ROk d k := by obtain ⟨st, h⟩ := h; exact h.rok
theorem RD.ok.le {d : RD} {k k' : Nat} (h : d.ok k) (hk : k ≤ k') : d.ok k' := by obtain ⟨st, h⟩ := h; exact ⟨st, h.le hk⟩
theorem RD.ok.new {n : Int} (h : n ≤ 1048576) : (RD.new n).ok 0 := ⟨dinit n 0 0, DS.init h⟩
theorem RD.ok.write {d : RD} {k : Nat} (h : d.ok k) {p l : List UInt8} (hl : l.length ≤ 1048576) : (d.write p l).ok (k + 1) := by
  obtain ⟨st, h⟩ := h
  by_cases he : Go.Proofs.YtfikjheicjamhaaDoor.writeE st p l.length = 0
  · exact ⟨_, (h.write (st1 := st.wrote p ⟨none, l.length, 0, l⟩ none 0) rfl hl (.inr ⟨he, rfl⟩)).1⟩
  · exact ⟨_, (h.write (B := none) (A := none) (c1 := 0) (c2 := 0) (st1 := st) rfl hl (.inl ⟨he, rfl⟩)).1⟩
theorem RD.ok.rename {d : RD} {k : Nat} (h : d.ok k) {a c : List UInt8} : (d.rename a c).ok (k + 1) := by
  obtain ⟨st, h⟩ := h
  by_cases he : Go.Proofs.YtfikjheicjamhaaDoor.renameE st a c = 0
  · exact ⟨_, (h.rename (st1 := st.did (.renamed a c) none 0) (.inr ⟨he, rfl⟩)).1⟩
  · exact ⟨_, (h.rename (A := none) (j := 0) (st1 := st) (.inl ⟨he, rfl⟩)).1⟩
theorem RD.ok.remove {d : RD} {k : Nat} (h : d.ok k) {p : List UInt8} : (d.remove p).ok (k + 1) := by
  obtain ⟨st, h⟩ := h
  by_cases he : foundE st p = 0
  · exact ⟨_, h.remove (st1 := st.did (.removed p) none 0) (.inr ⟨he, rfl⟩)⟩
  · exact ⟨_, h.remove (A := none) (j := 0) (st1 := st) (.inl ⟨he, rfl⟩)⟩
theorem RD.ok.sync {d : RD} {k : Nat} (h : d.ok k) : d.sync.ok k := by
  obtain ⟨st, h⟩ := h
  by_cases he : st.power = 0
  · exact ⟨_, (h.sync (gl := 0) (st1 := st) (.inl ⟨he, rfl⟩)).1⟩
  · exact ⟨_, (h.sync (st1 := st.synced 0) (.inr ⟨he, rfl⟩)).1⟩
theorem RD.ok.power {d : RD} {k : Nat} (h : d.ok k) {n : Int} (hn : n ≤ 1000000000000) : (d.power n).ok k := by
  obtain ⟨st, h⟩ := h
  exact ⟨_, h.power hn⟩
theorem RD.ok.restart {d : RD} {k : Nat} (h : d.ok k) (keep : List Bool) : (d.restart keep).ok k := by
  obtain ⟨st, h⟩ := h
  exact ⟨_, h.restart keep 0⟩
end Go.Proofs.YtfikjheicjamhaaDoor
end
section
/- Contract: a disk's Restart where no removal waits. -/
set_option linter.unusedVariables false
set_option linter.unusedSimpArgs false
set_option maxRecDepth 20000
namespace Go.Proofs.YtfikjheicjamhaaDoor
open Go.Eng Go.Hx
/-- a restart, where no removal waits -/
theorem restartNC {g : Nat} {st : DSt} {A : Option Addr} {n c : Nat} {bs : List Bool} (hc : n ≤ c) (hR : ∀ c ∈ st.waits, ∀ p, c ≠ .removed p) (hs : Small st) (hw : st.waits.length ≤ 1000000) : Con Tryd.prog 33 [.pointer (some ⟨g, 0, none⟩), .slice A n c] [RDisk g st] [RRd 1 A n (bools bs)] (fun v_ X_ S_ => ∃ gs, v_ = (.tuple #[]) ∧ X_ = [RDisk g (st.started bs gs)] ∧ S_ = []) := by
  refine henter (N := 67) Tryd.func33 rfl rfl (by simp) fun b => ?_
  refine hfactC (fun m => rdX (m.rd 0 rfl)) ?_
  rintro ⟨hl_r, hA_r⟩
  refine hmemC (fun w m => (m.perm (takeR_perm [0] _ [_] _ rfl)).unpack) ?_
  refine hfactC (fun m => (m.ord 3 rfl).2.1) fun hwA => ?_
  refine hseq <| hreg <| ?_
  refine hx (xh_box rfl (fun g3 => ?_))
  refine hend <| hmemQ (X' := [_, _, _, _, _, _]) (S' := [_]) (fun _ m => m) <| hthen <| hseq <| hreg <| hy (fun _ => y_mkf rfl rfl) <| hy (fun _ => y_assign rfl) <| hend <| hsub (ρ' := [(4, _), (3, _), (0, _), (1, _)]) ⟨rfl, rfl, rfl, rfl, trivial⟩ <| hthen <| hseq <| hseq <| hreg <| hy (fun _ => y_move rfl) <| hy (fun _ => y_nilp rfl) <| hy (fun _ => y_fld rfl fa146_3 (by decide)) <| hy (fun m => y_ld1 rfl ag144 (ld_blk (m.blk 1 rfl) rfl)) <| hy (fun _ => y_lenS rfl Tryd.underlying144) <| hy (fun _ => y_move rfl) <| hend <| hsub (ρ' := [(15, _), (14, _), (13, _), (4, _), (3, _), (0, _), (1, _)]) ⟨rfl, rfl, rfl, rfl, rfl, rfl, rfl, trivial⟩ <| hthen <| hblock <| ?_
  refine hloop6 (fun i ks L A1 n1 c1 => st.waits.length - i) (fun i ks L A1 n1 c1 => [(15, .int .i64 (i : Nat))]) (fun i ks L A1 n1 c1 => [RBlk g3 72 [.slice A1 n1 c1], RMap SV st.gl (vals L)]) (fun i ks L A1 n1 c1 => [RRd 1 A1 n1 (bools ks)]) (fun i ks L A1 n1 c1 => n1 ≤ c1 ∧ i ≤ st.waits.length ∧ (ks, L) = rfold bs st i) 0 bs st.lasts A n c [(14, _), (13, _), (4, _), (3, _), (0, _), (1, _)] ⟨rfl, rfl, rfl, rfl, rfl, rfl, trivial⟩ [0, 2] rfl [0] rfl (⟨hc, Nat.zero_le _, by simp [rfold]⟩) ⟨rfl, trivial⟩ (fun i ks L A1 n1 c1 ⟨hc1, hi, hf⟩ => ?_)
  refine hseq <| hreg <| hy (fun _ => y_lss rfl rfl) <| hend <| hthen <| hseq <| ?_
  refine hif rfl (fun hlt => ?_) (fun hlt => ?_)
  · obtain ⟨cg, hcg⟩ : ∃ cg, st.waits[i]? = some cg := ⟨_, List.getElem?_eq_getElem (by omega)⟩
    have hfs := rfold_succ (keep := bs) hcg
    rw [← hf] at hfs
    refine hcskip <| hthen <| hseq <| hblock <| hseq <| hreg <| hy (fun _ => y_idxS1 rfl rfl Tryd.underlying144 sz148 hwA rfl (by omega)) <| hy (fun m => y_ld1 rfl ag148 ((m.ord 4 rfl).cell (j := i) (by rw [List.getElem?_map, hcg]; rfl))) <| hy (fun _ => y_assign rfl) <| hend <| hsub (ρ' := [(6, _), (16, _), (15, _), (14, _), (13, _), (4, _), (3, _), (0, _), (1, _)]) ⟨rfl, rfl, rfl, rfl, rfl, rfl, rfl, rfl, rfl, trivial⟩ <| hthen <| hseq <| hseq <| hreg <| hy (fun _ => y_move rfl) <| ?_
    refine hx (xh_callv rfl rfl Tryd.call87 (nextBitC (by omega)) [0] rfl [0] rfl ?_)
    rintro _ _ _ ⟨A12, n12, c12, rfl, rfl, rfl, hp⟩
    refine hfactL (fun m => rdX (m.rd 0 rfl)) ?_
    rintro ⟨hl_q, hA_q⟩
    refine hy (fun _ => (y_not rfl)) <| hend <| hsub (ρ' := [(21, _), (6, _), (16, _), (15, _), (14, _), (13, _), (4, _), (3, _), (0, _), (1, _)]) ⟨rfl, rfl, rfl, rfl, rfl, rfl, rfl, rfl, rfl, rfl, trivial⟩ <| hmemQ (X' := [_, _, _, _, _, _]) (S' := [_, _, _]) (fun _ m => m) <| hthen <| ?_
    refine hifb rfl (fun hb => ?_) (fun hb => ?_)
    · have hb' : ks.headD false = false := by simpa using hb
      refine hexit <| hthen_exit <| hqblock_exit <| hthen <| hreg <| hy (fun _ => y_add rfl rfl (w64 (by omega) (by omega))) <| hy (fun _ => y_move rfl) <| hend <| hsub (ρ' := [(15, _), (21, _), (6, _), (16, _), (14, _), (13, _), (4, _), (3, _), (0, _), (1, _)]) ⟨rfl, rfl, rfl, rfl, rfl, rfl, rfl, rfl, rfl, rfl, trivial⟩ <| ?_
      refine hnext6 (i + 1) ks.tail L A12 n12 c12 ⟨rfl, rfl, rfl, rfl, rfl, rfl, rfl, trivial⟩ [0, 0, 0, 0, 0, 0] rfl [0, 2] rfl (⟨hp, by omega, by rw [hfs]; unfold rstep; rw [if_neg (by rw [hb']; decide)]⟩) (by omega)
    · have hb' : ks.headD false = true := by simpa using hb
      rcases cg with ⟨p, r⟩ | ⟨a, c9⟩ | ⟨p⟩
      · have hrm : r ∈ rowsOf st := by
          unfold rowsOf
          exact List.mem_append_right _ (List.mem_filterMap.2 ⟨_, List.mem_of_getElem? hcg, rfl⟩)
        have hsr := hs r hrm
        obtain ⟨ri, hri⟩ := List.mem_iff_getElem?.1 hrm
        refine hfactC (fun m => rows_le (m.xres 5 rfl) hri) fun hrc => ?_
        refine hcskip <| hthen <| hseq <| hreg <| hy (fun _ => y_move rfl) <| hend <| hthen <| hblock <| hseq <| hreg <| hy (fun _ => y_tas rfl (show _ = Result.ok (Value.tuple #[.agg [SV p, r.val].toArray, .bool true]) _ by kernel_rfl)) <| hy (fun _ => y_extract rfl rfl) <| hy (fun _ => y_extract rfl rfl) <| hend <| hsub (ρ' := [(34, _), (33, _), (22, _), (21, _), (6, _), (16, _), (15, _), (14, _), (13, _), (4, _), (3, _), (0, _), (1, _)]) ⟨rfl, rfl, rfl, rfl, rfl, rfl, rfl, rfl, rfl, rfl, rfl, rfl, rfl, trivial⟩ <| hthen <| ?_
        refine hift rfl (rfl) ?_
        refine hseq <| hreg <| ?_
        refine hx (xh_alloc ti150 (fun g7 => ?_))
        refine hx0 (xh_stA 0 rfl rfl rfl sz150 rfl (by simp [SV, BRow.val, Value.oneCell']) rfl ?_)
        refine hend <| hmemQ (X' := [_, _, _, _, _, _, _]) (S' := [_, _, _]) (fun _ m => m) <| hthen <| hseq <| hseq <| hreg <| hy (fun _ => y_move rfl) <| ?_
        refine hx (xh_callv rfl rfl Tryd.call87 (nextBitC (by omega)) [1] rfl [0] rfl ?_)
        rintro _ _ _ ⟨A13, n13, c13, rfl, rfl, rfl, hp2⟩
        refine hfactL (fun m => rdX (m.rd 0 rfl)) ?_
        rintro ⟨hl_q2, hA_q2⟩
        refine hy (fun _ => (y_not rfl)) <| hend <| hsub (ρ' := [(37, _), (7, _), (34, _), (33, _), (22, _), (21, _), (6, _), (16, _), (15, _), (14, _), (13, _), (4, _), (3, _), (0, _), (1, _)]) ⟨rfl, rfl, rfl, rfl, rfl, rfl, rfl, rfl, rfl, rfl, rfl, rfl, rfl, rfl, rfl, trivial⟩ <| hmemQ (X' := [_, _, _, _, _, _, _]) (S' := [_, _, _, _]) (fun _ m => m) <| hthen <| ?_
        refine hifb rfl (fun hb2 => ?_) (fun hb2 => ?_)
        · have hb2' : ks.tail.headD false = false := by simpa using hb2
          refine hreg <| hy (fun _ => y_fld rfl fa150_1 (by decide)) <| hy (fun m => y_ld1 rfl ag32 (ld_blk (m.blk 1 rfl) rfl)) <| hy (fun _ => y_fld rfl fa150_1 (by decide)) <| hy (fun m => y_ld1 rfl ag32 (ld_blk (m.blk 1 rfl) rfl)) <| hy (fun _ => y_lenS rfl Tryd.underlying32) <| hy (fun _ => y_quo rfl rfl (by omega) (by omega) (w64 (by omega) (by omega))) <| hy (fun _ => y_slTo rfl rfl Tryd.underlying32 sz5 (show ((r.n / 2 : Nat) : Int) = _ by omega) (by omega)) <| hy (fun _ => y_fld rfl fa150_1 (by decide)) <| ?_
          refine hx0 (xh_st1a 1 rfl rfl rfl sz32 rfl (by first | exact Nat.le_of_ble_eq_true rfl | simp) ?_)
          refine hmemL (fun w m => m.eqX 0 rfl (show _ = RBlk g7 150 [SV p, r.half.val] from rfl)) ?_
          refine hend <| hsub (ρ' := [(37, _), (7, _), (34, _), (33, _), (22, _), (21, _), (6, _), (16, _), (15, _), (14, _), (13, _), (4, _), (3, _), (0, _), (1, _)]) ⟨rfl, rfl, rfl, rfl, rfl, rfl, rfl, rfl, rfl, rfl, rfl, rfl, rfl, rfl, rfl, trivial⟩ <| hmemQ (X' := [_, _, _, _, _, _, _]) (S' := [_, _, _, _]) (fun _ m => m) <| hthen <| hdrw [5] [(0, some 0), (1, some 0), (2, some 0), (3, some 0), (4, some 0), (5, none)] (by kernel_rfl) (by kernel_rfl) rfl 0 <| hty (fun m => y_ldN rfl ag150 sz150 (by simp) (m.blk 0 rfl).cells0) <| htyU (y_move rfl) <| htyU (y_nilp rfl) <| htyU (y_fld rfl fa146_2 (by decide)) <| hty (fun m => y_ld1 rfl ag143 (ld_blk (m.blk 3 rfl) rfl)) <| ?_
          refine htx (xh_call rfl Tryd.call88 (wmakeC) [2] rfl [] rfl ?_)
          rintro _ _ _ ⟨rfl, rfl, rfl⟩
          refine ⟨(fun h => absurd h (by decide)), ?_⟩
          refine htend <| hsub (ρ' := [(37, _), (7, _), (34, _), (33, _), (22, _), (21, _), (6, _), (16, _), (15, _), (14, _), (13, _), (4, _), (3, _), (0, _), (1, _)]) ⟨rfl, rfl, rfl, rfl, rfl, rfl, rfl, rfl, rfl, rfl, rfl, rfl, rfl, rfl, rfl, trivial⟩ <| hmemQ (X' := [_, _, _, _, _, _, _]) (S' := [_, _, _, _]) (fun _ m => m) <| hqblock <| hqblock <| hthen <| hreg <| hy (fun _ => y_add rfl rfl (w64 (by omega) (by omega))) <| hy (fun _ => y_move rfl) <| hend <| hsub (ρ' := [(15, _), (37, _), (7, _), (34, _), (33, _), (22, _), (21, _), (6, _), (16, _), (14, _), (13, _), (4, _), (3, _), (0, _), (1, _)]) ⟨rfl, rfl, rfl, rfl, rfl, rfl, rfl, rfl, rfl, rfl, rfl, rfl, rfl, rfl, rfl, trivial⟩ <| ?_
          refine hmemQ (fun w m => m.eqX 0 rfl (show _ = RMap SV st.gl (vals (aput L p r.half)) from congrArg (RMap SV st.gl) (vals_put _ _ _))) ?_
          refine hnext6 (i + 1) ks.tail.tail (aput L p r.half) A13 n13 c13 ⟨rfl, rfl, rfl, rfl, rfl, rfl, rfl, trivial⟩ [2, 0, 1, 1, 1, 1] rfl [0, 3] rfl (⟨hp2, by omega, by rw [hfs, rstep, if_pos hb', hb2']; rfl⟩) (by omega)
        · have hb2' : ks.tail.headD false = true := by simpa using hb2
          refine hcskip <| hthen <| hdrw [5] [(0, some 0), (1, some 0), (2, some 0), (3, some 0), (4, some 0), (5, none)] (by kernel_rfl) (by kernel_rfl) rfl 0 <| hty (fun m => y_ldN rfl ag150 sz150 (by simp) (m.blk 1 rfl).cells0) <| htyU (y_move rfl) <| htyU (y_nilp rfl) <| htyU (y_fld rfl fa146_2 (by decide)) <| hty (fun m => y_ld1 rfl ag143 (ld_blk (m.blk 3 rfl) rfl)) <| ?_
          refine htx (xh_call rfl Tryd.call88 (wmakeC) [2] rfl [] rfl ?_)
          rintro _ _ _ ⟨rfl, rfl, rfl⟩
          refine ⟨(fun h => absurd h (by decide)), ?_⟩
          refine htend <| hsub (ρ' := [(37, _), (7, _), (34, _), (33, _), (22, _), (21, _), (6, _), (16, _), (15, _), (14, _), (13, _), (4, _), (3, _), (0, _), (1, _)]) ⟨rfl, rfl, rfl, rfl, rfl, rfl, rfl, rfl, rfl, rfl, rfl, rfl, rfl, rfl, rfl, trivial⟩ <| hmemQ (X' := [_, _, _, _, _, _, _]) (S' := [_, _, _, _]) (fun _ m => m) <| hqblock <| hqblock <| hthen <| hreg <| hy (fun _ => y_add rfl rfl (w64 (by omega) (by omega))) <| hy (fun _ => y_move rfl) <| hend <| hsub (ρ' := [(15, _), (37, _), (7, _), (34, _), (33, _), (22, _), (21, _), (6, _), (16, _), (14, _), (13, _), (4, _), (3, _), (0, _), (1, _)]) ⟨rfl, rfl, rfl, rfl, rfl, rfl, rfl, rfl, rfl, rfl, rfl, rfl, rfl, rfl, rfl, trivial⟩ <| ?_
          refine hmemQ (fun w m => m.eqX 0 rfl (show _ = RMap SV st.gl (vals (aput L p r)) from congrArg (RMap SV st.gl) (vals_put _ _ _))) ?_
          refine hnext6 (i + 1) ks.tail.tail (aput L p r) A13 n13 c13 ⟨rfl, rfl, rfl, rfl, rfl, rfl, rfl, trivial⟩ [1, 0, 1, 1, 1, 1] rfl [0, 3] rfl (⟨hp2, by omega, by rw [hfs, rstep, if_pos hb', hb2']; rfl⟩) (by omega)
      · refine hcskip <| hthen <| hseq <| hreg <| hy (fun _ => y_move rfl) <| hend <| hthen <| hblock <| hseq <| hreg <| hy (fun _ => y_tas rfl (show _ = Result.ok (Value.tuple #[.agg [SV [], .slice none 0 0].toArray, .bool false]) _ by kernel_rfl)) <| hy (fun _ => y_extract rfl rfl) <| hy (fun _ => y_extract rfl rfl) <| hend <| hsub (ρ' := [(34, _), (33, _), (22, _), (21, _), (6, _), (16, _), (15, _), (14, _), (13, _), (4, _), (3, _), (0, _), (1, _)]) ⟨rfl, rfl, rfl, rfl, rfl, rfl, rfl, rfl, rfl, rfl, rfl, rfl, rfl, trivial⟩ <| hthen <| ?_
        refine hiff rfl (rfl) ?_
        refine hseq <| hreg <| hy (fun _ => y_assign rfl) <| hend <| hsub (ρ' := [(34, _), (33, _), (22, _), (21, _), (6, _), (16, _), (15, _), (14, _), (13, _), (4, _), (3, _), (0, _), (1, _)]) ⟨rfl, rfl, rfl, rfl, rfl, rfl, rfl, rfl, rfl, rfl, rfl, rfl, rfl, trivial⟩ <| hthen <| hdrw [8] [(0, some 0), (1, some 0), (2, some 0), (3, some 0), (4, some 0), (5, some 0), (6, some 0), (7, some 0), (8, none)] (by kernel_rfl) (by kernel_rfl) rfl 0 <| htyU (y_move rfl) <| htyU (y_move rfl) <| htyU (y_nilp rfl) <| htyU (y_fld rfl fa146_2 (by decide)) <| hty (fun m => y_ld1 rfl ag143 (ld_blk (m.blk 2 rfl) rfl)) <| htyU (y_mkf rfl rfl) <| htyU (y_nilm rfl (by kernel_rfl)) <| htyU (y_move rfl) <| ?_
        refine htx (xh_inv rfl rfl (fun w => by kernel_rfl) Tryd.call215 (nmakeC) [1] rfl [] rfl ?_)
        rintro _ _ _ ⟨rfl, rfl, rfl⟩
        refine ⟨(fun h => absurd h (by decide)), ?_⟩
        refine htend <| hsub (ρ' := [(34, _), (33, _), (22, _), (21, _), (6, _), (16, _), (15, _), (14, _), (13, _), (4, _), (3, _), (0, _), (1, _)]) ⟨rfl, rfl, rfl, rfl, rfl, rfl, rfl, rfl, rfl, rfl, rfl, rfl, rfl, trivial⟩ <| hmemQ (X' := [_, _, _, _, _, _]) (S' := [_, _, _]) (fun _ m => m) <| hqblock <| hqblock <| hthen <| hreg <| hy (fun _ => y_add rfl rfl (w64 (by omega) (by omega))) <| hy (fun _ => y_move rfl) <| hend <| hsub (ρ' := [(15, _), (34, _), (33, _), (22, _), (21, _), (6, _), (16, _), (14, _), (13, _), (4, _), (3, _), (0, _), (1, _)]) ⟨rfl, rfl, rfl, rfl, rfl, rfl, rfl, rfl, rfl, rfl, rfl, rfl, rfl, trivial⟩ <| ?_
        refine hnext6 (i + 1) ks.tail (apl L (.renamed a c9)) A12 n12 c12 ⟨rfl, rfl, rfl, rfl, rfl, rfl, rfl, trivial⟩ [1, 0, 0, 0, 0, 0] rfl [0, 2] rfl (⟨hp, by omega, by rw [hfs]; unfold rstep; rw [if_pos hb']; rfl⟩) (by omega)
      · exact absurd rfl (hR _ (List.mem_of_getElem? hcg) _)
  · obtain rfl : i = st.waits.length := by omega
    have hL : L = (rfold bs st st.waits.length).2 := by rw [← hf]
    refine hexit <| hthen_exit <| hthen_exit <| hqblock_exit <| hthen <| hreg <| hy (fun _ => y_move rfl) <| hy (fun _ => y_move rfl) <| hy (fun _ => y_move rfl) <| hy (fun _ => y_move rfl) <| hy (fun _ => y_nilp rfl) <| hy (fun _ => y_fld rfl fa146_2 (by decide)) <| hy (fun m => y_ld1 rfl ag143 (ld_blk (m.blk 2 rfl) rfl)) <| ?_
    refine hx (xh_call rfl Tryd.call89 (mcloneC) [1] rfl [] rfl ?_)
    rintro _ _ _ ⟨g1, rfl, rfl, rfl⟩
    refine hy (fun _ => y_nilp rfl) <| hy (fun _ => y_fld rfl fa146_1 (by decide)) <| ?_
    refine hx0 (xh_st1a 3 rfl rfl rfl sz143 rfl (by first | exact Nat.le_of_ble_eq_true rfl | simp) ?_)
    refine hy (fun _ => y_nilp rfl) <| hy (fun _ => y_fld rfl fa146_3 (by decide)) <| ?_
    refine hx0 (xh_st1a 0 rfl rfl rfl sz144 rfl (by first | exact Nat.le_of_ble_eq_true rfl | simp) ?_)
    refine hy (fun _ => y_nilp rfl) <| hy (fun _ => y_fld rfl fa146_4 (by decide)) <| ?_
    refine hx0 (xh_st1a 0 rfl rfl rfl sz3 rfl (by first | exact Nat.le_of_ble_eq_true rfl | simp) ?_)
    refine hend <| hsub (ρ' := [(16, _), (15, _), (14, _), (13, _), (4, _), (3, _), (0, _), (1, _)]) ⟨rfl, rfl, rfl, rfl, rfl, rfl, rfl, rfl, trivial⟩ <| hmemQ (X' := [_, _, _, _, _, _, _]) (S' := [_, _]) (fun _ m => m) <| ?_
    refine hmemQ (fun w m => m.addX (r' := ROwn 148 1 (.slice none 0 0) 0 []) (.refl _ _) (Own.nil _ _ _ _) (fun k hk => hk.elim)) ?_
    have e : ∀ gs, st.started bs gs = { st with gs := gs, seen := L, lasts := L, waits := [], wA := none, wc := 0, power := -1 } := fun gs => by rw [hL]; rfl
    refine hmemQ (fun w m => m.eqX 1 rfl (show _ = RBlk g 146 (dcells (st.started bs g1)) from rfl)) ?_
    refine hmemQ (fun w m => m.eqX 3 rfl (show _ = RMap SV g1 (vals (st.started bs g1).seen) from by rw [hL]; rfl)) ?_
    refine hmemQ (fun w m => m.eqX 3 rfl (show _ = RMap SV st.gl (vals (st.started bs g1).lasts) from by rw [hL]; rfl)) ?_
    refine hmemQ (X' := RRows (rowsOf (st.started bs g1)) :: _) (fun w m => (m.perm (takeR_perm [7] _ [_] _ rfl)).rowHalf (rows_started g1)) ?_
    refine hmemQ (X' := RDisk g (st.started bs g1) :: _) (fun w m => (m.perm (takeR_perm [3, 2, 1, 1, 0] _ [_, _, _, _, _] _ rfl)).pack) ?_
    exact hret0 trivial rfl [0] rfl [] rfl ⟨_, rfl, rfl, rfl⟩
end Go.Proofs.YtfikjheicjamhaaDoor
end
