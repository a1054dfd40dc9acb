/- Contracts: the document's disk (layer 12): names, files, sums. -/
import Derived.Test.YtflcokdkobhieaaDisk4
import Derived.Test.YtflcokdkobhieaaMem6
import Derived.Test.YtflcokdkobhieaaCells2
set_option linter.unusedVariables false
set_option linter.unusedSimpArgs false
set_option maxRecDepth 20000
namespace Go.Proofs.Ytflcokdkobhieaa
open Go.Eng Go.Hx
theorem y_sge {P : Program} {N : Nat} {D : List Deferred} {ρ : Env} {w : World} {x y : Operand} {ty t t' : TypeId} {a b : ByteArray} (hx : ev ρ x = some (.string a)) (hy : ev ρ y = some (.string b)) : Yl P N D ρ w (.binOp .geq t x y t') ty (.bool (!Op.bytesLess a.toList b.toList)) :=
  fun _ _ _ _ _ ha => by simp [execOp, ha.eval hx, ha.eval hy, eqGuard, binOp, Op.stringOp]
/-- a file: its name and its bytes -/
abbrev FP := List UInt8 × List UInt8
def fc (l : List FP) : List Value := l.flatMap fun x => [SV x.1, SV x.2]
theorem fc_len (l : List FP) : (fc l).length = l.length * 2 := by
  induction l with
  | nil => rfl
  | cons a r ih => simp only [fc, List.flatMap_cons, List.length_append, List.length_cons, List.length_nil] at ih ⊢; omega
theorem fc_append (a b : List FP) : fc (a ++ b) = fc a ++ fc b := by simp [fc]
theorem fc_get : ∀ (l : List FP) (i : Nat) (x : FP), l[i]? = some x → (fc l)[i * 2]? = some (SV x.1) ∧ (fc l)[i * 2 + 1]? = some (SV x.2)
  | [], i, x, h => by simp at h
  | a :: r, 0, x, h => by
    simp only [List.getElem?_cons_zero, Option.some.injEq] at h
    subst h
    exact ⟨rfl, rfl⟩
  | a :: r, i + 1, x, h => by
    have ih := fc_get r i x (by simpa using h)
    have e : fc (a :: r) = SV a.1 :: SV a.2 :: fc r := by simp [fc]
    rw [e, show (i + 1) * 2 = i * 2 + 2 by omega]
    exact ih
theorem fc_cells {w : World} {A : Option Addr} {n i : Nat} {l : List FP} {x : FP} (h : Rd w 2 A n (fc l)) (hx : l[i]? = some x) : ∀ (j : Nat) (u : Value), [SV x.1, SV x.2][j]? = some u → w.cell? (((A.getD d0).add (i * 2)).add j) = some u := by
  obtain ⟨g0, g1⟩ := fc_get l i x hx
  intro j u hu
  match j, hu with
  | 0, hu => cases hu; exact rd_fld h g0
  | 1, hu => cases hu; exact rd_fld h g1
  | j + 2, hu => simp at hu
theorem fc_one {l : List FP} : ∀ u ∈ fc l, u.oneCell' = true := by
  intro u hu
  obtain ⟨x, _, h⟩ := List.mem_flatMap.1 hu
  simp only [List.mem_cons, List.not_mem_nil, or_false] at h
  rcases h with rfl | rfl <;> rfl
theorem rnamedC {p : List UInt8} (hp : p.length ≤ 1000000000) : Con Try.prog 54 [.string (strOf p)] [] [] (fun v_ X_ S_ => v_ = (.bool (decide (Named p))) ∧ X_ = [] ∧ S_ = []) := by
  have hsz := strOf_size p
  refine henter (N := 22) Try.func54 rfl rfl (by simp) fun b => ?_
  refine hseq <| hreg <| hy (fun _ => y_assign rfl) <| hend <| hthen <| hseq <| hseq <| hreg <| hy (fun _ => y_assign rfl) <| hend <| hthen <| hblock <| ?_
  refine hloop1 (fun i => p.length - i) (fun i => [(3, .int .i64 (i : Nat))]) (fun i => []) (fun i => []) (fun i => i ≤ p.length ∧ ¬ (0 : UInt8) ∈ p.take i) 0 [(0, _)] ⟨rfl, trivial⟩ [] rfl [] rfl (⟨Nat.zero_le _, by simp⟩) ⟨rfl, trivial⟩ (fun i hI => ?_)
  obtain ⟨hip, hno⟩ := hI
  refine hseq <| hseq <| hreg <| hy (fun _ => y_move rfl) <| hy (fun _ => y_move rfl) <| hy (fun _ => y_lenStr rfl Try.underlying9) <| hy (fun _ => y_lss rfl rfl) <| hend <| hsub (ρ' := [(7, _), (3, _), (0, _)]) ⟨rfl, rfl, rfl, trivial⟩ <| hthen <| ?_
  refine hif rfl (fun h => ?_) (fun h => ?_)
  · have hil : i < p.length := by omega
    refine hcskip <| hthen <| hseq <| hblock <| hseq <| hreg <| hy (fun _ => y_move rfl) <| hy (fun _ => y_move rfl) <| hy (fun _ => y_idxStr rfl rfl Try.underlying9 rfl (strOf_at hil)) <| hy (fun _ => y_eql rfl rfl) <| hend <| hsub (ρ' := [(13, _), (7, _), (3, _), (0, _)]) ⟨rfl, rfl, rfl, rfl, trivial⟩ <| hthen <| ?_
    refine hif rfl (fun h0 => ?_) (fun h0 => ?_)
    · have h00 : p.getD i 0 = 0 := UInt8.toNat_inj.1 (by simpa using h0)
      refine hseq <| hreg <| hy (fun _ => y_assign rfl) <| hend <| hthen <| hret <| hqblock_ret <| hthen_ret <| hthen_ret <| hqblock_ret <| hthen_ret <| ?_
      exact hret1 trivial rfl rfl [] rfl [] rfl ⟨(congrArg Value.bool (decide_eq_false (fun hN => hN.2.2 (by rw [← h00]; rw [List.getD, List.getElem?_eq_getElem hil]; exact List.getElem_mem hil))).symm), rfl, rfl⟩
    · have hno2 : ¬ (0 : UInt8) ∈ p.take (i + 1) := fun hm => by
        rw [List.take_succ_eq_append_getElem hil] at hm
        rcases List.mem_append.1 hm with h1 | h1
        · exact hno h1
        · apply h0
          have := List.mem_singleton.1 h1
          rw [List.getD, List.getElem?_eq_getElem hil]
          simp [← this]
      refine hcskip <| hqblock <| hthen <| hreg <| hy (fun _ => y_move rfl) <| hy (fun _ => y_add rfl rfl (w64 (by omega) (by omega))) <| hy (fun _ => y_assign rfl) <| hend <| hsub (ρ' := [(3, _), (13, _), (7, _), (0, _)]) ⟨rfl, rfl, rfl, rfl, trivial⟩ <| ?_
      refine hnext1 (i + 1) ⟨rfl, rfl, trivial⟩ [] rfl [] rfl (⟨by omega, hno2⟩) (by omega)
  · obtain rfl : i = p.length := by omega
    rw [List.take_of_length_le (Nat.le_refl _)] at hno
    by_cases h1 : 0 < p.length
    · refine hexit <| hthen_exit <| hthen_exit <| hqblock_exit <| hthen <| hseq <| hreg <| hy (fun _ => y_move rfl) <| hy (fun _ => y_lenStr rfl Try.underlying9) <| hy (fun _ => yT (y_gtr rfl rfl) ((decide_eq_true (by omega)))) <| hy (fun _ => y_move rfl) <| hyg (o := _) rfl rfl rfl (fun _ => y_move rfl) <| hyg (o := _) rfl rfl rfl (fun _ => y_lenStr rfl Try.underlying9) <| hyg (o := _) rfl rfl rfl (fun _ => y_lss rfl rfl) <| hy (fun _ => y_pickT rfl rfl) <| hy (fun _ => y_assign rfl) <| hend <| hsub (ρ' := [(2, _), (7, _), (3, _), (0, _)]) ⟨rfl, rfl, rfl, rfl, trivial⟩ <| hthen <| hret <| ?_
      exact hret1 trivial rfl rfl [] rfl [] rfl ⟨(congrArg Value.bool (decide_eq_decide.2 ⟨fun h => ⟨fun e => by rw [e] at h1; exact absurd h1 (by decide), by omega, hno⟩, fun h => by have := h.2.1; omega⟩)), rfl, rfl⟩
    · refine hexit <| hthen_exit <| hthen_exit <| hqblock_exit <| hthen <| hseq <| hreg <| hy (fun _ => y_move rfl) <| hy (fun _ => y_lenStr rfl Try.underlying9) <| hy (fun _ => yF (y_gtr rfl rfl) ((decide_eq_false (by omega)))) <| hy (fun _ => y_move rfl) <| hskip rfl rfl rfl (by decide) <| hskip rfl rfl rfl (by decide) <| hskip rfl rfl rfl (by decide) <| hy (fun _ => y_pickF rfl rfl) <| hy (fun _ => y_assign rfl) <| hend <| hsub (ρ' := [(2, _), (7, _), (3, _), (0, _)]) ⟨rfl, rfl, rfl, rfl, trivial⟩ <| hthen <| hret <| ?_
      exact hret1 trivial rfl rfl [] rfl [] rfl ⟨(congrArg Value.bool (decide_eq_false (fun hN => hN.1 (List.eq_nil_of_length_eq_zero (by omega)))).symm), rfl, rfl⟩
/-- where a file stands -/
def findN (l : List FP) (p : List UInt8) : Nat := l.findIdx (fun x => decide (x.1 = p))
def findI (l : List FP) (p : List UInt8) : Int := if findN l p < l.length then (findN l p : Nat) else -1
theorem findN_at {l : List FP} {p : List UInt8} {i : Nat} {x : FP} (hx : l[i]? = some x) (h : x.1 = p) (hno : ∀ j, j < i → ∀ y, l[j]? = some y → y.1 ≠ p) : findN l p = i := by
  obtain ⟨hi, rfl⟩ := List.getElem?_eq_some_iff.1 hx
  unfold findN
  rw [List.findIdx_eq hi]
  exact ⟨by simpa using h, fun j hj => by simpa using hno j hj _ (List.getElem?_eq_getElem (by omega))⟩
theorem findN_no {l : List FP} {p : List UInt8} (hno : ∀ j, j < l.length → ∀ y, l[j]? = some y → y.1 ≠ p) : ¬ findN l p < l.length := by
  intro h
  have h1 := List.findIdx_getElem (w := h)
  exact hno _ h _ (List.getElem?_eq_getElem h) (of_decide_eq_true h1)
theorem rfindC {A : Option Addr} {n c : Nat} {l : List FP} {p : List UInt8} (hl : l.length = n) (hn : n ≤ 1000000000) : Con Try.prog 55 [.slice A n c, .string (strOf p)] [] [RRd 2 A n (fc l)] (fun v_ X_ S_ => v_ = (.int .i64 (findI l p)) ∧ X_ = [] ∧ S_ = []) := by
  refine henter (N := 20) Try.func55 rfl rfl (by simp) fun b => ?_
  refine hfactC (fun m => rdX (m.rd 0 rfl)) ?_
  rintro ⟨hl_r, hA_r⟩
  refine hseq <| hreg <| hy (fun _ => y_assign rfl) <| hend <| hthen <| hseq <| hseq <| hreg <| hy (fun _ => y_assign rfl) <| hend <| hthen <| hblock <| ?_
  refine hloop1 (fun i => n - i) (fun i => [(5, .int .i64 (i : Nat))]) (fun i => []) (fun i => []) (fun i => i ≤ n ∧ ∀ j, j < i → ∀ y, l[j]? = some y → y.1 ≠ p) 0 [(0, _), (1, _)] ⟨rfl, rfl, trivial⟩ [] rfl [] rfl (⟨Nat.zero_le _, fun j hj => absurd hj (Nat.not_lt_zero j)⟩) ⟨rfl, trivial⟩ (fun i hI => ?_)
  obtain ⟨hin, hno⟩ := hI
  refine hseq <| hseq <| hreg <| hy (fun _ => y_move rfl) <| hy (fun _ => y_move rfl) <| hy (fun _ => y_lenS rfl Try.underlying51) <| hy (fun _ => y_lss rfl rfl) <| hend <| hsub (ρ' := [(9, _), (5, _), (0, _), (1, _)]) ⟨rfl, rfl, rfl, rfl, trivial⟩ <| hthen <| ?_
  refine hif rfl (fun h => ?_) (fun h => ?_)
  · have hil : i < l.length := by omega
    obtain ⟨x, hx⟩ : ∃ x, l[i]? = some x := ⟨_, List.getElem?_eq_getElem hil⟩
    obtain ⟨g0, g1⟩ := fc_get l i x hx
    refine hcskip <| hthen <| hseq <| hblock <| hseq <| hreg <| hy (fun _ => y_move rfl) <| hy (fun _ => y_move rfl) <| hy (fun _ => y_idxS rfl rfl Try.underlying51 sz60 hA_r rfl (by omega)) <| hy (fun _ => y_fld rfl fa60_0 (by decide)) <| hy (fun m => yV (y_ld1 rfl ag9 (rd_fld (m.rd 0 rfl) g0)) ((rfl : _ = Value.string (strOf x.1)))) <| hy (fun _ => y_move rfl) <| hy (fun _ => y_seq rfl rfl) <| hend <| hsub (ρ' := [(18, _), (9, _), (5, _), (0, _), (1, _)]) ⟨rfl, rfl, rfl, rfl, rfl, trivial⟩ <| hthen <| ?_
    refine hif rfl (fun h0 => ?_) (fun h0 => ?_)
    · have he : x.1 = p := strOf_inj.1 h0
      have hN := findN_at hx he hno
      refine hseq <| hreg <| hy (fun _ => y_move rfl) <| hy (fun _ => y_assign rfl) <| hend <| hsub (ρ' := [(4, _), (18, _), (9, _), (5, _), (0, _), (1, _)]) ⟨rfl, rfl, rfl, rfl, rfl, rfl, trivial⟩ <| hthen <| hret <| hqblock_ret <| hthen_ret <| hthen_ret <| hqblock_ret <| hthen_ret <| ?_
      exact hret1 trivial rfl rfl [] rfl [] rfl ⟨(by rw [findI, hN, if_pos hil]), rfl, rfl⟩
    · have he : x.1 ≠ p := fun e => h0 (strOf_inj.2 e)
      have hno2 : ∀ j, j < i + 1 → ∀ y, l[j]? = some y → y.1 ≠ p := fun j hj y hy => by
        rcases Nat.lt_succ_iff_lt_or_eq.1 hj with h1 | h1
        · exact hno j h1 y hy
        · rw [h1, hx] at hy; cases hy; exact he
      refine hcskip <| hqblock <| hthen <| hreg <| hy (fun _ => y_move rfl) <| hy (fun _ => y_add rfl rfl (w64 (by omega) (by omega))) <| hy (fun _ => y_assign rfl) <| hend <| hsub (ρ' := [(5, _), (18, _), (9, _), (0, _), (1, _)]) ⟨rfl, rfl, rfl, rfl, rfl, trivial⟩ <| ?_
      refine hnext1 (i + 1) ⟨rfl, rfl, rfl, trivial⟩ [] rfl [0] rfl (⟨by omega, hno2⟩) (by omega)
  · obtain rfl : i = n := by omega
    refine hexit <| hthen_exit <| hthen_exit <| hqblock_exit <| hthen <| hseq <| hreg <| hy (fun _ => y_assign rfl) <| hend <| hthen <| hret <| ?_
    exact hret1 trivial rfl rfl [] rfl [] rfl ⟨(by rw [findI, if_neg (findN_no (fun j hj => hno j (by omega)))]), rfl, rfl⟩
def totF (l : List FP) : Nat := (l.map fun x => x.2.length).sum
theorem totF_take {l : List FP} {i : Nat} {x : FP} (h : l[i]? = some x) : totF (l.take (i + 1)) = totF (l.take i) + x.2.length := by
  obtain ⟨hi, rfl⟩ := List.getElem?_eq_some_iff.1 h
  rw [List.take_succ_eq_append_getElem hi]
  unfold totF
  rw [List.map_append, List.sum_append]
  simp
theorem totF_le (l : List FP) (i : Nat) : totF (l.take i) ≤ totF l := by
  have : totF l = totF (l.take i) + totF (l.drop i) := by
    conv => lhs; rw [← List.take_append_drop i l]
    simp only [totF, List.map_append, List.sum_append]
  omega
/-- a disk of the document, as a value -/
def dv (room : Int) (s l w : Value) (pw : Int) : List Value := [.int .i64 room, s, l, w, .int .i64 pw]
theorem rusedC {room pw : Int} {vl vw : Value} {A : Option Addr} {n c : Nat} {l : List FP} (hl : l.length = n) (hn : n ≤ 1000000000) (ht : totF l ≤ 1000000000000) : Con Try.prog 38 [.agg (dv room (.slice A n c) vl vw pw).toArray] [] [RRd 2 A n (fc l)] (fun v_ X_ S_ => v_ = (.int .i64 (totF l : Nat)) ∧ X_ = [] ∧ S_ = []) := by
  refine henter (N := 22) Try.func38 rfl rfl (by simp) fun b => ?_
  refine hfactC (fun m => rdX (m.rd 0 rfl)) ?_
  rintro ⟨hl_r, hA_r⟩
  refine hseq <| hreg <| ?_
  refine hx (xh_box rfl (fun g1 => ?_))
  refine hmemL (fun w m => m.eqX 0 rfl (show _ = RBlk g1 54 (dv room (.slice A n c) vl vw pw) from congrArg (RBlk _ _) (cells_agg _))) ?_
  refine hy (fun _ => y_assign rfl) <| hend <| hmemQ (X' := [_]) (S' := [_]) (fun _ m => m) <| hthen <| hseq <| hreg <| hy (fun _ => y_assign rfl) <| hend <| hthen <| hseq <| hseq <| hreg <| hy (fun _ => y_assign rfl) <| hend <| hthen <| hblock <| ?_
  refine hloop1 (fun i => n - i) (fun i => [(3, .int .i64 (totF (l.take i) : Nat)), (4, .int .i64 (i : Nat))]) (fun i => [RBlk g1 54 (dv room (.slice A n c) vl vw pw)]) (fun i => []) (fun i => i ≤ n) 0 [(2, _), (1, _), (0, _)] ⟨rfl, rfl, rfl, trivial⟩ [0] rfl [] rfl (Nat.zero_le _) ⟨rfl, rfl, trivial⟩ (fun i hI => ?_)
  refine hseq <| hseq <| hreg <| hy (fun _ => y_move rfl) <| hy (fun _ => y_fld rfl fa54_1 (by decide)) <| hy (fun m => y_ld1 rfl ag51 (ld_blk (m.blk 0 rfl) rfl)) <| hy (fun _ => y_lenS rfl Try.underlying51) <| hy (fun _ => y_lss rfl rfl) <| hend <| hsub (ρ' := [(9, _), (3, _), (4, _), (2, _), (1, _), (0, _)]) ⟨rfl, rfl, rfl, rfl, rfl, rfl, trivial⟩ <| hthen <| ?_
  refine hif rfl (fun h => ?_) (fun h => ?_)
  · have hil : i < l.length := by omega
    obtain ⟨x, hx⟩ : ∃ x, l[i]? = some x := ⟨_, List.getElem?_eq_getElem hil⟩
    obtain ⟨g0, g2⟩ := fc_get l i x hx
    have h1 := totF_take hx
    have h2 := totF_le l (i + 1)
    have hsz := strOf_size x.2
    refine hcskip <| hthen <| hseq <| hblock <| hreg <| hy (fun _ => y_move rfl) <| hy (fun _ => y_fld rfl fa54_1 (by decide)) <| hy (fun m => y_ld1 rfl ag51 (ld_blk (m.blk 0 rfl) (i := 1) rfl)) <| hy (fun _ => y_move rfl) <| hy (fun _ => y_idxS rfl rfl Try.underlying51 sz60 hA_r rfl (by omega)) <| hy (fun _ => y_fld rfl fa60_1 (by decide)) <| hy (fun m => yV (y_ld1 rfl ag9 (rd_fld (m.rd 0 rfl) g2)) ((rfl : _ = Value.string (strOf x.2)))) <| hy (fun _ => y_lenStr rfl Try.underlying9) <| hy (fun _ => yV (y_add rfl rfl (w64 (by omega) (by omega))) ((show Value.int .i64 ((totF (l.take i) : Nat) + ((strOf x.2).size : Nat)) = .int .i64 (totF (l.take (i + 1)) : Nat) by rw [hsz, h1]; rfl))) <| hy (fun _ => y_assign rfl) <| hend <| hsub (ρ' := [(3, _), (9, _), (4, _), (2, _), (1, _), (0, _)]) ⟨rfl, rfl, rfl, rfl, rfl, rfl, trivial⟩ <| hqblock <| hthen <| hreg <| hy (fun _ => y_move rfl) <| hy (fun _ => y_add rfl rfl (w64 (by omega) (by omega))) <| hy (fun _ => y_assign rfl) <| hend <| hsub (ρ' := [(4, _), (3, _), (9, _), (2, _), (1, _), (0, _)]) ⟨rfl, rfl, rfl, rfl, rfl, rfl, trivial⟩ <| ?_
    refine hnext1 (i + 1) ⟨rfl, rfl, rfl, rfl, rfl, trivial⟩ [0] rfl [0] rfl (by omega) (by omega)
  · obtain rfl : i = n := by omega
    refine hexit <| hthen_exit <| hthen_exit <| hqblock_exit <| hthen <| hseq <| hreg <| hy (fun _ => y_move rfl) <| hy (fun _ => y_assign rfl) <| hend <| hsub (ρ' := [(2, _), (9, _), (3, _), (4, _), (1, _), (0, _)]) ⟨rfl, rfl, rfl, rfl, rfl, rfl, trivial⟩ <| hthen <| hret <| ?_
    exact hret1 trivial rfl rfl [] rfl [] rfl ⟨(by rw [← hl, List.take_of_length_le (Nat.le_refl _)]), rfl, rfl⟩
theorem rwithoutC {A : Option Addr} {n c : Nat} {l : List FP} {p : List UInt8} (hl : l.length = n) (hn : n ≤ 1000000) : Con Try.prog 88 [.slice A n c, .string (strOf p)] [] [RRd 2 A n (fc l)] (fun v_ X_ S_ => ∃ v k, v_ = v ∧ X_ = [ROwn 60 2 v k (fc (l.filter fun x => decide (x.1 ≠ p)))] ∧ S_ = [] ∧ (k = (l.filter fun x => decide (x.1 ≠ p)).length)) := by
  refine henter (N := 28) Try.func88 rfl rfl (by simp) fun b => ?_
  refine hfactC (fun m => rdX (m.rd 0 rfl)) ?_
  rintro ⟨hl_r, hA_r⟩
  refine hseq <| hreg <| hy (fun _ => y_assign rfl) <| hend <| hthen <| hseq <| hreg <| hy (fun _ => y_assign rfl) <| hend <| hthen <| hseq <| hseq <| hreg <| hy (fun _ => y_assign rfl) <| hend <| hthen <| hblock <| ?_
  refine hmemC (fun w m => m.addX (r' := ROwn 60 2 (.slice none 0 0) 0 []) (.refl _ _) (Own.nil _ _ _ _) (fun k hk => hk.elim)) ?_
  refine hloop4 (fun i A1 k c1 => n - i) (fun i A1 k c1 => [(5, .slice A1 k c1), (6, .int .i64 (i : Nat))]) (fun i A1 k c1 => [ROwn 60 2 (.slice A1 k c1) k (fc ((l.take i).filter fun x => decide (x.1 ≠ p)))]) (fun i A1 k c1 => []) (fun i A1 k c1 => i ≤ n ∧ k = ((l.take i).filter fun x => decide (x.1 ≠ p)).length) 0 none 0 0 [(4, _), (0, _), (1, _)] ⟨rfl, rfl, rfl, trivial⟩ [0] rfl [] rfl (⟨Nat.zero_le _, rfl⟩) ⟨rfl, rfl, trivial⟩ (fun i A1 k c1 hI => ?_)
  obtain ⟨hin, hk⟩ := hI
  have hkl : ((l.take i).filter fun x => decide (x.1 ≠ p)).length ≤ i := Nat.le_trans (List.length_filter_le ..) (by rw [List.length_take]; omega)
  refine hseq <| hseq <| hreg <| hy (fun _ => y_move rfl) <| hy (fun _ => y_move rfl) <| hy (fun _ => y_lenS rfl Try.underlying51) <| hy (fun _ => y_lss rfl rfl) <| hend <| hsub (ρ' := [(10, _), (5, _), (6, _), (4, _), (0, _), (1, _)]) ⟨rfl, rfl, rfl, rfl, rfl, rfl, trivial⟩ <| hthen <| ?_
  refine hif rfl (fun h => ?_) (fun h => ?_)
  · have hil : i < l.length := by omega
    obtain ⟨x, hgx⟩ : ∃ x, l[i]? = some x := ⟨_, List.getElem?_eq_getElem hil⟩
    obtain ⟨g0, g2⟩ := fc_get l i x hgx
    have hts : (l.take (i + 1)).filter (fun x => decide (x.1 ≠ p)) = (l.take i).filter (fun x => decide (x.1 ≠ p)) ++ [x].filter (fun x => decide (x.1 ≠ p)) := by
      obtain ⟨hi, rfl⟩ := List.getElem?_eq_some_iff.1 hgx
      rw [List.take_succ_eq_append_getElem hi, List.filter_append]
    refine hcskip <| hthen <| hseq <| hblock <| hseq <| hreg <| hy (fun _ => y_move rfl) <| hy (fun _ => y_move rfl) <| hy (fun _ => y_idxS rfl rfl Try.underlying51 sz60 hA_r rfl (by omega)) <| hy (fun _ => y_fld rfl fa60_0 (by decide)) <| hy (fun m => yV (y_ld1 rfl ag9 (rd_fld (m.rd 0 rfl) g0)) ((rfl : _ = Value.string (strOf x.1)))) <| hy (fun _ => y_move rfl) <| hy (fun _ => y_sne rfl rfl) <| hend <| hsub (ρ' := [(19, _), (10, _), (5, _), (6, _), (4, _), (0, _), (1, _)]) ⟨rfl, rfl, rfl, rfl, rfl, rfl, rfl, trivial⟩ <| hthen <| ?_
    refine hif rfl (fun h0 => ?_) (fun h0 => ?_)
    · have hF : (l.take i).filter (fun x => decide (x.1 ≠ p)) ++ [x] = (l.take (i + 1)).filter (fun x => decide (x.1 ≠ p)) := by
        have hne : x.1 ≠ p := fun e => h0 (strOf_inj.2 e)
        rw [hts]; simp [hne]
      refine hreg <| hy (fun _ => y_move rfl) <| hy (fun _ => y_move rfl) <| hy (fun _ => y_move rfl) <| hy (fun _ => y_idxS rfl rfl Try.underlying51 sz60 hA_r rfl (by omega)) <| hy (fun m => yV (y_ldN rfl ag60 sz60 rfl (fc_cells (m.rd 0 rfl) hgx)) ((rfl : _ = Value.agg [SV x.1, SV x.2].toArray))) <| ?_
      refine hx (xh_bsl Try.underlying51 ti60 rfl rfl rfl (by simp [Value.cells, B8]) (by decide) (by decide) (fun g25 => ?_))
      have hA_b25 : 0 < 1 → (some (⟨g25, 0, none⟩ : Addr)) ≠ none := fun _ h => by cases h
      refine hmemL (fun w m => m.eqX 0 rfl (show _ = ROwn 60 2 (.slice (some ⟨g25, 0, none⟩) 1 1) 1 (fc [x]) from rfl)) ?_
      refine hx (xh_app 1 rfl rfl rfl Try.underlying51 Try.underlying51 (by exact .inl rfl) ti60 rfl (fun m => Src.of_rd (m.ord 0 rfl)) fc_one (by unfold maxLen; omega) (by omega) (fun u => ?_))
      refine hfactL (fun m => (m.own 0 rfl).slice) ?_
      rintro ⟨A_o, c_o, rfl, hc_o⟩
      refine hfactL (fun m => (m.ord 0 rfl).2.1) fun hA_o => ?_
      refine hmemL (fun w m => m.eqX 0 rfl (show _ = ROwn 60 2 (.slice A_o (k + 1) c_o) (k + 1) (fc ((l.take (i + 1)).filter fun x => decide (x.1 ≠ p))) from congrArg (ROwn _ _ _ _) ((fc_append ..).symm.trans (congrArg fc hF)))) ?_
      refine hy (fun _ => y_assign rfl) <| hend <| hsub (ρ' := [(5, _), (19, _), (10, _), (6, _), (4, _), (0, _), (1, _)]) ⟨rfl, rfl, rfl, rfl, rfl, rfl, rfl, trivial⟩ <| hmemQ (X' := [_, _]) (S' := [_]) (fun _ m => m) <| hqblock <| hthen <| hreg <| hy (fun _ => y_move rfl) <| hy (fun _ => y_add rfl rfl (w64 (by omega) (by omega))) <| hy (fun _ => y_assign rfl) <| hend <| hsub (ρ' := [(6, _), (5, _), (19, _), (10, _), (4, _), (0, _), (1, _)]) ⟨rfl, rfl, rfl, rfl, rfl, rfl, rfl, trivial⟩ <| ?_
      refine hnext4 (i + 1) A_o (k + 1) c_o ⟨rfl, rfl, rfl, rfl, rfl, trivial⟩ [0] rfl [0] rfl (⟨by omega, by rw [← hF, hk, List.length_append]; rfl⟩) (by omega)
    · have hF : (l.take (i + 1)).filter (fun x => decide (x.1 ≠ p)) = (l.take i).filter (fun x => decide (x.1 ≠ p)) := by
        have hne : x.1 = p := strOf_inj.1 (Decidable.not_not.1 h0)
        rw [hts]; simp [hne]
      refine hmemC (fun w m => m.eqX 0 rfl (show _ = ROwn 60 2 (.slice A1 k c1) k (fc ((l.take (i + 1)).filter fun x => decide (x.1 ≠ p))) from by rw [hF])) ?_
      refine hcskip <| hqblock <| hthen <| hreg <| hy (fun _ => y_move rfl) <| hy (fun _ => y_add rfl rfl (w64 (by omega) (by omega))) <| hy (fun _ => y_assign rfl) <| hend <| hsub (ρ' := [(6, _), (19, _), (10, _), (5, _), (4, _), (0, _), (1, _)]) ⟨rfl, rfl, rfl, rfl, rfl, rfl, rfl, trivial⟩ <| ?_
      refine hnext4 (i + 1) A1 k c1 ⟨rfl, rfl, rfl, rfl, rfl, trivial⟩ [0] rfl [0] rfl (⟨by omega, by rw [hF]; exact hk⟩) (by omega)
  · obtain rfl : i = n := by omega
    rw [← hl, List.take_of_length_le (Nat.le_refl _)] at hk
    refine hmemC (fun w m => m.eqX 0 rfl (show _ = ROwn 60 2 (.slice A1 k c1) k (fc (l.filter fun x => decide (x.1 ≠ p))) from by rw [← hl, List.take_of_length_le (Nat.le_refl _)])) ?_
    refine hexit <| hthen_exit <| hthen_exit <| hqblock_exit <| hthen <| hseq <| hreg <| hy (fun _ => y_move rfl) <| hy (fun _ => y_assign rfl) <| hend <| hsub (ρ' := [(4, _), (10, _), (5, _), (6, _), (0, _), (1, _)]) ⟨rfl, rfl, rfl, rfl, rfl, rfl, trivial⟩ <| hthen <| hret <| ?_
    exact hret1 trivial rfl rfl [0] rfl [] rfl ⟨_, _, rfl, rfl, rfl, hk⟩
end Go.Proofs.Ytflcokdkobhieaa
