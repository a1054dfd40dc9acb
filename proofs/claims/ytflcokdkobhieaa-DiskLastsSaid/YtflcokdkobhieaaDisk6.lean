/- The law DiskPower, computed. -/
import Derived.Test.YtflcokdkobhieaaDisk4
import Derived.Test.YtflcokdkobhieaaPlainCrc
set_option linter.unusedVariables false
set_option linter.unusedSimpArgs false
set_option maxRecDepth 20000
namespace Go.Proofs.Ytflcokdkobhieaa
open Go.Eng Go.Hx
def DSt.powered (st : DSt) (n : Int) : DSt := { st with power := max n (-1) }
theorem powerC {g : Nat} {st : DSt} {n : Int} : Con Try.prog 30 [.pointer (some ⟨g, 0, none⟩), .int .i64 n] [RDisk g st] [] (fun v_ X_ S_ => v_ = (.tuple #[]) ∧ X_ = [RDisk g (st.powered n)] ∧ S_ = []) := by
  refine henter (N := 9) Try.func30 rfl rfl (by simp) fun b => ?_
  refine hmemC (fun w m => (m.perm (takeR_perm [0] _ [_] _ rfl)).unpack) ?_
  refine hreg <| hy (fun _ => y_move rfl) <| hy (fun _ => y_move rfl) <| hy (fun _ => y_max rfl rfl) <| hy (fun _ => y_nilp rfl) <| hy (fun _ => y_fld rfl fa91_4 (by decide)) <| ?_
  refine hx0 (xh_st1a 0 rfl rfl rfl sz3 rfl (by first | exact Nat.le_of_ble_eq_true rfl | simp) ?_)
  refine hend <| hsub (ρ' := [(0, _), (1, _)]) ⟨rfl, rfl, trivial⟩ <| hmemQ (X' := [_, _, _, _, _]) (S' := []) (fun _ m => m) <| ?_
  refine hmemQ (fun w m => m.eqX 0 rfl (show _ = RBlk g 91 (dcells (st.powered n)) from by simp [dcells, DSt.powered])) ?_
  refine hmemQ (X' := RDisk g (st.powered n) :: _) (fun w m => (m.perm (takeR_perm [0, 0, 0, 0, 0] _ [_, _, _, _, _] _ rfl)).pack) ?_
  exact hret0 trivial rfl [0] rfl [] rfl ⟨rfl, rfl, rfl⟩
theorem waitsC {g : Nat} {st : DSt} : Con Try.prog 34 [.pointer (some ⟨g, 0, none⟩)] [RDisk g st] [] (fun v_ X_ S_ => v_ = (.int .i64 (st.waits.length : Nat)) ∧ X_ = [RDisk g st] ∧ S_ = []) := by
  refine henter (N := 8) Try.func34 rfl rfl (by simp) fun b => ?_
  refine hmemC (fun w m => (m.perm (takeR_perm [0] _ [_] _ rfl)).unpack) ?_
  refine hseq <| hreg <| hy (fun _ => y_assign rfl) <| hend <| hthen <| hseq <| hreg <| hy (fun _ => y_move rfl) <| hy (fun _ => y_nilp rfl) <| hy (fun _ => y_fld rfl fa91_3 (by decide)) <| hy (fun m => y_ld1 rfl ag89 (ld_blk (m.blk 0 rfl) rfl)) <| hy (fun _ => y_lenS rfl Try.underlying89) <| hy (fun _ => y_assign rfl) <| hend <| hsub (ρ' := [(2, _), (0, _)]) ⟨rfl, rfl, trivial⟩ <| hthen <| hret <| ?_
  refine hmemQ (X' := RDisk g st :: _) (fun w m => (m.perm (takeR_perm [0, 0, 0, 0, 0] _ [_, _, _, _, _] _ rfl)).pack) ?_
  exact hret1 trivial rfl rfl [0] rfl [] rfl ⟨rfl, rfl, rfl⟩
theorem removeNoC {g : Nat} {st : DSt} {p : List UInt8} (he : foundE st p ≠ 0) : Con Try.prog 33 [.pointer (some ⟨g, 0, none⟩), .string (strOf p)] [RDisk g st] [] (fun v_ X_ S_ => v_ = (.int .i64 (foundE st p)) ∧ X_ = [RDisk g st] ∧ S_ = []) := by
  refine henter (N := 17) Try.func33 rfl rfl (by simp) fun b => ?_
  refine hseq <| hreg <| hy (fun _ => y_assign rfl) <| hend <| hthen <| hseq <| hseq <| hreg <| hy (fun _ => y_move rfl) <| hy (fun _ => y_move rfl) <| ?_
  refine hx (xh_call rfl Try.call63 (foundC) [0] rfl [] rfl ?_)
  rintro _ _ _ ⟨rfl, rfl, rfl⟩
  refine hy (fun _ => y_assign rfl) <| hend <| hsub (ρ' := [(5, _), (4, _), (0, _), (1, _)]) ⟨rfl, rfl, rfl, rfl, trivial⟩ <| hmemQ (X' := [_]) (S' := []) (fun _ m => m) <| hthen <| hseq <| hreg <| hy (fun _ => y_move rfl) <| hy (fun _ => y_neq rfl rfl) <| hend <| hsub (ρ' := [(10, _), (5, _), (4, _), (0, _), (1, _)]) ⟨rfl, rfl, rfl, rfl, rfl, trivial⟩ <| hthen <| ?_
  refine hift rfl ((decide_eq_true he)) ?_
  refine hseq <| hreg <| hy (fun _ => y_move rfl) <| hy (fun _ => y_assign rfl) <| hend <| hsub (ρ' := [(4, _), (10, _), (5, _), (0, _), (1, _)]) ⟨rfl, rfl, rfl, rfl, rfl, trivial⟩ <| hthen <| hret <| hthen_ret <| ?_
  exact hret1 trivial rfl rfl [0] rfl [] rfl ⟨rfl, rfl, rfl⟩
theorem tot_aput' : ∀ (l : Files) (p : List UInt8) (r : BRow), tot (aput l p r) + ((aget l p).map (·.n)).getD 0 = tot l + r.n
  | [], p, r => by simp [aput, aget, tot]
  | (k, u) :: q, p, r => by
    have := tot_aput' q p r
    simp only [aput, aget]
    split
    · simp [tot]; omega
    · simp only [tot, List.map_cons, List.sum_cons] at this ⊢
      omega
def nn : List UInt8 := [110, 111, 110, 101]
def szA (st : DSt) : Nat := ((aget st.seen [97]).map (·.n)).getD 0
/-- what the loop keeps -/
structure PInv (st : DSt) (i k : Nat) : Prop where
  room : st.room = 100
  power : st.power = ((k - i : Nat) : Int)
  waits : st.waits.length = min i k
  wr : Wr st
  lasts : st.lasts = []
  nno : aget st.seen nn = none
  ttt : tot st.seen = szA st ∧ szA st ≤ 1
theorem PInv.init {k gs gl : Nat} : PInv ((dinit 100 gs gl).powered k) 0 k := ⟨rfl, by simp [DSt.powered]; omega, by simp [DSt.powered, dinit], fun c hc => (by cases hc), rfl, rfl, rfl, Nat.zero_le _⟩
theorem PInv.more {st : DSt} {i k : Nat} (h : PInv st i k) (hi : i < k) {r : BRow} (hr : r.n = 1) {A : Option Addr} {c : Nat} : PInv (st.wrote [97] r A c) (i + 1) k := by
  have h4 := tot_aput' st.seen [97] r
  have ht := h.ttt
  have hs : szA (st.wrote [97] r A c) = 1 := by
    show ((aget (aput st.seen [97] r) [97]).map (·.n)).getD 0 = 1
    rw [aget_aput, if_pos rfl]; exact hr
  refine ⟨h.room, ?_, ?_, ?_, h.lasts, ?_, ?_, by omega⟩
  · have := h.power
    show (if 0 < st.power then st.power - 1 else st.power) = _
    rw [if_pos (by omega)]; omega
  · have := h.waits
    show (st.waits ++ [Chg.written [97] r]).length = _
    rw [List.length_append]; simp; omega
  · intro c hc
    rcases List.mem_append.1 (show c ∈ st.waits ++ [Chg.written [97] r] from hc) with h' | h'
    · exact h.wr c h'
    · exact ⟨_, _, List.mem_singleton.1 h'⟩
  · show aget (aput st.seen [97] r) nn = _
    rw [aget_aput, if_neg (by decide)]; exact h.nno
  · rw [hs]
    show tot (aput st.seen [97] r) = 1
    have : ((aget st.seen [97]).map (·.n)).getD 0 = szA st := rfl
    omega
theorem PInv.stay {st : DSt} {i k : Nat} (h : PInv st i k) (hi : k ≤ i) : PInv st (i + 1) k := ⟨h.room, by rw [h.power, show k - (i + 1) = k - i by omega], by rw [h.waits]; omega, h.wr, h.lasts, h.nno, h.ttt⟩
theorem PInv.write {st : DSt} {i k : Nat} (h : PInv st i k) : writeE st [97] 1 = if i < k then 0 else 6 := by
  have h1 := h.ttt
  have h2 := h.power
  have h3 := h.room
  have h4 : ((aget st.seen [97]).map (·.n)).getD 0 = szA st := rfl
  rw [writeE, if_neg (not_not_intro (named1 (by decide))), h4]
  by_cases hi : i < k
  · rw [if_neg (by omega), if_neg (by omega), if_pos hi]
  · rw [if_pos (by omega), if_neg hi]
theorem PInv.found {st : DSt} {i k : Nat} (h : PInv st i k) : foundE st nn = if i < k then 4 else 6 := by
  have h2 := h.power
  rw [foundE]
  by_cases hi : i < k
  · rw [if_neg (by omega), if_pos h.nno, if_pos hi]
  · rw [if_pos (by omega), if_neg hi]
theorem rfold_nil (st : DSt) (i : Nat) : rfold [] st i = ([], st.lasts) := by
  induction i with
  | zero => rfl
  | succ i ih =>
    cases hc : st.waits[i]? with
    | none =>
      have : rfold [] st (i + 1) = rfold [] st i := by
        unfold rfold
        have := List.getElem?_eq_none_iff.1 hc
        rw [List.take_of_length_le (by omega), List.take_of_length_le this]
      rw [this, ih]
    | some c => rw [rfold_succ hc, ih]; rfl
theorem started_nil (st : DSt) (gs : Nat) (h : st.lasts = []) : (st.started [] gs).seen = [] ∧ (st.started [] gs).lasts = [] ∧ (st.started [] gs).waits = [] ∧ (st.started [] gs).power = -1 ∧ (st.started [] gs).room = st.room := by
  refine ⟨?_, ?_, rfl, rfl, rfl⟩ <;> (show (rfold [] st st.waits.length).2 = []; rw [rfold_nil]; exact h)
theorem insNoC  : Con Try.prog 97 [.slice none 0 0, .int .i64 0, .int .i64 0] [] [] (fun v_ X_ S_ => v_ = (.tuple #[]) ∧ X_ = [] ∧ S_ = []) := by
  refine henter (N := 49) Try.func97 rfl rfl (by simp) fun b => ?_
  refine hseq <| hreg <| hy (fun _ => y_move rfl) <| hy (fun _ => y_add rfl rfl (w64 (by omega) (by omega))) <| hy (fun _ => y_assign rfl) <| hend <| hsub (ρ' := [(6, _), (0, _), (1, _), (2, _)]) ⟨rfl, rfl, rfl, rfl, trivial⟩ <| hthen <| hblock <| ?_
  refine hloop1 (fun u => 0) (fun u => [(6, .int .i64 1)]) (fun u => []) (fun u => []) (fun u => u = 0) 0 [(0, _), (1, _), (2, _)] ⟨rfl, rfl, rfl, trivial⟩ [] rfl [] rfl (rfl) ⟨rfl, trivial⟩ (fun u hI => ?_)
  refine hseq <| hseq <| hreg <| hy (fun _ => y_move rfl) <| hy (fun _ => y_move rfl) <| hy (fun _ => y_lss rfl rfl) <| hend <| hsub (ρ' := [(12, _), (6, _), (0, _), (1, _), (2, _)]) ⟨rfl, rfl, rfl, rfl, rfl, trivial⟩ <| hthen <| ?_
  refine hiff rfl (rfl) ?_
  refine hexit <| hthen_exit <| hthen_exit <| hqblock_exit <| ?_
  exact hret0 trivial rfl [] rfl [] rfl ⟨rfl, rfl, rfl⟩
theorem len64NoC  : Con Try.prog 107 [.int .u64 0] [] [] (fun v_ X_ S_ => v_ = (.int .i64 0) ∧ X_ = [] ∧ S_ = []) := by
  refine henter (N := 25) Try.func107 rfl rfl (by simp) fun b => ?_
  refine hseq <| hreg <| hy (fun _ => y_assign rfl) <| hend <| hthen <| hseq <| hseq <| hreg <| hy (fun _ => y_move rfl) <| hy (fun _ => y_geq rfl rfl) <| hend <| hsub (ρ' := [(4, _), (2, _), (0, _)]) ⟨rfl, rfl, rfl, trivial⟩ <| hthen <| ?_
  refine hiff rfl (rfl) ?_
  refine hcskip <| hthen <| hseq <| hseq <| hreg <| hy (fun _ => y_move rfl) <| hy (fun _ => y_geq rfl rfl) <| hend <| hsub (ρ' := [(8, _), (4, _), (2, _), (0, _)]) ⟨rfl, rfl, rfl, rfl, trivial⟩ <| hthen <| ?_
  refine hiff rfl (rfl) ?_
  refine hcskip <| hthen <| hseq <| hseq <| hreg <| hy (fun _ => y_move rfl) <| hy (fun _ => y_geq rfl rfl) <| hend <| hsub (ρ' := [(14, _), (8, _), (4, _), (2, _), (0, _)]) ⟨rfl, rfl, rfl, rfl, rfl, trivial⟩ <| hthen <| ?_
  refine hiff rfl (rfl) ?_
  refine hcskip <| hthen <| hseq <| hreg <| hy (fun _ => y_move rfl) <| hy (fun _ => y_move rfl) <| hy (fun _ => y_conv rfl Try.underlying159 Try.underlying5 (show IntKind.u8.wrap 0 = 0 from rfl)) <| hy (fun _ => y_idxStr rfl rfl Try.underlying9 (show ((0 : Nat) : Int) = 0 from rfl) (show _ = some (0 : UInt8) from rfl)) <| hy (fun _ => y_conv rfl Try.underlying5 Try.underlying3 (show IntKind.i64.wrap ((0 : UInt8).toNat : Int) = 0 from rfl)) <| hy (fun _ => y_add rfl rfl (w64 (by omega) (by omega))) <| hy (fun _ => y_assign rfl) <| hend <| hsub (ρ' := [(2, _), (14, _), (8, _), (4, _), (0, _)]) ⟨rfl, rfl, rfl, rfl, rfl, trivial⟩ <| hthen <| hret <| ?_
  exact hret1 trivial rfl rfl [] rfl [] rfl ⟨rfl, rfl, rfl⟩
theorem lenNoC  : Con Try.prog 86 [.int .u64 0] [] [] (fun v_ X_ S_ => v_ = (.int .i64 0) ∧ X_ = [] ∧ S_ = []) := by
  refine henter (N := 8) Try.func86 rfl rfl (by simp) fun b => ?_
  refine hseq <| hreg <| hy (fun _ => y_assign rfl) <| hend <| hthen <| hseq <| ?_
  refine hiff rfl (rfl) ?_
  refine hcskip <| hthen <| hseq <| hreg <| hy (fun _ => y_move rfl) <| ?_
  refine hx (xh_call rfl Try.call107 (len64NoC) [] rfl [] rfl ?_)
  rintro _ _ _ ⟨rfl, rfl, rfl⟩
  refine hy (fun _ => y_assign rfl) <| hend <| hsub (ρ' := [(2, _), (0, _)]) ⟨rfl, rfl, trivial⟩ <| hmemQ (X' := []) (S' := []) (fun _ m => m) <| hthen <| hret <| ?_
  exact hret1 trivial rfl rfl [] rfl [] rfl ⟨rfl, rfl, rfl⟩
theorem pdqNoC  : Con Try.prog 85 [.slice none 0 0, .int .i64 0, .int .i64 0, .int .i64 0] [] [] (fun v_ X_ S_ => v_ = (.tuple #[]) ∧ X_ = [] ∧ S_ = []) := by
  refine henter (N := 134) Try.func85 rfl rfl (by simp) fun b => ?_
  refine hseq <| hreg <| hy (fun _ => y_assign rfl) <| hend <| hthen <| hseq <| hreg <| hy (fun _ => y_assign rfl) <| hend <| hthen <| hblock <| ?_
  refine hloop1 (fun u => 0) (fun u => [(1, .int .i64 0), (2, .int .i64 0)]) (fun u => []) (fun u => []) (fun u => u = 0) 0 [(0, _)] ⟨rfl, trivial⟩ [] rfl [] rfl (rfl) ⟨rfl, rfl, trivial⟩ (fun u hI => ?_)
  refine hblock <| hseq <| hreg <| hy (fun _ => y_move rfl) <| hy (fun _ => y_move rfl) <| hy (fun _ => y_sub rfl rfl (w64 (by omega) (by omega))) <| hy (fun _ => y_assign rfl) <| hend <| hsub (ρ' := [(10, _), (1, _), (2, _), (0, _)]) ⟨rfl, rfl, rfl, rfl, trivial⟩ <| hthen <| hseq <| hseq <| hreg <| hy (fun _ => y_move rfl) <| hy (fun _ => y_leq rfl rfl) <| hend <| hsub (ρ' := [(23, _), (10, _), (1, _), (2, _), (0, _)]) ⟨rfl, rfl, rfl, rfl, rfl, trivial⟩ <| hthen <| ?_
  refine hift rfl (rfl) ?_
  refine hseq <| hreg <| hy (fun _ => y_move rfl) <| hy (fun _ => y_move rfl) <| hy (fun _ => y_move rfl) <| ?_
  refine hx (xh_call rfl Try.call97 (insNoC) [] rfl [] rfl ?_)
  rintro _ _ _ ⟨rfl, rfl, rfl⟩
  refine hend <| hsub (ρ' := [(23, _), (10, _), (1, _), (2, _), (0, _)]) ⟨rfl, rfl, rfl, rfl, rfl, trivial⟩ <| hmemQ (X' := []) (S' := []) (fun _ m => m) <| hthen <| hret <| hthen_ret <| hqblock_ret <| hthen_ret <| hqblock_ret <| ?_
  exact hret0 trivial rfl [] rfl [] rfl ⟨rfl, rfl, rfl⟩
theorem sortNoC  : Con Try.prog 61 [.slice none 0 0] [] [] (fun v_ X_ S_ => v_ = (.tuple #[]) ∧ X_ = [] ∧ S_ = []) := by
  refine henter (N := 11) Try.func61 rfl rfl (by simp) fun b => ?_
  refine hseq <| hreg <| hy (fun _ => y_move rfl) <| hy (fun _ => y_lenS rfl Try.underlying48) <| hy (fun _ => y_assign rfl) <| hend <| hsub (ρ' := [(2, _), (0, _)]) ⟨rfl, rfl, trivial⟩ <| hthen <| hreg <| hy (fun _ => y_move rfl) <| hy (fun _ => y_move rfl) <| hy (fun _ => y_move rfl) <| hy (fun _ => y_conv rfl Try.underlying3 Try.underlying123 rfl) <| ?_
  refine hx (xh_call rfl Try.call86 (lenNoC) [] rfl [] rfl ?_)
  rintro _ _ _ ⟨rfl, rfl, rfl⟩
  refine hx (xh_call rfl Try.call85 (pdqNoC) [] rfl [] rfl ?_)
  rintro _ _ _ ⟨rfl, rfl, rfl⟩
  refine hend <| hsub (ρ' := [(2, _), (0, _)]) ⟨rfl, rfl, trivial⟩ <| hmemQ (X' := []) (S' := []) (fun _ m => m) <| ?_
  exact hret0 trivial rfl [] rfl [] rfl ⟨rfl, rfl, rfl⟩
theorem listNoC {g : Nat} {st : DSt} {p : List UInt8} (he : st.seen = []) : Con Try.prog 27 [.pointer (some ⟨g, 0, none⟩), .string (strOf p)] [RDisk g st] [] (fun v_ X_ S_ => v_ = (.slice none 0 0) ∧ X_ = [RDisk g st] ∧ S_ = []) := by
  refine henter (N := 26) Try.func27 rfl rfl (by simp) fun b => ?_
  refine hmemC (fun w m => (m.perm (takeR_perm [0] _ [_] _ rfl)).unpack) ?_
  refine hseq <| hreg <| hy (fun _ => y_assign rfl) <| hend <| hthen <| hseq <| hreg <| hy (fun _ => y_assign rfl) <| hend <| hthen <| hseq <| hseq <| hreg <| hy (fun _ => y_move rfl) <| hy (fun _ => y_nilp rfl) <| hy (fun _ => y_fld rfl fa91_1 (by decide)) <| hy (fun m => y_ld1 rfl ag88 (ld_blk (m.blk 0 rfl) rfl)) <| ?_
  refine hx (xh_range 1 rfl rfl Try.underlying88 (fun r11 => ?_))
  refine hend <| hsub (ρ' := [(11, _), (5, _), (4, _), (0, _), (1, _)]) ⟨rfl, rfl, rfl, rfl, rfl, trivial⟩ <| hmemQ (X' := [_, _, _, _, _]) (S' := []) (fun _ m => m) <| hthen <| hblock <| ?_
  refine hloop2 (fun left cur => 0) (fun left cur => [(5, .slice none 0 0)]) (fun left cur => [RRng SV r11 st.gs (vals st.seen) (vals left) cur]) (fun left cur => []) (fun left cur => left = []) st.seen none [(11, _), (4, _), (0, _), (1, _)] ⟨rfl, rfl, rfl, rfl, trivial⟩ [0] rfl [] rfl (he) ⟨rfl, trivial⟩ (fun left cur hI => ?_)
  refine hseq <| hreg <| ?_
  refine hx (xh_next 0 rfl rfl (fun h0 => ?_) (fun j p hp => ?_))
  · refine hy (fun _ => y_extract rfl rfl) <| hend <| hsub (ρ' := [(13, _), (5, _), (11, _), (4, _), (0, _), (1, _)]) ⟨rfl, rfl, rfl, rfl, rfl, rfl, trivial⟩ <| hthen <| hseq <| ?_
    refine hiff rfl (rfl) ?_
    refine hexit <| hthen_exit <| hthen_exit <| hqblock_exit <| hthen <| hseq <| hreg <| hy (fun _ => y_move rfl) <| ?_
    refine hx (xh_call rfl Try.call61 (sortNoC) [] rfl [] rfl ?_)
    rintro _ _ _ ⟨rfl, rfl, rfl⟩
    refine hend <| hsub (ρ' := [(13, _), (5, _), (11, _), (4, _), (0, _), (1, _)]) ⟨rfl, rfl, rfl, rfl, rfl, rfl, trivial⟩ <| hmemQ (X' := [_, _, _, _, _]) (S' := []) (fun _ m => m) <| hthen <| hseq <| hreg <| hy (fun _ => y_move rfl) <| hy (fun _ => y_assign rfl) <| hend <| hsub (ρ' := [(4, _), (13, _), (5, _), (11, _), (0, _), (1, _)]) ⟨rfl, rfl, rfl, rfl, rfl, rfl, trivial⟩ <| hthen <| hret <| ?_
    refine hmemQ (fun w m => m.rngEnd 0 rfl) ?_
    refine hmemQ (X' := RDisk g st :: _) (fun w m => (m.perm (takeR_perm [1, 0, 0, 0, 0] _ [_, _, _, _, _] _ rfl)).pack) ?_
    exact hret1 trivial rfl rfl [0] rfl [] rfl ⟨rfl, rfl, rfl⟩
  · rw [hI] at hp
    simp [vals] at hp
theorem DOk.powered {st : DSt} {n k : Nat} (h : DOk st n) (hk : k ≤ 1000000) : DOk (st.powered k) n := ⟨by show max (k : Int) (-1) ≤ _; omega, h.room, h.seen, h.rest, h.small⟩
theorem diskPowerC {z1 z2 : Int} (h1 : -9223372036854775808 ≤ z1 ∧ z1 ≤ 9223372036854775807) (h2 : -9223372036854775808 ≤ z2 ∧ z2 ≤ 9223372036854775807) : Con Try.prog 5 [.int .i64 z1, .int .i64 z2] [] [] (fun v_ X_ S_ => v_ = (.bool true) ∧ X_ = [] ∧ S_ = []) := by
  obtain ⟨k, hk, hk9⟩ : ∃ k : Nat, around z1 10 = (k : Int) ∧ k < 10 := by
    have := around_lt z1 10 (by decide)
    exact ⟨(around z1 10).toNat, by omega, by omega⟩
  obtain ⟨q, hq, hq12⟩ : ∃ q : Nat, around z2 13 = (q : Int) ∧ q < 13 := by
    have := around_lt z2 13 (by decide)
    exact ⟨(around z2 13).toNat, by omega, by omega⟩
  refine henter (N := 115) Try.func5 rfl rfl (by simp) fun b => ?_
  refine hseq <| hreg <| hy (fun _ => y_assign rfl) <| hend <| hthen <| hseq <| hreg <| ?_
  refine hx (xh_call rfl Try.call22 (newC (by omega) (by omega) (n := 100)) [] rfl [] rfl ?_)
  rintro _ _ _ ⟨g, gs, gl, rfl, rfl, rfl⟩
  refine hy (fun _ => y_move rfl) <| hy (fun _ => y_extract rfl rfl) <| hy (fun _ => y_extract rfl rfl) <| hy (fun _ => y_assign rfl) <| hy (fun _ => y_assign rfl) <| hend <| hsub (ρ' := [(6, _), (5, _), (4, _), (0, _), (1, _)]) ⟨rfl, rfl, rfl, rfl, rfl, trivial⟩ <| hmemQ (X' := [_]) (S' := []) (fun _ m => m) <| hthen <| hseq <| hseq <| hreg <| hy (fun _ => y_move rfl) <| hy (fun _ => y_eqPn rfl rfl (by kernel_rfl)) <| hy (fun _ => y_move rfl) <| ?_
  refine hyg (o := _) rfl rfl rfl (fun _ => y_move rfl) <| hyg (o := _) rfl rfl rfl (fun _ => y_neq rfl rfl) <| hy (fun _ => y_pickF rfl rfl) <| hend <| hsub (ρ' := [(26, _), (6, _), (5, _), (4, _), (0, _), (1, _)]) ⟨rfl, rfl, rfl, rfl, rfl, rfl, trivial⟩ <| hthen <| ?_
  refine hiff rfl ((by decide)) ?_
  refine hcskip <| hthen <| hseq <| hreg <| hy (fun _ => y_move rfl) <| ?_
  refine hx (xh_call rfl Try.call20 (aroundC (by omega) (by omega) (by omega)) [] rfl [] rfl ?_)
  rintro _ _ _ ⟨rfl, rfl, rfl⟩
  rw [hk]
  refine hy (fun _ => y_assign rfl) <| hend <| hsub (ρ' := [(7, _), (26, _), (6, _), (5, _), (4, _), (0, _), (1, _)]) ⟨rfl, rfl, rfl, rfl, rfl, rfl, rfl, trivial⟩ <| hmemQ (X' := [_]) (S' := []) (fun _ m => m) <| hthen <| hseq <| hreg <| hy (fun _ => y_move rfl) <| ?_
  refine hx (xh_call rfl Try.call20 (aroundC (by omega) (by omega) (by omega)) [] rfl [] rfl ?_)
  rintro _ _ _ ⟨rfl, rfl, rfl⟩
  rw [hq]
  refine hy (fun _ => y_assign rfl) <| hend <| hsub (ρ' := [(8, _), (7, _), (26, _), (6, _), (5, _), (4, _), (0, _), (1, _)]) ⟨rfl, rfl, rfl, rfl, rfl, rfl, rfl, rfl, trivial⟩ <| hmemQ (X' := [_]) (S' := []) (fun _ m => m) <| hthen <| hseq <| hreg <| hy (fun _ => y_move rfl) <| hy (fun _ => y_move rfl) <| ?_
  refine hx (xh_call rfl Try.call30 (powerC) [0] rfl [] rfl ?_)
  rintro _ _ _ ⟨rfl, rfl, rfl⟩
  have ok0 := (DOk.init (n := 100) (gs := gs) (gl := gl) (by decide)).powered (k := k) (by omega)
  refine hend <| hsub (ρ' := [(8, _), (7, _), (26, _), (6, _), (5, _), (4, _), (0, _), (1, _)]) ⟨rfl, rfl, rfl, rfl, rfl, rfl, rfl, rfl, trivial⟩ <| hmemQ (X' := [_]) (S' := []) (fun _ m => m) <| hthen <| hseq <| hseq <| hreg <| hy (fun _ => y_assign rfl) <| hend <| hthen <| hblock <| ?_
  refine hloop2 (fun i st => q - i) (fun i st => [(9, .int .i64 (i : Nat))]) (fun i st => [RDisk g st]) (fun i st => []) (fun i st => i ≤ q ∧ PInv st i k ∧ DOk st i) 0 ((dinit 100 gs gl).powered k) [(8, _), (7, _), (26, _), (6, _), (5, _), (0, _), (1, _)] ⟨rfl, rfl, rfl, rfl, rfl, rfl, rfl, trivial⟩ [0] rfl [] rfl (⟨Nat.zero_le _, PInv.init, ok0⟩) ⟨rfl, trivial⟩ (fun i st ⟨hiq, inv, ok⟩ => ?_)
  refine hseq <| hseq <| hreg <| hy (fun _ => y_move rfl) <| hy (fun _ => y_move rfl) <| hy (fun _ => y_lss rfl rfl) <| hend <| hsub (ρ' := [(36, _), (9, _), (8, _), (7, _), (26, _), (6, _), (5, _), (0, _), (1, _)]) ⟨rfl, rfl, rfl, rfl, rfl, rfl, rfl, rfl, rfl, trivial⟩ <| hthen <| ?_
  refine hif rfl (fun hlt => ?_) (fun hlt => ?_)
  · have hf := inv.found
    have hw := inv.write
    have hpw := inv.power
    by_cases hik : i < k
    · rw [if_pos hik] at hf hw
      refine hcskip <| hthen <| hseq <| hblock <| hseq <| hreg <| hy (fun _ => y_move rfl) <| ?_
      refine hx (xh_call rfl Try.call31 (upC) [0] rfl [] rfl ?_)
      rintro _ _ _ ⟨rfl, rfl, rfl⟩
      refine hy (fun _ => y_assign rfl) <| hend <| hsub (ρ' := [(10, _), (36, _), (9, _), (8, _), (7, _), (26, _), (6, _), (5, _), (0, _), (1, _)]) ⟨rfl, rfl, rfl, rfl, rfl, rfl, rfl, rfl, rfl, rfl, trivial⟩ <| hmemQ (X' := [_]) (S' := []) (fun _ m => m) <| hthen <| hseq <| hreg <| hy (fun _ => y_move rfl) <| ?_
      refine hx (xh_call rfl Try.call32 (readC ok.sm (p := nn)) [0] rfl [] rfl ?_)
      rintro _ _ _ ⟨v, rfl, rfl, rfl⟩
      refine hfactL (fun m => (m.own 1 rfl).slice) ?_
      rintro ⟨A_x, c_x, rfl, hc_x⟩
      refine hfactL (fun m => (m.ord 1 rfl).2.1) fun hA_x => ?_
      refine hy (fun _ => y_move rfl) <| hy (fun _ => y_extract rfl rfl) <| hy (fun _ => y_extract rfl rfl) <| hy (fun _ => y_assign rfl) <| hy (fun _ => y_assign rfl) <| hend <| hsub (ρ' := [(12, _), (10, _), (36, _), (9, _), (8, _), (7, _), (26, _), (6, _), (5, _), (0, _), (1, _)]) ⟨rfl, rfl, rfl, rfl, rfl, rfl, rfl, rfl, rfl, rfl, rfl, trivial⟩ <| hmemQ (X' := [_, _]) (S' := []) (fun _ m => m) <| hthen <| hseq <| hreg <| hy (fun _ => y_move rfl) <| ?_
      refine hx (xh_call rfl Try.call33 (removeNoC (by rw [hf]; decide) (p := nn)) [0] rfl [] rfl ?_)
      rintro _ _ _ ⟨rfl, rfl, rfl⟩
      refine hy (fun _ => y_assign rfl) <| hend <| hsub (ρ' := [(13, _), (12, _), (10, _), (36, _), (9, _), (8, _), (7, _), (26, _), (6, _), (5, _), (0, _), (1, _)]) ⟨rfl, rfl, rfl, rfl, rfl, rfl, rfl, rfl, rfl, rfl, rfl, rfl, trivial⟩ <| hmemQ (X' := [_, _]) (S' := []) (fun _ m => m) <| hthen <| hseq <| hreg <| hy (fun _ => y_assign rfl) <| hend <| hthen <| hseq <| hseq <| hreg <| hy (fun _ => y_move rfl) <| hy (fun _ => y_move rfl) <| hy (fun _ => y_geq rfl rfl) <| hend <| hsub (ρ' := [(50, _), (14, _), (13, _), (12, _), (10, _), (36, _), (9, _), (8, _), (7, _), (26, _), (6, _), (5, _), (0, _), (1, _)]) ⟨rfl, rfl, rfl, rfl, rfl, rfl, rfl, rfl, rfl, rfl, rfl, rfl, rfl, rfl, trivial⟩ <| hthen <| ?_
      refine hiff rfl ((decide_eq_false (by omega))) ?_
      refine hcskip <| hthen <| hseq <| hseq <| hreg <| hy (fun _ => y_move rfl) <| hy (fun _ => y_move rfl) <| hy (fun _ => y_move rfl) <| hy (fun _ => y_lss rfl rfl) <| hy (fun _ => yF (y_bne Try.underlying4 rfl rfl) ((by rw [decide_eq_true (show st.power ≠ 0 by omega), decide_eq_true (show (i : Int) < (k : Int) by omega)]; rfl))) <| hy (fun _ => y_move rfl) <| hyg (o := _) rfl rfl rfl (fun _ => y_move rfl) <| hyg (o := _) rfl rfl rfl (fun _ => y_move rfl) <| hyg (o := _) rfl rfl rfl (fun _ => yF (y_neq rfl rfl) ((decide_eq_false (not_not_intro hf)))) <| hy (fun _ => y_pickF rfl rfl) <| hy (fun _ => y_move rfl) <| hyg (o := _) rfl rfl rfl (fun _ => y_move rfl) <| hyg (o := _) rfl rfl rfl (fun _ => y_move rfl) <| hyg (o := _) rfl rfl rfl (fun _ => yF (y_neq rfl rfl) ((decide_eq_false (not_not_intro hf)))) <| hy (fun _ => y_pickF rfl rfl) <| hend <| hsub (ρ' := [(65, _), (50, _), (14, _), (13, _), (12, _), (10, _), (36, _), (9, _), (8, _), (7, _), (26, _), (6, _), (5, _), (0, _), (1, _)]) ⟨rfl, rfl, rfl, rfl, rfl, rfl, rfl, rfl, rfl, rfl, rfl, rfl, rfl, rfl, rfl, trivial⟩ <| hthen <| ?_
      refine hiff rfl (rfl) ?_
      refine hcskip <| hthen <| hseq <| hreg <| hy (fun _ => y_move rfl) <| hy (fun _ => y_move rfl) <| hy (fun _ => yV (y_conv rfl Try.underlying3 Try.underlying5 (u8mod i)) ((rfl : _ = B8 (UInt8.ofNat i)))) <| ?_
      refine hx (xh_bsl Try.underlying44 ti5 rfl rfl rfl (by simp [Value.cells, B8]) (by decide) (by decide) (fun g69 => ?_))
      have hA_b69 : 0 < 1 → (some (⟨g69, 0, none⟩ : Addr)) ≠ none := fun _ h => by cases h
      refine hmemL (fun w m => m.eqX 0 rfl (show _ = ROwn 5 1 (.slice (some ⟨g69, 0, none⟩) 1 1) 1 (b8s [UInt8.ofNat i]) from rfl)) ?_
      refine hx (xh_calll rfl Try.call25 (writeC ok (by omega) (by omega) (l := [UInt8.ofNat i]) (p := [97])) [1] rfl (.x 0 rfl .own .nil) ?_)
      rintro _ _ _ ⟨st1, B, c1, A1, c2, rfl, rfl, rfl, hp⟩
      refine ⟨rfl, ?_⟩
      obtain rfl := wrote_of hp hw
      rw [hw]
      refine hy (fun _ => y_assign rfl) <| hend <| hsub (ρ' := [(15, _), (65, _), (50, _), (14, _), (13, _), (12, _), (10, _), (36, _), (9, _), (8, _), (7, _), (26, _), (6, _), (5, _), (0, _), (1, _)]) ⟨rfl, rfl, rfl, rfl, rfl, rfl, rfl, rfl, rfl, rfl, rfl, rfl, rfl, rfl, rfl, rfl, trivial⟩ <| hmemQ (X' := [_, _, _]) (S' := []) (fun _ m => m) <| hthen <| hseq <| hreg <| hy (fun _ => y_move rfl) <| hy (fun _ => yT (y_eql rfl rfl) ((decide_eq_true rfl))) <| hy (fun _ => y_move rfl) <| hy (fun _ => y_move rfl) <| hy (fun _ => y_lss rfl rfl) <| hy (fun _ => yF (y_bne Try.underlying4 rfl rfl) ((by rw [decide_eq_true (show (i : Int) < (k : Int) by omega)]; rfl))) <| hy (fun _ => y_move rfl) <| hyg (o := _) rfl rfl rfl (fun _ => y_move rfl) <| hyg (o := _) rfl rfl rfl (fun _ => yF (y_neq rfl rfl) ((decide_eq_false (not_not_intro rfl)))) <| hyg (o := _) rfl rfl rfl (fun _ => y_move rfl) <| hskip rfl rfl rfl (by decide) <| hskip rfl rfl rfl (by decide) <| hyg (o := _) rfl rfl rfl (fun _ => y_pickF rfl rfl) <| hy (fun _ => y_pickF rfl rfl) <| hend <| hsub (ρ' := [(84, _), (15, _), (65, _), (50, _), (14, _), (13, _), (12, _), (10, _), (36, _), (9, _), (8, _), (7, _), (26, _), (6, _), (5, _), (0, _), (1, _)]) ⟨rfl, rfl, rfl, rfl, rfl, rfl, rfl, rfl, rfl, rfl, rfl, rfl, rfl, rfl, rfl, rfl, rfl, trivial⟩ <| hthen <| ?_
      refine hiff rfl (rfl) ?_
      refine hcskip <| hqblock <| hthen <| hreg <| hy (fun _ => y_move rfl) <| hy (fun _ => y_add rfl rfl (w64 (by omega) (by omega))) <| hy (fun _ => y_assign rfl) <| hend <| hsub (ρ' := [(9, _), (84, _), (15, _), (65, _), (50, _), (14, _), (13, _), (12, _), (10, _), (36, _), (8, _), (7, _), (26, _), (6, _), (5, _), (0, _), (1, _)]) ⟨rfl, rfl, rfl, rfl, rfl, rfl, rfl, rfl, rfl, rfl, rfl, rfl, rfl, rfl, rfl, rfl, rfl, trivial⟩ <| ?_
      refine hnext2 (i + 1) (st.wrote [97] ⟨B, 1, c1, [UInt8.ofNat i]⟩ A1 c2) ⟨rfl, rfl, rfl, rfl, rfl, rfl, rfl, rfl, trivial⟩ [0] rfl [] rfl (⟨by omega, inv.more hik rfl, ok.wrote (show 1 ≤ 1048576 by decide) A1 c2⟩) (by omega)
    · rw [if_neg hik] at hf hw
      refine hcskip <| hthen <| hseq <| hblock <| hseq <| hreg <| hy (fun _ => y_move rfl) <| ?_
      refine hx (xh_call rfl Try.call31 (upC) [0] rfl [] rfl ?_)
      rintro _ _ _ ⟨rfl, rfl, rfl⟩
      refine hy (fun _ => y_assign rfl) <| hend <| hsub (ρ' := [(10, _), (36, _), (9, _), (8, _), (7, _), (26, _), (6, _), (5, _), (0, _), (1, _)]) ⟨rfl, rfl, rfl, rfl, rfl, rfl, rfl, rfl, rfl, rfl, trivial⟩ <| hmemQ (X' := [_]) (S' := []) (fun _ m => m) <| hthen <| hseq <| hreg <| hy (fun _ => y_move rfl) <| ?_
      refine hx (xh_call rfl Try.call32 (readC ok.sm (p := nn)) [0] rfl [] rfl ?_)
      rintro _ _ _ ⟨v, rfl, rfl, rfl⟩
      refine hfactL (fun m => (m.own 1 rfl).slice) ?_
      rintro ⟨A_x, c_x, rfl, hc_x⟩
      refine hfactL (fun m => (m.ord 1 rfl).2.1) fun hA_x => ?_
      refine hy (fun _ => y_move rfl) <| hy (fun _ => y_extract rfl rfl) <| hy (fun _ => y_extract rfl rfl) <| hy (fun _ => y_assign rfl) <| hy (fun _ => y_assign rfl) <| hend <| hsub (ρ' := [(12, _), (10, _), (36, _), (9, _), (8, _), (7, _), (26, _), (6, _), (5, _), (0, _), (1, _)]) ⟨rfl, rfl, rfl, rfl, rfl, rfl, rfl, rfl, rfl, rfl, rfl, trivial⟩ <| hmemQ (X' := [_, _]) (S' := []) (fun _ m => m) <| hthen <| hseq <| hreg <| hy (fun _ => y_move rfl) <| ?_
      refine hx (xh_call rfl Try.call33 (removeNoC (by rw [hf]; decide) (p := nn)) [0] rfl [] rfl ?_)
      rintro _ _ _ ⟨rfl, rfl, rfl⟩
      refine hy (fun _ => y_assign rfl) <| hend <| hsub (ρ' := [(13, _), (12, _), (10, _), (36, _), (9, _), (8, _), (7, _), (26, _), (6, _), (5, _), (0, _), (1, _)]) ⟨rfl, rfl, rfl, rfl, rfl, rfl, rfl, rfl, rfl, rfl, rfl, rfl, trivial⟩ <| hmemQ (X' := [_, _]) (S' := []) (fun _ m => m) <| hthen <| hseq <| hreg <| hy (fun _ => y_assign rfl) <| hend <| hthen <| hseq <| hseq <| hreg <| hy (fun _ => y_move rfl) <| hy (fun _ => y_move rfl) <| hy (fun _ => y_geq rfl rfl) <| hend <| hsub (ρ' := [(50, _), (14, _), (13, _), (12, _), (10, _), (36, _), (9, _), (8, _), (7, _), (26, _), (6, _), (5, _), (0, _), (1, _)]) ⟨rfl, rfl, rfl, rfl, rfl, rfl, rfl, rfl, rfl, rfl, rfl, rfl, rfl, rfl, trivial⟩ <| hthen <| ?_
      refine hift rfl ((decide_eq_true (by omega))) ?_
      refine hreg <| hy (fun _ => y_assign rfl) <| hend <| hthen <| hseq <| hseq <| hreg <| hy (fun _ => y_move rfl) <| hy (fun _ => y_move rfl) <| hy (fun _ => y_move rfl) <| hy (fun _ => y_lss rfl rfl) <| hy (fun _ => yF (y_bne Try.underlying4 rfl rfl) ((by rw [decide_eq_false (show ¬ st.power ≠ 0 by omega), decide_eq_false (show ¬ (i : Int) < (k : Int) by omega)]; rfl))) <| hy (fun _ => y_move rfl) <| hyg (o := _) rfl rfl rfl (fun _ => y_move rfl) <| hyg (o := _) rfl rfl rfl (fun _ => y_move rfl) <| hyg (o := _) rfl rfl rfl (fun _ => yF (y_neq rfl rfl) ((decide_eq_false (not_not_intro hf)))) <| hy (fun _ => y_pickF rfl rfl) <| hy (fun _ => y_move rfl) <| hyg (o := _) rfl rfl rfl (fun _ => y_move rfl) <| hyg (o := _) rfl rfl rfl (fun _ => y_move rfl) <| hyg (o := _) rfl rfl rfl (fun _ => yF (y_neq rfl rfl) ((decide_eq_false (not_not_intro hf)))) <| hy (fun _ => y_pickF rfl rfl) <| hend <| hsub (ρ' := [(65, _), (14, _), (50, _), (13, _), (12, _), (10, _), (36, _), (9, _), (8, _), (7, _), (26, _), (6, _), (5, _), (0, _), (1, _)]) ⟨rfl, rfl, rfl, rfl, rfl, rfl, rfl, rfl, rfl, rfl, rfl, rfl, rfl, rfl, rfl, trivial⟩ <| hthen <| ?_
      refine hiff rfl (rfl) ?_
      refine hcskip <| hthen <| hseq <| hreg <| hy (fun _ => y_move rfl) <| hy (fun _ => y_move rfl) <| hy (fun _ => yV (y_conv rfl Try.underlying3 Try.underlying5 (u8mod i)) ((rfl : _ = B8 (UInt8.ofNat i)))) <| ?_
      refine hx (xh_bsl Try.underlying44 ti5 rfl rfl rfl (by simp [Value.cells, B8]) (by decide) (by decide) (fun g69 => ?_))
      have hA_b69 : 0 < 1 → (some (⟨g69, 0, none⟩ : Addr)) ≠ none := fun _ h => by cases h
      refine hmemL (fun w m => m.eqX 0 rfl (show _ = ROwn 5 1 (.slice (some ⟨g69, 0, none⟩) 1 1) 1 (b8s [UInt8.ofNat i]) from rfl)) ?_
      refine hx (xh_calll rfl Try.call25 (writeC ok (by omega) (by omega) (l := [UInt8.ofNat i]) (p := [97])) [1] rfl (.x 0 rfl .own .nil) ?_)
      rintro _ _ _ ⟨st1, B, c1, A1, c2, rfl, rfl, rfl, hp⟩
      refine ⟨rfl, ?_⟩
      have hst := (hp.resolve_right (fun h => absurd h.1 (by rw [hw]; decide))).2.symm
      subst hst
      rw [hw]
      refine hy (fun _ => y_assign rfl) <| hend <| hsub (ρ' := [(15, _), (65, _), (14, _), (50, _), (13, _), (12, _), (10, _), (36, _), (9, _), (8, _), (7, _), (26, _), (6, _), (5, _), (0, _), (1, _)]) ⟨rfl, rfl, rfl, rfl, rfl, rfl, rfl, rfl, rfl, rfl, rfl, rfl, rfl, rfl, rfl, rfl, trivial⟩ <| hmemQ (X' := [_, _, _]) (S' := []) (fun _ m => m) <| hthen <| hseq <| hreg <| hy (fun _ => y_move rfl) <| hy (fun _ => yF (y_eql rfl rfl) ((decide_eq_false (by decide)))) <| hy (fun _ => y_move rfl) <| hy (fun _ => y_move rfl) <| hy (fun _ => y_lss rfl rfl) <| hy (fun _ => yF (y_bne Try.underlying4 rfl rfl) ((by rw [decide_eq_false (show ¬ (i : Int) < (k : Int) by omega)]; rfl))) <| hy (fun _ => y_move rfl) <| hyg (o := _) rfl rfl rfl (fun _ => y_move rfl) <| hyg (o := _) rfl rfl rfl (fun _ => yT (y_neq rfl rfl) ((decide_eq_true (by decide)))) <| hyg (o := _) rfl rfl rfl (fun _ => y_move rfl) <| hyg (o := _) rfl rfl rfl (fun _ => y_move rfl) <| hyg (o := _) rfl rfl rfl (fun _ => yF (y_neq rfl rfl) ((decide_eq_false (not_not_intro rfl)))) <| hyg (o := _) rfl rfl rfl (fun _ => y_pickT rfl rfl) <| hy (fun _ => y_pickF rfl rfl) <| hend <| hsub (ρ' := [(84, _), (15, _), (65, _), (14, _), (50, _), (13, _), (12, _), (10, _), (36, _), (9, _), (8, _), (7, _), (26, _), (6, _), (5, _), (0, _), (1, _)]) ⟨rfl, rfl, rfl, rfl, rfl, rfl, rfl, rfl, rfl, rfl, rfl, rfl, rfl, rfl, rfl, rfl, rfl, trivial⟩ <| hthen <| ?_
      refine hiff rfl (rfl) ?_
      refine hcskip <| hqblock <| hthen <| hreg <| hy (fun _ => y_move rfl) <| hy (fun _ => y_add rfl rfl (w64 (by omega) (by omega))) <| hy (fun _ => y_assign rfl) <| hend <| hsub (ρ' := [(9, _), (84, _), (15, _), (65, _), (14, _), (50, _), (13, _), (12, _), (10, _), (36, _), (8, _), (7, _), (26, _), (6, _), (5, _), (0, _), (1, _)]) ⟨rfl, rfl, rfl, rfl, rfl, rfl, rfl, rfl, rfl, rfl, rfl, rfl, rfl, rfl, rfl, rfl, rfl, trivial⟩ <| ?_
      refine hnext2 (i + 1) st ⟨rfl, rfl, rfl, rfl, rfl, rfl, rfl, rfl, trivial⟩ [0] rfl [] rfl (⟨by omega, inv.stay (by omega), ok.le (by omega)⟩) (by omega)
  · obtain rfl : i = q := by omega
    have hwl := inv.waits
    refine hexit <| hthen_exit <| hthen_exit <| hqblock_exit <| hthen <| hseq <| hreg <| hy (fun _ => y_move rfl) <| hy (fun _ => y_move rfl) <| hy (fun _ => y_min rfl rfl) <| hy (fun _ => y_assign rfl) <| hend <| hsub (ρ' := [(16, _), (36, _), (9, _), (8, _), (7, _), (26, _), (6, _), (5, _), (0, _), (1, _)]) ⟨rfl, rfl, rfl, rfl, rfl, rfl, rfl, rfl, rfl, rfl, trivial⟩ <| hthen <| hseq <| hseq <| hreg <| hy (fun _ => y_move rfl) <| ?_
    refine hx (xh_call rfl Try.call34 (waitsC) [0] rfl [] rfl ?_)
    rintro _ _ _ ⟨rfl, rfl, rfl⟩
    refine hy (fun _ => y_move rfl) <| hy (fun _ => y_neq rfl rfl) <| hend <| hsub (ρ' := [(91, _), (16, _), (36, _), (9, _), (8, _), (7, _), (26, _), (6, _), (5, _), (0, _), (1, _)]) ⟨rfl, rfl, rfl, rfl, rfl, rfl, rfl, rfl, rfl, rfl, rfl, trivial⟩ <| hmemQ (X' := [_]) (S' := []) (fun _ m => m) <| hthen <| ?_
    refine hiff rfl ((decide_eq_false (by omega))) ?_
    refine hmemC (fun w m => m.addS (r' := RRd 1 none 0 []) (.refl _ _) (Rd.nil _ _ _) (fun k hk => absurd rfl hk.1)) ?_
    have hA_z : 0 < 0 → (none : Option Addr) ≠ none := fun h => absurd h (by decide)
    refine hcskip <| hthen <| hseq <| hreg <| hy (fun _ => y_move rfl) <| ?_
    refine hx (xh_call rfl Try.call13 (restartC (by omega) inv.wr ok.sm (by have := ok.rest; omega) (bs := [])) [0] rfl [0] rfl ?_)
    rintro _ _ _ ⟨gs2, rfl, rfl, rfl⟩
    have ok4 := ok.started [] gs2
    obtain ⟨s1, s2, s3, s4, s5⟩ := started_nil st gs2 inv.lasts
    have s6 := inv.room
    rw [s6] at s5
    generalize DSt.started _ _ _ = st4 at ok4 s1 s2 s3 s4 s5 ⊢
    refine hend <| hsub (ρ' := [(91, _), (16, _), (36, _), (9, _), (8, _), (7, _), (26, _), (6, _), (5, _), (0, _), (1, _)]) ⟨rfl, rfl, rfl, rfl, rfl, rfl, rfl, rfl, rfl, rfl, rfl, trivial⟩ <| hmemQ (X' := [_]) (S' := [_]) (fun _ m => m) <| hthen <| hseq <| hreg <| hy (fun _ => y_move rfl) <| ?_
    refine hx (xh_call rfl Try.call31 (upC) [0] rfl [] rfl ?_)
    rintro _ _ _ ⟨rfl, rfl, rfl⟩
    rw [decide_eq_true (show st4.power ≠ 0 by omega)]
    have e5 : writeE st4 [97] 0 = 0 := by simp [writeE, named1, s1, s4, s5, tot, aget]
    refine hy (fun _ => y_move rfl) <| hyg (o := _) rfl rfl rfl (fun _ => y_move rfl) <| ?_
    refine hxg (o := _) rfl rfl rfl (xh_call rfl Try.call34 (waitsC) [0] rfl [] rfl ?_)
    rintro _ _ _ ⟨rfl, rfl, rfl⟩
    refine hyg (o := _) rfl rfl rfl (fun _ => yT (y_eql rfl rfl) ((decide_eq_true (by rw [s3]; rfl)))) <| hy (fun _ => y_pickT rfl rfl) <| hy (fun _ => y_move rfl) <| hyg (o := _) rfl rfl rfl (fun _ => y_move rfl) <| ?_
    refine hxg (o := _) rfl rfl rfl (xh_call rfl Try.call27 (listNoC s1 (p := [])) [0] rfl [] rfl ?_)
    rintro _ _ _ ⟨rfl, rfl, rfl⟩
    refine hyg (o := _) rfl rfl rfl (fun _ => y_lenS rfl Try.underlying48) <| hyg (o := _) rfl rfl rfl (fun _ => yT (y_eql rfl rfl) ((decide_eq_true rfl))) <| hy (fun _ => y_pickT rfl rfl) <| hy (fun _ => y_move rfl) <| hyg (o := _) rfl rfl rfl (fun _ => y_move rfl) <| ?_
    refine hxg (o := _) rfl rfl rfl (xh_call rfl Try.call25 (writeC ok4 (by omega) (by omega) (l := []) (p := [97])) [0] rfl [0] rfl ?_)
    rintro _ _ _ ⟨st1, B, c1, A1, c2, rfl, rfl, rfl, hp⟩
    refine hyg (o := _) rfl rfl rfl (fun _ => yT (y_eql rfl rfl) ((decide_eq_true e5))) <| hy (fun _ => y_pickT rfl rfl) <| hy (fun _ => y_move rfl) <| ?_
    refine hxg (o := _) rfl rfl rfl (xh_call rfl Try.call29 (lives12C) [] rfl [] rfl ?_)
    rintro _ _ _ ⟨rfl, rfl, rfl⟩
    refine hy (fun _ => y_pickT rfl rfl) <| hy (fun _ => y_assign rfl) <| hend <| hsub (ρ' := [(4, _), (91, _), (16, _), (36, _), (9, _), (8, _), (7, _), (26, _), (6, _), (5, _), (0, _), (1, _)]) ⟨rfl, rfl, rfl, rfl, rfl, rfl, rfl, rfl, rfl, rfl, rfl, rfl, trivial⟩ <| hmemQ (X' := [_]) (S' := [_]) (fun _ m => m) <| hthen <| hret <| ?_
    exact hret1 trivial rfl rfl [] rfl [] rfl ⟨rfl, rfl, rfl⟩
theorem diskPower (z1 z2 : Int) (W : World) (h1 : -9223372036854775808 ≤ z1 ∧ z1 ≤ 9223372036854775807) (h2 : -9223372036854775808 ≤ z2 ∧ z2 ≤ 9223372036854775807) :
    Calls Try.prog 5 #[.int .i64 z1, .int .i64 z2] W fun e w' => e = .returned (.bool true) ∧ Fr No W w' :=
  con_calls (diskPowerC h1 h2) (by
    intro s hs
    cases hs)
end Go.Proofs.Ytflcokdkobhieaa
