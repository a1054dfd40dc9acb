/- Contract: does of layer 12: something that is done, of both disks. -/
import Derived.Test.YtflcokdkobhieaaPlainDS
set_option linter.unusedVariables false
set_option linter.unusedSimpArgs false
set_option maxRecDepth 20000
namespace Go.Proofs.Ytflcokdkobhieaa
open Go.Eng Go.Hx
/-- a deed, in cells -/
def ocs (z p t nn : Int) (B : Option Addr) (mb mc : Nat) (K : Option Addr) (mk ck : Nat) : List Value := [.int .i64 z, .int .i64 p, .int .i64 t, .int .i64 nn, .slice B mb mc, .slice K mk ck]
theorem name12_len (n : Int) : (name12 n).length ≤ 3 := by
  have : ∀ i, (name12s.getD i []).length ≤ 3 := by
    intro i
    by_cases h : i < 10
    · have : i = 0 ∨ i = 1 ∨ i = 2 ∨ i = 3 ∨ i = 4 ∨ i = 5 ∨ i = 6 ∨ i = 7 ∨ i = 8 ∨ i = 9 := by omega
      rcases this with rfl | rfl | rfl | rfl | rfl | rfl | rfl | rfl | rfl | rfl <;> decide
    · rw [List.getD, List.getElem?_eq_none (by show 10 ≤ i; omega)]; decide
  exact this _
def KeepP (z : Int) (st st1 : DSt) : Prop := around z 10 ≠ 7 → st.power = -1 → st1.power = -1
theorem keepP_spent {z : Int} {st st1 : DSt} (h : st1.power = st.spent.power) : KeepP z st st1 := fun _ hp => by
  rw [h]
  show (if 0 < st.power then st.power - 1 else st.power) = -1
  rw [if_neg (by omega)]; exact hp
theorem keepP_same {z : Int} {st : DSt} : KeepP z st st := fun _ h => h
theorem keepP_ren {z : Int} {st st1 : DSt} {a c : List UInt8} {A : Option Addr} {j : Nat} (hw : (renameE st a c ≠ 0 ∧ st1 = st) ∨ (renameE st a c = 0 ∧ st1 = st.did (.renamed a c) A j)) : KeepP z st st1 := by
  rcases hw with ⟨_, rfl⟩ | ⟨_, rfl⟩
  · exact keepP_same
  · exact keepP_spent rfl
theorem keepP_rem {z : Int} {st st1 : DSt} {p : List UInt8} {A : Option Addr} {j : Nat} (hw : (foundE st p ≠ 0 ∧ st1 = st) ∨ (foundE st p = 0 ∧ st1 = st.did (.removed p) A j)) : KeepP z st st1 := by
  rcases hw with ⟨_, rfl⟩ | ⟨_, rfl⟩
  · exact keepP_same
  · exact keepP_spent rfl
theorem keepP_sync {z : Int} {st st1 : DSt} {gl : Nat} (hw : (st.power = 0 ∧ st1 = st) ∨ (st.power ≠ 0 ∧ st1 = st.synced gl)) : KeepP z st st1 := by
  rcases hw with ⟨_, rfl⟩ | ⟨_, rfl⟩
  · exact keepP_same
  · exact keepP_spent rfl
theorem keepP_write {z : Int} {st st1 : DSt} {p : List UInt8} {n : Nat} {r : BRow} {A : Option Addr} {c : Nat} (hw : (writeE st p n ≠ 0 ∧ st1 = st) ∨ (writeE st p n = 0 ∧ st1 = st.wrote p r A c)) : KeepP z st st1 := by
  rcases hw with ⟨_, rfl⟩ | ⟨_, rfl⟩
  · exact keepP_same
  · exact keepP_spent rfl
theorem doesC {g : Nat} {st : DSt} {x : RX} {kk : Nat} {z p t nn : Int} {B : Option Addr} {mb mc : Nat} {lb : List UInt8} {K : Option Addr} {mk ck : Nat} {bs : List Bool} (hD : DS st x.d kk) (hk : kk ≤ 1000) (hz1 : -9223372036854775808 ≤ z) (hz2 : z ≤ 9223372036854775807) (hp1 : -9223372036854775808 ≤ p) (hp2 : p ≤ 9223372036854775807) (ht1 : -9223372036854775808 ≤ t) (ht2 : t ≤ 9223372036854775807) (hmb : mb ≤ mc) (hmb2 : mb ≤ 140737488351232) (hmk : mk ≤ ck) (hmk2 : mk ≤ 140737488351232) : Con Try.prog 35 [.pointer (some ⟨g, 0, none⟩), .agg x.cs.toArray, .agg (ocs z p t nn B mb mc K mk ck).toArray] [RDisk g st] [RRef x, RRd 1 B mb (b8s lb), RRd 1 K mk (bools bs)] (fun v_ X_ S_ => ∃ y st1, v_ = (.tuple #[.agg y.cs.toArray, .bool true]) ∧ X_ = [RDisk g st1] ∧ S_ = [RRef y] ∧ (DS st1 y.d (kk + 1) ∧ KeepP z st st1)) := by
  have okr := hD.rok
  have ok := hD.ok
  have hsm := ok.sm
  have hwa : st.waits.length ≤ 1000000 := by have := ok.rest; omega
  have hla := hD.lbound
  have hwb := hD.wbound
  have hnl := name12_len p
  have hntl := name12_len t
  refine henter (N := 156) Try.func35 rfl rfl (by simp) fun b => ?_
  refine hfactC (fun m => rdB (m.rd 1 rfl)) ?_
  rintro ⟨hl_rb, hA_rb⟩
  refine hfactC (fun m => rdX (m.rd 2 rfl)) ?_
  rintro ⟨hl_rk, hA_rk⟩
  have hlb : lb.length = mb := by omega
  refine hseq <| hreg <| ?_
  refine hx (xh_box rfl (fun g4 => ?_))
  refine hmemL (fun w m => m.eqX 0 rfl (show _ = RBlk g4 54 x.cs from congrArg (RBlk _ _) (cells_agg _))) ?_
  refine hx (xh_box rfl (fun g5 => ?_))
  refine hmemL (fun w m => m.eqX 0 rfl (show _ = RBlk g5 75 (ocs z p t nn B mb mc K mk ck) from congrArg (RBlk _ _) (cells_agg _))) ?_
  refine hx (xh_alloc ti54 (fun g6 => ?_))
  refine hy (fun _ => y_assign rfl) <| hend <| hmemQ (X' := [_, _, _, _]) (S' := [_, _, _]) (fun _ m => m) <| hthen <| hseq <| hreg <| hy (fun _ => y_fld rfl fa75_1 (by decide)) <| hy (fun m => y_ld1 rfl ag3 (ld_blk (m.blk 1 rfl) (i := 1) rfl)) <| ?_
  refine hx (xh_call rfl Try.call64 (nameof12C (by omega) (by omega)) [] rfl [] rfl ?_)
  rintro _ _ _ ⟨rfl, rfl, rfl⟩
  refine hy (fun _ => y_assign rfl) <| hend <| hsub (ρ' := [(8, _), (7, _), (6, _), (5, _), (4, _), (0, _), (1, _), (2, _)]) ⟨rfl, rfl, rfl, rfl, rfl, rfl, rfl, rfl, trivial⟩ <| hmemQ (X' := [_, _, _, _]) (S' := [_, _, _]) (fun _ m => m) <| hthen <| hseq <| hreg <| hy (fun _ => y_fld rfl fa75_4 (by decide)) <| hy (fun m => y_ld1 rfl ag44 (ld_blk (m.blk 1 rfl) (i := 4) rfl)) <| ?_
  refine hx (xh_call rfl Try.call65 (fewC (by omega) (by omega) (m := 30)) [] rfl [1] rfl ?_)
  rintro _ _ _ ⟨v, rfl, rfl, rfl⟩
  refine hfactL (fun m => (m.own 0 rfl).slice) ?_
  rintro ⟨A_x, c_x, rfl, hc_x⟩
  refine hfactL (fun m => (m.ord 0 rfl).2.1) fun hA_x => ?_
  refine hy (fun _ => y_assign rfl) <| hend <| hsub (ρ' := [(9, _), (8, _), (7, _), (6, _), (5, _), (4, _), (0, _), (1, _), (2, _)]) ⟨rfl, rfl, rfl, rfl, rfl, rfl, rfl, rfl, rfl, trivial⟩ <| hmemQ (X' := [_, _, _, _, _]) (S' := [_, _, _]) (fun _ m => m) <| hthen <| hseq <| hreg <| hy (fun _ => y_fld rfl fa75_5 (by decide)) <| hy (fun m => y_ld1 rfl ag27 (ld_blk (m.blk 2 rfl) (i := 5) rfl)) <| hy (fun _ => y_fld rfl fa75_5 (by decide)) <| hy (fun m => y_ld1 rfl ag27 (ld_blk (m.blk 2 rfl) (i := 5) rfl)) <| hy (fun _ => y_lenS rfl Try.underlying27) <| ?_
  refine hmemL (fun w m => m.asV 2 rfl (View.takeV (k := min mk 20) (Nat.min_le_left _ _))) ?_
  refine hfactL (fun m => rdX (m.rd 0 rfl)) ?_
  rintro ⟨hl_rf, hA_rf⟩
  refine hy (fun _ => y_min rfl rfl) <| hy (fun _ => y_slTo rfl rfl Try.underlying27 sz4 (show ((min mk 20 : Nat) : Int) = _ by omega) (by omega)) <| hy (fun _ => y_assign rfl) <| hend <| hsub (ρ' := [(10, _), (9, _), (8, _), (7, _), (6, _), (5, _), (4, _), (0, _), (1, _), (2, _)]) ⟨rfl, rfl, rfl, rfl, rfl, rfl, rfl, rfl, rfl, rfl, trivial⟩ <| hthen <| hseq <| hseq <| hreg <| hy (fun _ => y_fld rfl fa75_0 (by decide)) <| hy (fun m => y_ld1 rfl ag3 (ld_blk (m.blk 2 rfl) (i := 0) rfl)) <| ?_
  refine hx (xh_call rfl Try.call20 (aroundC (by omega) (by omega) (by omega)) [] rfl [] rfl ?_)
  rintro _ _ _ ⟨rfl, rfl, rfl⟩
  refine hend <| hsub (ρ' := [(38, _), (10, _), (9, _), (8, _), (7, _), (6, _), (5, _), (4, _), (0, _), (1, _), (2, _)]) ⟨rfl, rfl, rfl, rfl, rfl, rfl, rfl, rfl, rfl, rfl, rfl, trivial⟩ <| hmemQ (X' := [_, _, _, _, _]) (S' := [_, _, _, _]) (fun _ m => m) <| hthen <| hblock <| hseq <| hreg <| hy (fun _ => y_eql rfl rfl) <| hy (fun _ => y_assign rfl) <| hend <| hsub (ρ' := [(39, _), (38, _), (10, _), (9, _), (8, _), (7, _), (6, _), (5, _), (4, _), (0, _), (1, _), (2, _)]) ⟨rfl, rfl, rfl, rfl, rfl, rfl, rfl, rfl, rfl, rfl, rfl, rfl, trivial⟩ <| hthen <| ?_
  refine hif rfl (fun h4 => ?_) (fun h4 => ?_)
  · refine hseq <| hdrwP [4, 5, 9, 10] (.take 0 3 <| .take 1 3 <| .take 2 3 <| .take 3 3 <| .alt 4 (.alt 5 (.take 6 3 <| .take 7 3 <| .take 8 4 <| .alt 9 (.alt 10 (.take 11 4 <| .done) (.stop)) (.stop)) (.alt 9 (.alt 5 (.take 6 3 <| .take 7 3 <| .take 8 4 <| .alt 10 (.take 11 4 <| .done) (.stop)) (.stop)) (.stop))) (.alt 9 (.alt 4 (.alt 5 (.take 6 3 <| .take 7 3 <| .take 8 4 <| .alt 10 (.take 11 4 <| .done) (.stop)) (.stop)) (.stop)) (.stop))) (by kernel_rfl) (by kernel_rfl) rfl 3 <| hpy (fun m => yV (y_ldN rfl ag54 sz54 rfl ((m.blk 3 rfl).cells0)) ((rfl : _ = Value.agg x.cs.toArray))) <| hpyU (y_move rfl) <| hpyU (y_fld rfl fa75_2 (by decide)) <| hpy (fun m => y_ld1 rfl ag3 (ld_blk (m.blk 2 rfl) (i := 2) rfl)) <| ?_
    refine hpfork ?_ ?_
    · refine hpx (xh_call rfl Try.call64 (nameof12C (by omega) (by omega)) [] rfl [] rfl ?_)
      rintro _ _ _ ⟨rfl, rfl, rfl⟩
      refine ⟨(fun _ => wk [0, 0, 0, 0, 0] [0, 1, 2, 3] rfl rfl), ?_⟩
      refine hpfork ?_ ?_
      · refine hpx (xh_call rfl Try.call66 (rrenameX okr (by omega) (by omega)) [] rfl [1] rfl ?_)
        rintro _ _ _ ⟨y, rfl, rfl, rfl, hp⟩
        refine ⟨(fun _ => wk [0, 0, 0, 0, 0] [1, 2, 3, 4] rfl rfl), ?_⟩
        refine hpyU (y_move rfl) <| hpyU (y_extract rfl rfl) <| hpyU (y_extract rfl rfl) <| ?_
        refine hpx (xh_alloc ti54 (fun g11 => ⟨(fun _ => wk [1, 1, 1, 1, 1] [1, 2, 3, 4] rfl rfl), ?_⟩))
        refine hpx0 (xh_stA 0 rfl rfl rfl sz54 rfl cs_one rfl ⟨(fun h => absurd h (by decide)), ?_⟩)
        have hyd := hp
        clear hp
        refine hpyU (y_assign rfl) <| hpend <| hsub (ρ' := [(12, _), (11, _), (39, _), (38, _), (10, _), (9, _), (8, _), (7, _), (6, _), (5, _), (4, _), (0, _), (1, _), (2, _)]) ⟨rfl, rfl, rfl, rfl, rfl, rfl, rfl, rfl, rfl, rfl, rfl, rfl, rfl, rfl, trivial⟩ <| hmemQ (X' := [_, _, _, _, _, _]) (S' := [_, _, _, _, _]) (fun _ m => m) <| hthen <| hseq <| hdrwB [0, 0, 0, 0, 0] [0, 1, 2, 3, 4] rfl rfl [5, 6, 9] [(0, some 2), (1, some 1), (2, some 1), (3, some 0), (4, some 0), (7, some 3), (5, none), (6, none), (8, some 3), (9, none), (10, some 3)] (by kernel_rfl) (by kernel_rfl) rfl 2 <| hty (fun m => yV (y_ldN rfl ag54 sz54 rfl ((m.blk 0 rfl).cells0)) ((rfl : _ = Value.agg y.cs.toArray))) <| htyU (y_move rfl) <| htyU (y_move rfl) <| htyU (y_fld rfl fa75_2 (by decide)) <| hty (fun m => y_ld1 rfl ag3 (ld_blk (m.blk 3 rfl) (i := 2) rfl)) <| htyU (y_move rfl) <| ?_
        refine htx (xh_call rfl Try.call64 (nameof12C (by omega) (by omega)) [] rfl [] rfl ?_)
        rintro _ _ _ ⟨rfl, rfl, rfl⟩
        refine ⟨(fun _ => wk [0, 0, 0, 0, 0] [0, 1, 2, 3, 4] rfl rfl), ?_⟩
        refine htx (xh_call rfl Try.call46 (renameC ok (by omega)) [5] rfl [] rfl ?_)
        rintro _ _ _ ⟨st1, A, j, rfl, rfl, rfl, hr⟩
        refine ⟨(fun _ => wk [1, 1, 1, 1, 1] [0, 1, 2, 3, 4] rfl rfl), ?_⟩
        have hW := hD.rename hr
        rw [← hyd] at hW
        refine htyU (yV (y_eql rfl rfl) ((show Value.bool (decide (renameE st (name12 p) (name12 t) = x.d.renameE (name12 p) (name12 t))) = .bool true by rw [decide_eq_true hW.2.symm]))) <| ?_
        refine htx0 (xh_stA 3 rfl rfl rfl sz54 rfl cs_one rfl ⟨(fun h => absurd h (by decide)), ?_⟩)
        refine htyU (y_assign rfl) <| htend <| hsub (ρ' := [(7, _), (12, _), (11, _), (39, _), (38, _), (10, _), (9, _), (8, _), (6, _), (5, _), (4, _), (0, _), (1, _), (2, _)]) ⟨rfl, rfl, rfl, rfl, rfl, rfl, rfl, rfl, rfl, rfl, rfl, rfl, rfl, rfl, trivial⟩ <| hmemQ (X' := [_, _, _, _, _, _]) (S' := [_, _, _, _, _]) (fun _ m => m) <| hthen <| hret <| hqblock_ret <| hthen_ret <| ?_
        exact hretN1 trivial rfl rfl rfl ag54 sz54 rfl (fun m => (m.blk 0 rfl).cells0) [1] rfl [0] rfl ⟨y, st1, rfl, rfl, rfl, ⟨hW.1, keepP_ren hr⟩⟩
      · refine hpx (xh_alloc ti54 (fun g11 => ⟨(fun _ => wk [1, 1, 1, 1, 1] [0, 1, 2, 3] rfl rfl), ?_⟩))
        refine hpx (xh_call rfl Try.call66 (rrenameX okr (by omega) (by omega)) [] rfl [1] rfl ?_)
        rintro _ _ _ ⟨y, rfl, rfl, rfl, hp⟩
        refine ⟨(fun _ => wk [1, 1, 1, 1, 1] [1, 2, 3, 4] rfl rfl), ?_⟩
        refine hpyU (y_move rfl) <| hpyU (y_extract rfl rfl) <| hpyU (y_extract rfl rfl) <| ?_
        refine hpx0 (xh_stA 0 rfl rfl rfl sz54 rfl cs_one rfl ⟨(fun h => absurd h (by decide)), ?_⟩)
        have hyd := hp
        clear hp
        refine hpyU (y_assign rfl) <| hpend <| hsub (ρ' := [(12, _), (11, _), (39, _), (38, _), (10, _), (9, _), (8, _), (7, _), (6, _), (5, _), (4, _), (0, _), (1, _), (2, _)]) ⟨rfl, rfl, rfl, rfl, rfl, rfl, rfl, rfl, rfl, rfl, rfl, rfl, rfl, rfl, trivial⟩ <| hmemQ (X' := [_, _, _, _, _, _]) (S' := [_, _, _, _, _]) (fun _ m => m) <| hthen <| hseq <| hdrwB [0, 0, 0, 0, 0] [0, 1, 2, 3, 4] rfl rfl [5, 6, 9] [(0, some 2), (1, some 1), (2, some 1), (3, some 0), (4, some 0), (7, some 3), (5, none), (6, none), (8, some 3), (9, none), (10, some 3)] (by kernel_rfl) (by kernel_rfl) rfl 2 <| hty (fun m => yV (y_ldN rfl ag54 sz54 rfl ((m.blk 0 rfl).cells0)) ((rfl : _ = Value.agg y.cs.toArray))) <| htyU (y_move rfl) <| htyU (y_move rfl) <| htyU (y_fld rfl fa75_2 (by decide)) <| hty (fun m => y_ld1 rfl ag3 (ld_blk (m.blk 3 rfl) (i := 2) rfl)) <| htyU (y_move rfl) <| ?_
        refine htx (xh_call rfl Try.call64 (nameof12C (by omega) (by omega)) [] rfl [] rfl ?_)
        rintro _ _ _ ⟨rfl, rfl, rfl⟩
        refine ⟨(fun _ => wk [0, 0, 0, 0, 0] [0, 1, 2, 3, 4] rfl rfl), ?_⟩
        refine htx (xh_call rfl Try.call46 (renameC ok (by omega)) [5] rfl [] rfl ?_)
        rintro _ _ _ ⟨st1, A, j, rfl, rfl, rfl, hr⟩
        refine ⟨(fun _ => wk [1, 1, 1, 1, 1] [0, 1, 2, 3, 4] rfl rfl), ?_⟩
        have hW := hD.rename hr
        rw [← hyd] at hW
        refine htyU (yV (y_eql rfl rfl) ((show Value.bool (decide (renameE st (name12 p) (name12 t) = x.d.renameE (name12 p) (name12 t))) = .bool true by rw [decide_eq_true hW.2.symm]))) <| ?_
        refine htx0 (xh_stA 3 rfl rfl rfl sz54 rfl cs_one rfl ⟨(fun h => absurd h (by decide)), ?_⟩)
        refine htyU (y_assign rfl) <| htend <| hsub (ρ' := [(7, _), (12, _), (11, _), (39, _), (38, _), (10, _), (9, _), (8, _), (6, _), (5, _), (4, _), (0, _), (1, _), (2, _)]) ⟨rfl, rfl, rfl, rfl, rfl, rfl, rfl, rfl, rfl, rfl, rfl, rfl, rfl, rfl, trivial⟩ <| hmemQ (X' := [_, _, _, _, _, _]) (S' := [_, _, _, _, _]) (fun _ m => m) <| hthen <| hret <| hqblock_ret <| hthen_ret <| ?_
        exact hretN1 trivial rfl rfl rfl ag54 sz54 rfl (fun m => (m.blk 0 rfl).cells0) [1] rfl [0] rfl ⟨y, st1, rfl, rfl, rfl, ⟨hW.1, keepP_ren hr⟩⟩
    · refine hpx (xh_alloc ti54 (fun g11 => ⟨(fun _ => wk [1, 1, 1, 1, 1] [0, 1, 2, 3] rfl rfl), ?_⟩))
      refine hpx (xh_call rfl Try.call64 (nameof12C (by omega) (by omega)) [] rfl [] rfl ?_)
      rintro _ _ _ ⟨rfl, rfl, rfl⟩
      refine ⟨(fun _ => wk [1, 1, 1, 1, 1] [0, 1, 2, 3] rfl rfl), ?_⟩
      refine hpx (xh_call rfl Try.call66 (rrenameX okr (by omega) (by omega)) [] rfl [1] rfl ?_)
      rintro _ _ _ ⟨y, rfl, rfl, rfl, hp⟩
      refine ⟨(fun _ => wk [1, 1, 1, 1, 1] [1, 2, 3, 4] rfl rfl), ?_⟩
      refine hpyU (y_move rfl) <| hpyU (y_extract rfl rfl) <| hpyU (y_extract rfl rfl) <| ?_
      refine hpx0 (xh_stA 0 rfl rfl rfl sz54 rfl cs_one rfl ⟨(fun h => absurd h (by decide)), ?_⟩)
      have hyd := hp
      clear hp
      refine hpyU (y_assign rfl) <| hpend <| hsub (ρ' := [(12, _), (11, _), (39, _), (38, _), (10, _), (9, _), (8, _), (7, _), (6, _), (5, _), (4, _), (0, _), (1, _), (2, _)]) ⟨rfl, rfl, rfl, rfl, rfl, rfl, rfl, rfl, rfl, rfl, rfl, rfl, rfl, rfl, trivial⟩ <| hmemQ (X' := [_, _, _, _, _, _]) (S' := [_, _, _, _, _]) (fun _ m => m) <| hthen <| hseq <| hdrwB [0, 0, 0, 0, 0] [0, 1, 2, 3, 4] rfl rfl [5, 6, 9] [(0, some 2), (1, some 1), (2, some 1), (3, some 0), (4, some 0), (7, some 3), (5, none), (6, none), (8, some 3), (9, none), (10, some 3)] (by kernel_rfl) (by kernel_rfl) rfl 2 <| hty (fun m => yV (y_ldN rfl ag54 sz54 rfl ((m.blk 0 rfl).cells0)) ((rfl : _ = Value.agg y.cs.toArray))) <| htyU (y_move rfl) <| htyU (y_move rfl) <| htyU (y_fld rfl fa75_2 (by decide)) <| hty (fun m => y_ld1 rfl ag3 (ld_blk (m.blk 3 rfl) (i := 2) rfl)) <| htyU (y_move rfl) <| ?_
      refine htx (xh_call rfl Try.call64 (nameof12C (by omega) (by omega)) [] rfl [] rfl ?_)
      rintro _ _ _ ⟨rfl, rfl, rfl⟩
      refine ⟨(fun _ => wk [0, 0, 0, 0, 0] [0, 1, 2, 3, 4] rfl rfl), ?_⟩
      refine htx (xh_call rfl Try.call46 (renameC ok (by omega)) [5] rfl [] rfl ?_)
      rintro _ _ _ ⟨st1, A, j, rfl, rfl, rfl, hr⟩
      refine ⟨(fun _ => wk [1, 1, 1, 1, 1] [0, 1, 2, 3, 4] rfl rfl), ?_⟩
      have hW := hD.rename hr
      rw [← hyd] at hW
      refine htyU (yV (y_eql rfl rfl) ((show Value.bool (decide (renameE st (name12 p) (name12 t) = x.d.renameE (name12 p) (name12 t))) = .bool true by rw [decide_eq_true hW.2.symm]))) <| ?_
      refine htx0 (xh_stA 3 rfl rfl rfl sz54 rfl cs_one rfl ⟨(fun h => absurd h (by decide)), ?_⟩)
      refine htyU (y_assign rfl) <| htend <| hsub (ρ' := [(7, _), (12, _), (11, _), (39, _), (38, _), (10, _), (9, _), (8, _), (6, _), (5, _), (4, _), (0, _), (1, _), (2, _)]) ⟨rfl, rfl, rfl, rfl, rfl, rfl, rfl, rfl, rfl, rfl, rfl, rfl, rfl, rfl, trivial⟩ <| hmemQ (X' := [_, _, _, _, _, _]) (S' := [_, _, _, _, _]) (fun _ m => m) <| hthen <| hret <| hqblock_ret <| hthen_ret <| ?_
      exact hretN1 trivial rfl rfl rfl ag54 sz54 rfl (fun m => (m.blk 0 rfl).cells0) [1] rfl [0] rfl ⟨y, st1, rfl, rfl, rfl, ⟨hW.1, keepP_ren hr⟩⟩
  · refine hseq <| hreg <| hy (fun _ => y_eql rfl rfl) <| hy (fun _ => y_assign rfl) <| hend <| hsub (ρ' := [(59, _), (39, _), (38, _), (10, _), (9, _), (8, _), (7, _), (6, _), (5, _), (4, _), (0, _), (1, _), (2, _)]) ⟨rfl, rfl, rfl, rfl, rfl, rfl, rfl, rfl, rfl, rfl, rfl, rfl, rfl, trivial⟩ <| hthen <| ?_
    refine hif rfl (fun h5 => ?_) (fun h5 => ?_)
    · refine hseq <| hreg <| hy (fun m => yV (y_ldN rfl ag54 sz54 rfl ((m.blk 3 rfl).cells0)) ((rfl : _ = Value.agg x.cs.toArray))) <| hy (fun _ => y_move rfl) <| ?_
      refine hx (xh_call rfl Try.call67 (rremoveX okr (by omega)) [] rfl [1] rfl ?_)
      rintro _ _ _ ⟨y, rfl, rfl, rfl, hp⟩
      refine hy (fun _ => y_move rfl) <| hy (fun _ => y_extract rfl rfl) <| hy (fun _ => y_extract rfl rfl) <| ?_
      refine hx (xh_alloc ti54 (fun g13 => ?_))
      refine hx0 (xh_stA 0 rfl rfl rfl sz54 rfl cs_one rfl ?_)
      have hyd := hp
      clear hp
      refine hy (fun _ => y_assign rfl) <| hend <| hsub (ρ' := [(14, _), (13, _), (59, _), (39, _), (38, _), (10, _), (9, _), (8, _), (7, _), (6, _), (5, _), (4, _), (0, _), (1, _), (2, _)]) ⟨rfl, rfl, rfl, rfl, rfl, rfl, rfl, rfl, rfl, rfl, rfl, rfl, rfl, rfl, rfl, trivial⟩ <| hmemQ (X' := [_, _, _, _, _, _]) (S' := [_, _, _, _, _]) (fun _ m => m) <| hthen <| hseq <| hdrwB [0, 0, 0, 0, 0] [0, 1, 2, 3, 4] rfl rfl [3, 6] [(0, some 1), (1, some 0), (2, some 0), (4, some 2), (3, none), (5, some 2), (6, none), (7, some 2)] (by kernel_rfl) (by kernel_rfl) rfl 1 <| hty (fun m => yV (y_ldN rfl ag54 sz54 rfl ((m.blk 0 rfl).cells0)) ((rfl : _ = Value.agg y.cs.toArray))) <| htyU (y_move rfl) <| htyU (y_move rfl) <| htyU (y_move rfl) <| ?_
      refine htx (xh_call rfl Try.call33 (removeC ok (by omega)) [5] rfl [] rfl ?_)
      rintro _ _ _ ⟨st1, A, j, rfl, rfl, rfl, hr⟩
      refine ⟨(fun _ => wk [1, 1, 1, 1, 1] [0, 1, 2, 3, 4] rfl rfl), ?_⟩
      have hW := hD.remove hr
      rw [← hyd] at hW
      refine htyU (yV (y_eql rfl rfl) ((show Value.bool (decide (foundE st (name12 p) = x.d.readE (name12 p))) = .bool true by rw [decide_eq_true (hD.readE _).symm]))) <| ?_
      refine htx0 (xh_stA 3 rfl rfl rfl sz54 rfl cs_one rfl ⟨(fun h => absurd h (by decide)), ?_⟩)
      refine htyU (y_assign rfl) <| htend <| hsub (ρ' := [(7, _), (14, _), (13, _), (59, _), (39, _), (38, _), (10, _), (9, _), (8, _), (6, _), (5, _), (4, _), (0, _), (1, _), (2, _)]) ⟨rfl, rfl, rfl, rfl, rfl, rfl, rfl, rfl, rfl, rfl, rfl, rfl, rfl, rfl, rfl, trivial⟩ <| hmemQ (X' := [_, _, _, _, _, _]) (S' := [_, _, _, _, _]) (fun _ m => m) <| hthen <| hret <| hqblock_ret <| hthen_ret <| ?_
      exact hretN1 trivial rfl rfl rfl ag54 sz54 rfl (fun m => (m.blk 0 rfl).cells0) [1] rfl [0] rfl ⟨y, st1, rfl, rfl, rfl, ⟨hW, keepP_rem hr⟩⟩
    · refine hseq <| hreg <| hy (fun _ => y_eql rfl rfl) <| hy (fun _ => y_assign rfl) <| hend <| hsub (ρ' := [(73, _), (59, _), (39, _), (38, _), (10, _), (9, _), (8, _), (7, _), (6, _), (5, _), (4, _), (0, _), (1, _), (2, _)]) ⟨rfl, rfl, rfl, rfl, rfl, rfl, rfl, rfl, rfl, rfl, rfl, rfl, rfl, rfl, trivial⟩ <| hthen <| ?_
      refine hif rfl (fun h6 => ?_) (fun h6 => ?_)
      · refine hseq <| hreg <| hy (fun m => yV (y_ldN rfl ag54 sz54 rfl ((m.blk 3 rfl).cells0)) ((rfl : _ = Value.agg x.cs.toArray))) <| ?_
        refine hx (xh_call rfl Try.call68 (rsyncX okr) [] rfl [1] rfl ?_)
        rintro _ _ _ ⟨y, rfl, rfl, rfl, hp⟩
        refine hy (fun _ => y_move rfl) <| hy (fun _ => y_extract rfl rfl) <| hy (fun _ => y_extract rfl rfl) <| ?_
        refine hx (xh_alloc ti54 (fun g15 => ?_))
        refine hx0 (xh_stA 0 rfl rfl rfl sz54 rfl cs_one rfl ?_)
        have hyd := hp
        clear hp
        refine hy (fun _ => y_assign rfl) <| hend <| hsub (ρ' := [(16, _), (15, _), (73, _), (59, _), (39, _), (38, _), (10, _), (9, _), (8, _), (7, _), (6, _), (5, _), (4, _), (0, _), (1, _), (2, _)]) ⟨rfl, rfl, rfl, rfl, rfl, rfl, rfl, rfl, rfl, rfl, rfl, rfl, rfl, rfl, rfl, rfl, trivial⟩ <| hmemQ (X' := [_, _, _, _, _, _]) (S' := [_, _, _, _, _]) (fun _ m => m) <| hthen <| hseq <| hdrwB [0, 0, 0, 0, 0] [0, 1, 2, 3, 4] rfl rfl [2, 5] [(0, some 1), (1, some 0), (3, some 2), (2, none), (4, some 2), (5, none), (6, some 2)] (by kernel_rfl) (by kernel_rfl) rfl 1 <| hty (fun m => yV (y_ldN rfl ag54 sz54 rfl ((m.blk 0 rfl).cells0)) ((rfl : _ = Value.agg y.cs.toArray))) <| htyU (y_move rfl) <| htyU (y_move rfl) <| ?_
        refine htx (xh_call rfl Try.call36 (syncC ok) [5] rfl [] rfl ?_)
        rintro _ _ _ ⟨st1, gl, rfl, rfl, rfl, hr⟩
        refine ⟨(fun _ => wk [1, 1, 1, 1, 1] [0, 1, 2, 3, 4] rfl rfl), ?_⟩
        have hW := hD.sync hr
        rw [← hyd] at hW
        refine htyU (yV (y_eql rfl rfl) ((show Value.bool (decide (syncE st = x.d.syncE)) = .bool true by rw [decide_eq_true hW.2.symm]))) <| ?_
        refine htx0 (xh_stA 3 rfl rfl rfl sz54 rfl cs_one rfl ⟨(fun h => absurd h (by decide)), ?_⟩)
        refine htyU (y_assign rfl) <| htend <| hsub (ρ' := [(7, _), (16, _), (15, _), (73, _), (59, _), (39, _), (38, _), (10, _), (9, _), (8, _), (6, _), (5, _), (4, _), (0, _), (1, _), (2, _)]) ⟨rfl, rfl, rfl, rfl, rfl, rfl, rfl, rfl, rfl, rfl, rfl, rfl, rfl, rfl, rfl, rfl, trivial⟩ <| hmemQ (X' := [_, _, _, _, _, _]) (S' := [_, _, _, _, _]) (fun _ m => m) <| hthen <| hret <| hqblock_ret <| hthen_ret <| ?_
        exact hretN1 trivial rfl rfl rfl ag54 sz54 rfl (fun m => (m.blk 0 rfl).cells0) [1] rfl [0] rfl ⟨y, st1, rfl, rfl, rfl, ⟨hW.1.le (Nat.le_succ _), keepP_sync hr⟩⟩
      · refine hseq <| hreg <| hy (fun _ => y_eql rfl rfl) <| hy (fun _ => y_assign rfl) <| hend <| hsub (ρ' := [(85, _), (73, _), (59, _), (39, _), (38, _), (10, _), (9, _), (8, _), (7, _), (6, _), (5, _), (4, _), (0, _), (1, _), (2, _)]) ⟨rfl, rfl, rfl, rfl, rfl, rfl, rfl, rfl, rfl, rfl, rfl, rfl, rfl, rfl, rfl, trivial⟩ <| hthen <| ?_
        refine hif rfl (fun h7 => ?_) (fun h7 => ?_)
        · refine hseq <| hseq <| hreg <| hy (fun _ => y_fld rfl fa75_3 (by decide)) <| hy (fun m => y_ld1 rfl ag3 (ld_blk (m.blk 2 rfl) (i := 3) rfl)) <| ?_
          refine hy (fun m => y_rem' rfl rfl (by decide)) ?_
          refine hy (fun _ => y_neq rfl rfl) <| hend <| hsub (ρ' := [(90, _), (85, _), (73, _), (59, _), (39, _), (38, _), (10, _), (9, _), (8, _), (7, _), (6, _), (5, _), (4, _), (0, _), (1, _), (2, _)]) ⟨rfl, rfl, rfl, rfl, rfl, rfl, rfl, rfl, rfl, rfl, rfl, rfl, rfl, rfl, rfl, rfl, trivial⟩ <| hthen <| ?_
          refine hif rfl (fun h3 => ?_) (fun h3 => ?_)
          · refine hseq <| hreg <| hy (fun m => yV (y_ldN rfl ag54 sz54 rfl ((m.blk 3 rfl).cells0)) ((rfl : _ = Value.agg x.cs.toArray))) <| ?_
            refine hx0 (xh_stA 1 rfl rfl rfl sz54 rfl cs_one rfl ?_)
            refine hy (fun _ => y_assign rfl) <| hend <| hsub (ρ' := [(7, _), (90, _), (85, _), (73, _), (59, _), (39, _), (38, _), (10, _), (9, _), (8, _), (6, _), (5, _), (4, _), (0, _), (1, _), (2, _)]) ⟨rfl, rfl, rfl, rfl, rfl, rfl, rfl, rfl, rfl, rfl, rfl, rfl, rfl, rfl, rfl, rfl, trivial⟩ <| hmemQ (X' := [_, _, _, _, _]) (S' := [_, _, _, _]) (fun _ m => m) <| hthen <| hret <| hthen_ret <| hqblock_ret <| hthen_ret <| ?_
            exact hretN1 trivial rfl rfl rfl ag54 sz54 rfl (fun m => (m.blk 0 rfl).cells0) [4] rfl [1] rfl ⟨x, st, rfl, rfl, rfl, ⟨hD.le (Nat.le_succ _), keepP_same⟩⟩
          · have hm1 : (nn.tmod 7) - 1 ≤ 1000000000000 ∧ -1000 ≤ nn.tmod 7 := by
              have h1 := Int.tmod_lt_of_pos nn (show (0 : Int) < 7 by decide)
              have h2 := Int.lt_tmod_of_pos nn (show (0 : Int) < 7 by decide)
              omega
            refine hcskip <| hthen <| hseq <| hreg <| hy (fun _ => y_move rfl) <| hy (fun _ => y_fld rfl fa75_3 (by decide)) <| hy (fun m => y_ld1 rfl ag3 (ld_blk (m.blk 2 rfl) (i := 3) rfl)) <| ?_
            refine hy (fun m => y_rem' rfl rfl (by decide)) ?_
            refine hy (fun _ => y_sub rfl rfl (w64 (by omega) (by omega))) <| ?_
            refine hx (xh_call rfl Try.call30 (powerC) [4] rfl [] rfl ?_)
            rintro _ _ _ ⟨rfl, rfl, rfl⟩
            refine hend <| hsub (ρ' := [(90, _), (85, _), (73, _), (59, _), (39, _), (38, _), (10, _), (9, _), (8, _), (7, _), (6, _), (5, _), (4, _), (0, _), (1, _), (2, _)]) ⟨rfl, rfl, rfl, rfl, rfl, rfl, rfl, rfl, rfl, rfl, rfl, rfl, rfl, rfl, rfl, rfl, trivial⟩ <| hmemQ (X' := [_, _, _, _, _]) (S' := [_, _, _, _]) (fun _ m => m) <| hthen <| hseq <| hreg <| hy (fun m => yV (y_ldN rfl ag54 sz54 rfl ((m.blk 4 rfl).cells0)) ((rfl : _ = Value.agg x.cs.toArray))) <| hy (fun _ => y_fld rfl fa75_3 (by decide)) <| hy (fun m => y_ld1 rfl ag3 (ld_blk (m.blk 3 rfl) (i := 3) rfl)) <| ?_
            refine hy (fun m => y_rem' rfl rfl (by decide)) ?_
            refine hy (fun _ => y_sub rfl rfl (w64 (by omega) (by omega))) <| ?_
            refine hx (xh_call rfl Try.call69 (rpowerX) [] rfl [1] rfl ?_)
            rintro _ _ _ ⟨y, rfl, rfl, rfl, hp⟩
            refine hx0 (xh_stA 2 rfl rfl rfl sz54 rfl cs_one rfl ?_)
            have hyd := hp
            have hW := hD.power hm1.1
            rw [← hyd] at hW
            refine hy (fun _ => y_assign rfl) <| hend <| hsub (ρ' := [(7, _), (90, _), (85, _), (73, _), (59, _), (39, _), (38, _), (10, _), (9, _), (8, _), (6, _), (5, _), (4, _), (0, _), (1, _), (2, _)]) ⟨rfl, rfl, rfl, rfl, rfl, rfl, rfl, rfl, rfl, rfl, rfl, rfl, rfl, rfl, rfl, rfl, trivial⟩ <| hmemQ (X' := [_, _, _, _, _]) (S' := [_, _, _, _, _]) (fun _ m => m) <| hthen <| hret <| hqblock_ret <| hthen_ret <| ?_
            exact hretN1 trivial rfl rfl rfl ag54 sz54 rfl (fun m => (m.blk 0 rfl).cells0) [1] rfl [0] rfl ⟨y, _, rfl, rfl, rfl, ⟨hW.le (Nat.le_succ _), fun h _ => absurd h7 h⟩⟩
        · refine hseq <| hreg <| hy (fun _ => y_eql rfl rfl) <| hy (fun _ => y_assign rfl) <| hend <| hsub (ρ' := [(104, _), (85, _), (73, _), (59, _), (39, _), (38, _), (10, _), (9, _), (8, _), (7, _), (6, _), (5, _), (4, _), (0, _), (1, _), (2, _)]) ⟨rfl, rfl, rfl, rfl, rfl, rfl, rfl, rfl, rfl, rfl, rfl, rfl, rfl, rfl, rfl, rfl, trivial⟩ <| hthen <| ?_
          refine hif rfl (fun h8 => ?_) (fun h8 => ?_)
          · refine hseq <| hseq <| hreg <| hy (fun _ => y_fld rfl fa75_3 (by decide)) <| hy (fun m => y_ld1 rfl ag3 (ld_blk (m.blk 2 rfl) (i := 3) rfl)) <| ?_
            refine hy (fun m => y_rem' rfl rfl (by decide)) ?_
            refine hy (fun _ => y_neq rfl rfl) <| hend <| hsub (ρ' := [(109, _), (104, _), (85, _), (73, _), (59, _), (39, _), (38, _), (10, _), (9, _), (8, _), (7, _), (6, _), (5, _), (4, _), (0, _), (1, _), (2, _)]) ⟨rfl, rfl, rfl, rfl, rfl, rfl, rfl, rfl, rfl, rfl, rfl, rfl, rfl, rfl, rfl, rfl, rfl, trivial⟩ <| hthen <| ?_
            refine hif rfl (fun h3 => ?_) (fun h3 => ?_)
            · refine hseq <| hreg <| hy (fun m => yV (y_ldN rfl ag54 sz54 rfl ((m.blk 3 rfl).cells0)) ((rfl : _ = Value.agg x.cs.toArray))) <| ?_
              refine hx0 (xh_stA 1 rfl rfl rfl sz54 rfl cs_one rfl ?_)
              refine hy (fun _ => y_assign rfl) <| hend <| hsub (ρ' := [(7, _), (109, _), (104, _), (85, _), (73, _), (59, _), (39, _), (38, _), (10, _), (9, _), (8, _), (6, _), (5, _), (4, _), (0, _), (1, _), (2, _)]) ⟨rfl, rfl, rfl, rfl, rfl, rfl, rfl, rfl, rfl, rfl, rfl, rfl, rfl, rfl, rfl, rfl, rfl, trivial⟩ <| hmemQ (X' := [_, _, _, _, _]) (S' := [_, _, _, _]) (fun _ m => m) <| hthen <| hret <| hthen_ret <| hqblock_ret <| hthen_ret <| ?_
              exact hretN1 trivial rfl rfl rfl ag54 sz54 rfl (fun m => (m.blk 0 rfl).cells0) [4] rfl [1] rfl ⟨x, st, rfl, rfl, rfl, ⟨hD.le (Nat.le_succ _), keepP_same⟩⟩
            · have hbt : (bools bs).take (min mk 20 * 1) = bools (bs.take (min mk 20)) := by rw [Nat.mul_one]; simp [bools, List.map_take]
              rw [hbt]
              refine hcskip <| hthen <| hseq <| hreg <| hy (fun _ => y_move rfl) <| hy (fun _ => y_move rfl) <| ?_
              refine hx (xh_call rfl Try.call13 (restartAC (by omega) (by omega) (by omega)) [4] rfl [0] rfl ?_)
              rintro _ _ _ ⟨gs, rfl, rfl, rfl⟩
              refine hend <| hsub (ρ' := [(109, _), (104, _), (85, _), (73, _), (59, _), (39, _), (38, _), (10, _), (9, _), (8, _), (7, _), (6, _), (5, _), (4, _), (0, _), (1, _), (2, _)]) ⟨rfl, rfl, rfl, rfl, rfl, rfl, rfl, rfl, rfl, rfl, rfl, rfl, rfl, rfl, rfl, rfl, rfl, trivial⟩ <| hmemQ (X' := [_, _, _, _, _]) (S' := [_, _, _, _]) (fun _ m => m) <| hthen <| hseq <| hreg <| hy (fun m => yV (y_ldN rfl ag54 sz54 rfl ((m.blk 4 rfl).cells0)) ((rfl : _ = Value.agg x.cs.toArray))) <| hy (fun _ => y_move rfl) <| ?_
              refine hx (xh_call rfl Try.call39 (rrestartX (by omega) okr (by omega) (by omega) (by omega) hwb) [] rfl [1, 0] rfl ?_)
              rintro _ _ _ ⟨y, rfl, rfl, rfl, hp⟩
              refine hx0 (xh_stA 2 rfl rfl rfl sz54 rfl cs_one rfl ?_)
              have hyd := hp
              have hW := hD.restart (bs.take (min mk 20)) gs
              rw [← hyd] at hW
              refine hy (fun _ => y_assign rfl) <| hend <| hsub (ρ' := [(7, _), (109, _), (104, _), (85, _), (73, _), (59, _), (39, _), (38, _), (10, _), (9, _), (8, _), (6, _), (5, _), (4, _), (0, _), (1, _), (2, _)]) ⟨rfl, rfl, rfl, rfl, rfl, rfl, rfl, rfl, rfl, rfl, rfl, rfl, rfl, rfl, rfl, rfl, rfl, trivial⟩ <| hmemQ (X' := [_, _, _, _, _]) (S' := [_, _, _, _, _]) (fun _ m => m) <| hthen <| hret <| hqblock_ret <| hthen_ret <| ?_
              exact hretN1 trivial rfl rfl rfl ag54 sz54 rfl (fun m => (m.blk 0 rfl).cells0) [1] rfl [0] rfl ⟨y, _, rfl, rfl, rfl, ⟨hW.le (Nat.le_succ _), fun _ _ => rfl⟩⟩
          · refine hseq <| hreg <| hy (fun _ => y_eql rfl rfl) <| hy (fun _ => y_assign rfl) <| hend <| hsub (ρ' := [(117, _), (104, _), (85, _), (73, _), (59, _), (39, _), (38, _), (10, _), (9, _), (8, _), (7, _), (6, _), (5, _), (4, _), (0, _), (1, _), (2, _)]) ⟨rfl, rfl, rfl, rfl, rfl, rfl, rfl, rfl, rfl, rfl, rfl, rfl, rfl, rfl, rfl, rfl, rfl, trivial⟩ <| hthen <| ?_
            refine hif rfl (fun h9 => ?_) (fun h9 => ?_)
            · refine hseq <| hreg <| hy (fun _ => y_move rfl) <| hy (fun _ => y_move rfl) <| ?_
              refine hx (xh_call rfl Try.call32 (readC hsm) [4] rfl [] rfl ?_)
              rintro _ _ _ ⟨v2, rfl, rfl, rfl⟩
              refine hfactL (fun m => (m.own 1 rfl).slice) ?_
              rintro ⟨A_x2, c_x2, rfl, hc_x2⟩
              refine hfactL (fun m => (m.ord 1 rfl).2.1) fun hA_x2 => ?_
              refine hy (fun _ => y_move rfl) <| hy (fun _ => y_extract rfl rfl) <| hy (fun _ => y_extract rfl rfl) <| hy (fun _ => y_assign rfl) <| hy (fun _ => y_assign rfl) <| hend <| hsub (ρ' := [(18, _), (17, _), (117, _), (104, _), (85, _), (73, _), (59, _), (39, _), (38, _), (10, _), (9, _), (8, _), (7, _), (6, _), (5, _), (4, _), (0, _), (1, _), (2, _)]) ⟨rfl, rfl, rfl, rfl, rfl, rfl, rfl, rfl, rfl, rfl, rfl, rfl, rfl, rfl, rfl, rfl, rfl, rfl, rfl, trivial⟩ <| hmemQ (X' := [_, _, _, _, _, _]) (S' := [_, _, _, _]) (fun _ m => m) <| hthen <| hseq <| hreg <| hy (fun m => yV (y_ldN rfl ag54 sz54 rfl ((m.blk 5 rfl).cells0)) ((rfl : _ = Value.agg x.cs.toArray))) <| hy (fun _ => y_move rfl) <| ?_
              refine hx (xh_call rfl Try.call62 (rreadX okr (by omega)) [] rfl [1] rfl ?_)
              rintro _ _ _ ⟨rfl, rfl, rfl⟩
              refine hy (fun _ => y_move rfl) <| hy (fun _ => y_extract rfl rfl) <| hy (fun _ => y_extract rfl rfl) <| hy (fun _ => y_assign rfl) <| hy (fun _ => y_assign rfl) <| hend <| hsub (ρ' := [(20, _), (19, _), (18, _), (17, _), (117, _), (104, _), (85, _), (73, _), (59, _), (39, _), (38, _), (10, _), (9, _), (8, _), (7, _), (6, _), (5, _), (4, _), (0, _), (1, _), (2, _)]) ⟨rfl, rfl, rfl, rfl, rfl, rfl, rfl, rfl, rfl, rfl, rfl, rfl, rfl, rfl, rfl, rfl, rfl, rfl, rfl, rfl, rfl, trivial⟩ <| hmemQ (X' := [_, _, _, _, _, _]) (S' := [_, _, _, _]) (fun _ m => m) <| hthen <| hseq <| hdrwB [0, 0, 0, 1, 1] [0, 1, 2, 3] rfl rfl [10] [(0, some 0), (1, some 0), (2, some 0), (3, some 0), (4, some 0), (5, some 1), (6, some 1), (7, some 1), (8, some 1), (9, some 1), (10, none), (11, some 1)] (by kernel_rfl) (by kernel_rfl) rfl 99 <| hty (fun m => yV (y_ldN rfl ag54 sz54 rfl ((m.blk 4 rfl).cells0)) ((rfl : _ = Value.agg x.cs.toArray))) <| htyU (y_move rfl) <| htyU (y_move rfl) <| htyU (yT (y_eql rfl rfl) ((decide_eq_true (hD.readE _).symm))) <| htyU (y_move rfl) <| htyUg (o := _) rfl rfl rfl (y_move rfl) <| htyg (o := _) rfl rfl rfl (fun m => y_b2s rfl Try.underlying44 Try.underlying5 Try.underlying9 (m.ord 1 rfl)) <| htyUg (o := _) rfl rfl rfl (y_move rfl) <| htyUg (o := _) rfl rfl rfl (yT (y_seq rfl rfl) ((decide_eq_true (congrArg strOf (hD.readB _).symm)))) <| htyU (y_pickT rfl rfl) <| ?_
              refine htx0 (xh_stA 3 rfl rfl rfl sz54 rfl cs_one rfl ⟨(fun _ => wk [1, 1, 1, 1, 1] [0, 1, 2, 3] rfl rfl), ?_⟩)
              refine htyU (y_assign rfl) <| htend <| hsub (ρ' := [(7, _), (20, _), (19, _), (18, _), (17, _), (117, _), (104, _), (85, _), (73, _), (59, _), (39, _), (38, _), (10, _), (9, _), (8, _), (6, _), (5, _), (4, _), (0, _), (1, _), (2, _)]) ⟨rfl, rfl, rfl, rfl, rfl, rfl, rfl, rfl, rfl, rfl, rfl, rfl, rfl, rfl, rfl, rfl, rfl, rfl, rfl, rfl, rfl, trivial⟩ <| hmemQ (X' := [_, _, _, _, _, _]) (S' := [_, _, _, _]) (fun _ m => m) <| hthen <| hret <| hqblock_ret <| hthen_ret <| ?_
              exact hretN1 trivial rfl rfl rfl ag54 sz54 rfl (fun m => (m.blk 0 rfl).cells0) [1] rfl [1] rfl ⟨x, st, rfl, rfl, rfl, ⟨hD.le (Nat.le_succ _), keepP_same⟩⟩
            · have hq30 : min mb 30 ≤ 30 := Nat.min_le_right _ _
              have hql : (lb.take 30).length = min mb 30 := by rw [List.length_take]; omega
              generalize min mb 30 = q0 at hq30 hql hA_x hc_x ⊢
              generalize lb.take 30 = bb at hql ⊢
              refine hcskip <| hqblock <| hthen <| hseq <| hreg <| hy (fun m => yV (y_ldN rfl ag54 sz54 rfl ((m.blk 3 rfl).cells0)) ((rfl : _ = Value.agg x.cs.toArray))) <| hy (fun _ => y_move rfl) <| hy (fun _ => y_move rfl) <| hy (fun m => y_b2s rfl Try.underlying44 Try.underlying5 Try.underlying9 (m.ord 0 rfl)) <| ?_
              refine hx (xh_call rfl Try.call24 (rwriteX okr (by omega) (by omega) (by omega)) [] rfl [1] rfl ?_)
              rintro _ _ _ ⟨y, rfl, rfl, rfl, hyd⟩
              refine hy (fun _ => y_move rfl) <| hy (fun _ => y_extract rfl rfl) <| hy (fun _ => y_extract rfl rfl) <| ?_
              refine hx (xh_alloc ti54 (fun g21 => ?_))
              refine hx0 (xh_stA 0 rfl rfl rfl sz54 rfl cs_one rfl ?_)
              refine hy (fun _ => y_assign rfl) <| hend <| hsub (ρ' := [(22, _), (21, _), (117, _), (104, _), (85, _), (73, _), (59, _), (39, _), (38, _), (10, _), (9, _), (8, _), (7, _), (6, _), (5, _), (4, _), (0, _), (1, _), (2, _)]) ⟨rfl, rfl, rfl, rfl, rfl, rfl, rfl, rfl, rfl, rfl, rfl, rfl, rfl, rfl, rfl, rfl, rfl, rfl, rfl, trivial⟩ <| hmemQ (X' := [_, _, _, _, _, _]) (S' := [_, _, _, _, _]) (fun _ m => m) <| hthen <| hseq <| hdrwB [0, 0, 0, 0, 0] [0, 1, 2, 3, 4] rfl rfl [4, 7] [(0, some 1), (1, some 0), (2, some 0), (3, some 0), (5, some 2), (4, none), (6, some 2), (7, none), (8, some 2)] (by kernel_rfl) (by kernel_rfl) rfl 1 <| hty (fun m => yV (y_ldN rfl ag54 sz54 rfl ((m.blk 0 rfl).cells0)) ((rfl : _ = Value.agg y.cs.toArray))) <| htyU (y_move rfl) <| htyU (y_move rfl) <| htyU (y_move rfl) <| htyU (y_move rfl) <| ?_
              refine htx (xh_calll rfl Try.call25 (writeC ok (by omega) (by omega)) [5] rfl (.x 1 rfl .own .nil) ?_)
              rintro _ _ _ ⟨st1, B2, c1, A1, c2, rfl, rfl, rfl, hr⟩
              refine ⟨rfl, ?_⟩
              refine ⟨(fun _ => wk [1, 1, 1, 1, 1] [0, 1, 2, 3, 4] rfl rfl), ?_⟩
              have hW := hD.write hql (by omega) hr
              rw [← hyd] at hW
              refine htyU (yV (y_eql rfl rfl) ((show Value.bool (decide (writeE st (name12 p) q0 = x.d.writeE (name12 p) bb)) = .bool true by rw [decide_eq_true hW.2.symm]))) <| ?_
              refine htx0 (xh_stA 3 rfl rfl rfl sz54 rfl cs_one rfl ⟨(fun h => absurd h (by decide)), ?_⟩)
              refine htyU (y_assign rfl) <| htend <| hsub (ρ' := [(7, _), (22, _), (21, _), (117, _), (104, _), (85, _), (73, _), (59, _), (39, _), (38, _), (10, _), (9, _), (8, _), (6, _), (5, _), (4, _), (0, _), (1, _), (2, _)]) ⟨rfl, rfl, rfl, rfl, rfl, rfl, rfl, rfl, rfl, rfl, rfl, rfl, rfl, rfl, rfl, rfl, rfl, rfl, rfl, trivial⟩ <| hmemQ (X' := [_, _, _, _, _, _]) (S' := [_, _, _, _, _]) (fun _ m => m) <| hthen <| hret <| ?_
              exact hretN1 trivial rfl rfl rfl ag54 sz54 rfl (fun m => (m.blk 0 rfl).cells0) [1] rfl [0] rfl ⟨y, st1, rfl, rfl, rfl, ⟨hW.1, keepP_write hr⟩⟩
end Go.Proofs.Ytflcokdkobhieaa
