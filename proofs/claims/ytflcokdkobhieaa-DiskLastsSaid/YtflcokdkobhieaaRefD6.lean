/- Contracts: the document's disk (layer 12): Restart, names of a small world. -/
import Derived.Test.YtflcokdkobhieaaRefD5
import Derived.Test.YtflcokdkobhieaaSort1
set_option linter.unusedVariables false
set_option linter.unusedSimpArgs false
set_option maxRecDepth 20000
namespace Go.Proofs.Ytflcokdkobhieaa
open Go.Eng Go.Hx
theorem flat_get {α : Type} {f : α → List Value} {k : Nat} (hf : ∀ x, (f x).length = k) : ∀ (l : List α) (i j : Nat) (x : α), l[i]? = some x → j < k → (l.flatMap f)[i * k + j]? = (f x)[j]?
  | [], i, j, x, h, hj => by simp at h
  | a :: r, 0, j, x, h, hj => by
    simp only [List.getElem?_cons_zero, Option.some.injEq] at h
    subst h
    rw [List.flatMap_cons, Nat.zero_mul, Nat.zero_add, List.getElem?_append_left (by rw [hf]; exact hj)]
  | a :: r, i + 1, j, x, h, hj => by
    rw [List.flatMap_cons, List.getElem?_append_right (by rw [hf, Nat.succ_mul]; omega), hf, show (i + 1) * k + j - k = i * k + j by rw [Nat.succ_mul]; omega]
    exact flat_get hf r i j x (by simpa using h) hj
theorem flat_cells {α : Type} {f : α → List Value} {k : Nat} {w : World} {A : Option Addr} {n i : Nat} {l : List α} {x : α} (hf : ∀ x, (f x).length = k) (h : Rd w k A n (l.flatMap f)) (hx : l[i]? = some x) : ∀ (j : Nat) (u : Value), (f x)[j]? = some u → w.cell? (((A.getD d0).add (i * k)).add j) = some u := by
  intro j u hu
  have hj : j < k := by have := (List.getElem?_eq_some_iff.1 hu).1; rwa [hf] at this
  exact rd_fld h (by rw [flat_get hf l i j x hx hj]; exact hu)
theorem wcs_cells {w : World} {A : Option Addr} {n i : Nat} {l : List RC} {x : RC} (h : Rd w 4 A n (wcs l)) (hx : l[i]? = some x) : ∀ (j : Nat) (u : Value), (cv x.1 x.2.1 x.2.2.1 x.2.2.2)[j]? = some u → w.cell? (((A.getD d0).add (i * 4)).add j) = some u :=
  flat_cells (f := fun x : RC => cv x.1 x.2.1 x.2.2.1 x.2.2.2) (fun _ => rfl) h hx
/-- one change that waits, at a restart -/
def dstep (s : List Bool × List FP) (c : RC) : List Bool × List FP :=
  if s.1.headD false then
    if c.1 = 0 then (s.1.tail.tail, makeF s.2 c.1 c.2.1 c.2.2.1 (if s.1.tail.headD false then c.2.2.2 else c.2.2.2.take (c.2.2.2.length / 2)))
    else (s.1.tail, makeF s.2 c.1 c.2.1 c.2.2.1 c.2.2.2)
  else (s.1.tail, s.2)
def dfold (keep : List Bool) (d : RD) (i : Nat) : List Bool × List FP := (d.waits.take i).foldl dstep (keep, d.lasts)
theorem dfold_succ {keep : List Bool} {d : RD} {i : Nat} {c : RC} (h : d.waits[i]? = some c) : dfold keep d (i + 1) = dstep (dfold keep d i) c := by
  unfold dfold
  obtain ⟨hi, rfl⟩ := List.getElem?_eq_some_iff.1 h
  rw [List.take_succ_eq_append_getElem hi, List.foldl_append]
  rfl
def RD.restart (d : RD) (keep : List Bool) : RD := { d with seen := (dfold keep d d.waits.length).2, lasts := (dfold keep d d.waits.length).2, waits := [], pw := -1 }
theorem head_drop {bs : List Bool} {at_ : Nat} (h : at_ < bs.length) : (bools bs)[at_]? = some (.bool ((bs.drop at_).headD false)) := by
  have : bs.drop at_ = bs[at_] :: bs.drop (at_ + 1) := List.drop_eq_getElem_cons h
  rw [this]
  simp [bools, List.getElem?_map, List.getElem?_eq_getElem h]
theorem head_lt {bs : List Bool} {at_ : Nat} (h : (bs.drop at_).headD false = true) : at_ < bs.length := by
  refine Decidable.byContradiction fun hn => ?_
  rw [List.drop_eq_nil_of_le (by omega)] at h
  cases h
theorem tail_drop {bs : List Bool} {at_ : Nat} : (bs.drop at_).tail = bs.drop (at_ + 1) := List.tail_drop
theorem rrestartX {x : RX} {kk : Nat} {A : Option Addr} {n c : Nat} {bs : List Bool} (hc : n ≤ c) (ok : ROk x.d kk) (hkk : kk ≤ 100000) (hla : x.d.lasts.length ≤ 100000) (hn : n ≤ 1000000) (hbw : ∀ c ∈ x.d.waits, c.2.2.2.length ≤ 1048576) : Con Try.prog 39 [.agg x.cs.toArray, .slice A n c] [] [RRef x, RRd 1 A n (bools bs)] (fun v_ X_ S_ => ∃ y, v_ = (.agg y.cs.toArray) ∧ X_ = [] ∧ S_ = [RRef y] ∧ (y.d = x.d.restart bs)) := by
  have hw2 := ok.waits
  have hbl : (bools bs).length = bs.length := by simp [bools]
  refine henter (N := 82) Try.func39 rfl rfl (by simp) fun b => ?_
  refine hfactC (fun m => rdX (m.rd 1 rfl)) ?_
  rintro ⟨hl_k, hA_k⟩
  have hbn : bs.length = n := by omega
  refine hseq <| hreg <| ?_
  refine hx (xh_box rfl (fun g2 => ?_))
  refine hmemL (fun w m => m.eqX 0 rfl (show _ = RBlk g2 54 (dv x.d.room (.slice x.A x.d.seen.length x.c) (.slice x.Al x.d.lasts.length x.cl) (.slice x.A3 x.d.waits.length x.c3) x.d.pw) from congrArg (RBlk _ _) (cells_agg _))) ?_
  refine hmemL (fun w m => m.asV 0 rfl View.ref1) ?_
  refine hfactL (fun m => rdX (m.rd 0 rfl)) ?_
  rintro ⟨hl_r1, hA_r1⟩
  refine hmemL (fun w m => m.asV 1 rfl View.ref2) ?_
  refine hfactL (fun m => rdX (m.rd 0 rfl)) ?_
  rintro ⟨hl_r2, hA_r2⟩
  refine hx (xh_alloc ti54 (fun g4 => ?_))
  refine hend <| hmemQ (X' := [_, _]) (S' := [_, _, _, _]) (fun _ m => m) <| hthen <| hseq <| hreg <| hy (fun _ => y_assign rfl) <| hend <| hthen <| hseq <| hseq <| hreg <| hy (fun _ => y_assign rfl) <| hend <| hthen <| hblock <| ?_
  refine hloop5 (fun i at_ L A1 c1 => x.d.waits.length - i) (fun i at_ L A1 c1 => [(5, .int .i64 (at_ : Nat)), (6, .int .i64 (i : Nat))]) (fun i at_ L A1 c1 => [RBlk g2 54 (dv x.d.room (.slice x.A x.d.seen.length x.c) (.slice A1 L.length c1) (.slice x.A3 x.d.waits.length x.c3) x.d.pw)]) (fun i at_ L A1 c1 => [RRd 2 A1 L.length (fc L)]) (fun i at_ L A1 c1 => i ≤ x.d.waits.length ∧ (bs.drop at_, L) = dfold bs x.d i ∧ at_ ≤ 2 * i ∧ L.length ≤ x.d.lasts.length + i) 0 0 x.d.lasts x.Al x.cl [(4, _), (2, _), (0, _), (1, _)] ⟨rfl, rfl, rfl, rfl, trivial⟩ [1] rfl [1] rfl (⟨Nat.zero_le _, by simp [dfold], by omega, by omega⟩) ⟨rfl, rfl, trivial⟩ (fun i at_ L A1 c1 ⟨hi, hf, hat, hL⟩ => ?_)
  refine hseq <| hseq <| hreg <| hy (fun _ => y_move rfl) <| hy (fun _ => y_fld rfl fa54_3 (by decide)) <| hy (fun m => y_ld1 rfl ag52 (ld_blk (m.blk 0 rfl) (i := 3) rfl)) <| hy (fun _ => y_lenS rfl Try.underlying52) <| hy (fun _ => y_lss rfl rfl) <| hend <| hsub (ρ' := [(14, _), (5, _), (6, _), (4, _), (2, _), (0, _), (1, _)]) ⟨rfl, rfl, rfl, rfl, rfl, rfl, rfl, trivial⟩ <| hthen <| ?_
  refine hif rfl (fun hlt => ?_) (fun hlt => ?_)
  · obtain ⟨ch, hch⟩ : ∃ ch, x.d.waits[i]? = some ch := ⟨_, List.getElem?_eq_getElem (by omega)⟩
    have hfs := dfold_succ (keep := bs) hch
    rw [← hf] at hfs
    by_cases hb : (bs.drop at_).headD false = true
    · have hlt1 := head_lt hb
      have hbit := head_drop hlt1
      rw [hb] at hbit
      have hds : dstep (bs.drop at_, L) ch = if ch.1 = 0 then (bs.drop (at_ + 2), makeF L ch.1 ch.2.1 ch.2.2.1 (if (bs.drop (at_ + 1)).headD false then ch.2.2.2 else ch.2.2.2.take (ch.2.2.2.length / 2))) else (bs.drop (at_ + 1), makeF L ch.1 ch.2.1 ch.2.2.1 ch.2.2.2) := by
        unfold dstep
        rw [if_pos hb]
        simp only [tail_drop]
      rw [hds] at hfs
      refine hcskip <| hthen <| hseq <| hblock <| hseq <| hreg <| hy (fun _ => y_move rfl) <| hy (fun _ => y_move rfl) <| hy (fun _ => y_lenS rfl Try.underlying27) <| hy (fun _ => yT (y_lss rfl rfl) ((decide_eq_true (by omega)))) <| hy (fun _ => y_move rfl) <| hyg (o := _) rfl rfl rfl (fun _ => y_move rfl) <| hyg (o := _) rfl rfl rfl (fun _ => y_move rfl) <| hyg (o := _) rfl rfl rfl (fun _ => y_move rfl) <| hyg (o := _) rfl rfl rfl (fun _ => y_lenS rfl Try.underlying27) <| hyg (o := _) rfl rfl rfl (fun _ => y_sub rfl rfl (w64 (by omega) (by omega))) <| hyg (o := _) rfl rfl rfl (fun _ => y_max rfl rfl) <| hyg (o := _) rfl rfl rfl (fun _ => y_min rfl rfl) <| hyg (o := _) rfl rfl rfl (fun _ => y_idxS1 rfl rfl Try.underlying27 sz4 hA_k (show ((at_ : Nat) : Int) = _ by omega) (by omega)) <| hyg (o := _) rfl rfl rfl (fun m => yV (y_ld1 rfl ag4 ((m.rd 4 rfl).cell (j := at_) hbit)) ((rfl : _ = Value.bool true))) <| hy (fun _ => y_pickT rfl rfl) <| hy (fun _ => y_assign rfl) <| hend <| hsub (ρ' := [(7, _), (14, _), (5, _), (6, _), (4, _), (2, _), (0, _), (1, _)]) ⟨rfl, rfl, rfl, rfl, rfl, rfl, rfl, rfl, trivial⟩ <| hthen <| hseq <| hreg <| hy (fun _ => y_move rfl) <| hy (fun _ => y_add rfl rfl (w64 (by omega) (by omega))) <| hy (fun _ => y_assign rfl) <| hend <| hsub (ρ' := [(5, _), (7, _), (14, _), (6, _), (4, _), (2, _), (0, _), (1, _)]) ⟨rfl, rfl, rfl, rfl, rfl, rfl, rfl, rfl, trivial⟩ <| hthen <| hseq <| hseq <| hreg <| hy (fun _ => y_move rfl) <| hy (fun _ => (y_not rfl)) <| hend <| hsub (ρ' := [(35, _), (5, _), (7, _), (14, _), (6, _), (4, _), (2, _), (0, _), (1, _)]) ⟨rfl, rfl, rfl, rfl, rfl, rfl, rfl, rfl, rfl, trivial⟩ <| hthen <| ?_
      refine hiff rfl (rfl) ?_
      refine hcskip <| hthen <| hseq <| hreg <| hy (fun _ => y_fld rfl fa54_3 (by decide)) <| hy (fun m => y_ld1 rfl ag52 (ld_blk (m.blk 0 rfl) (i := 3) rfl)) <| hy (fun _ => y_move rfl) <| hy (fun _ => y_idxS rfl rfl Try.underlying52 sz105 hA_r2 rfl (by omega)) <| hy (fun m => yV (y_ldN rfl ag105 sz105 rfl (wcs_cells (m.rd 1 rfl) hch)) ((rfl : _ = Value.agg (cv ch.1 ch.2.1 ch.2.2.1 ch.2.2.2).toArray))) <| ?_
      refine hx (xh_alloc ti105 (fun g8 => ?_))
      refine hx0 (xh_stA 0 rfl rfl rfl sz105 rfl (wcs_one (l := [ch])) rfl ?_)
      refine hmemL (fun w m => m.eqX 0 rfl (show _ = RBlk g8 105 (cv ch.1 ch.2.1 ch.2.2.1 ch.2.2.2) from rfl)) ?_
      refine hend <| hsub (ρ' := [(8, _), (35, _), (5, _), (7, _), (14, _), (6, _), (4, _), (2, _), (0, _), (1, _)]) ⟨rfl, rfl, rfl, rfl, rfl, rfl, rfl, rfl, rfl, rfl, trivial⟩ <| hmemQ (X' := [_, _, _]) (S' := [_, _, _, _, _]) (fun _ m => m) <| hthen <| hseq <| hseq <| hreg <| hy (fun _ => y_fld rfl fa105_0 (by decide)) <| hy (fun m => y_ld1 rfl ag3 (ld_blk (m.blk 0 rfl) (i := 0) rfl)) <| hy (fun _ => y_eql rfl rfl) <| hend <| hsub (ρ' := [(43, _), (8, _), (35, _), (5, _), (7, _), (14, _), (6, _), (4, _), (2, _), (0, _), (1, _)]) ⟨rfl, rfl, rfl, rfl, rfl, rfl, rfl, rfl, rfl, rfl, rfl, trivial⟩ <| hthen <| ?_
      refine hif rfl (fun hk => ?_) (fun hk => ?_)
      · rw [if_pos hk] at hfs
        by_cases hb2 : (bs.drop (at_ + 1)).headD false = true
        · have hlt2 := head_lt hb2
          have hbit2 := head_drop hlt2
          rw [hb2] at hbit2
          rw [if_pos hb2] at hfs
          refine hseq <| hreg <| hy (fun _ => y_move rfl) <| hy (fun _ => y_move rfl) <| hy (fun _ => y_lenS rfl Try.underlying27) <| hy (fun _ => yT (y_lss rfl rfl) ((decide_eq_true (by omega)))) <| hy (fun _ => y_move rfl) <| hyg (o := _) rfl rfl rfl (fun _ => y_move rfl) <| hyg (o := _) rfl rfl rfl (fun _ => y_move rfl) <| hyg (o := _) rfl rfl rfl (fun _ => y_move rfl) <| hyg (o := _) rfl rfl rfl (fun _ => y_lenS rfl Try.underlying27) <| hyg (o := _) rfl rfl rfl (fun _ => y_sub rfl rfl (w64 (by omega) (by omega))) <| hyg (o := _) rfl rfl rfl (fun _ => y_max rfl rfl) <| hyg (o := _) rfl rfl rfl (fun _ => y_min rfl rfl) <| hyg (o := _) rfl rfl rfl (fun _ => y_idxS1 rfl rfl Try.underlying27 sz4 hA_k (show ((at_ + 1 : Nat) : Int) = _ by omega) (by omega)) <| hyg (o := _) rfl rfl rfl (fun m => yV (y_ld1 rfl ag4 ((m.rd 4 rfl).cell (j := at_ + 1) hbit2)) ((rfl : _ = Value.bool true))) <| hy (fun _ => y_pickT rfl rfl) <| hy (fun _ => y_assign rfl) <| hend <| hsub (ρ' := [(9, _), (43, _), (8, _), (35, _), (5, _), (7, _), (14, _), (6, _), (4, _), (2, _), (0, _), (1, _)]) ⟨rfl, rfl, rfl, rfl, rfl, rfl, rfl, rfl, rfl, rfl, rfl, rfl, trivial⟩ <| hthen <| hseq <| hreg <| hy (fun _ => y_move rfl) <| hy (fun _ => y_add rfl rfl (w64 (by omega) (by omega))) <| hy (fun _ => y_assign rfl) <| hend <| hsub (ρ' := [(5, _), (9, _), (43, _), (8, _), (35, _), (7, _), (14, _), (6, _), (4, _), (2, _), (0, _), (1, _)]) ⟨rfl, rfl, rfl, rfl, rfl, rfl, rfl, rfl, rfl, rfl, rfl, rfl, trivial⟩ <| hthen <| hseq <| hreg <| hy (fun _ => y_move rfl) <| hy (fun _ => (y_not rfl)) <| hend <| hsub (ρ' := [(62, _), (5, _), (9, _), (43, _), (8, _), (35, _), (7, _), (14, _), (6, _), (4, _), (2, _), (0, _), (1, _)]) ⟨rfl, rfl, rfl, rfl, rfl, rfl, rfl, rfl, rfl, rfl, rfl, rfl, rfl, trivial⟩ <| hthen <| ?_
          refine hiff rfl (rfl) ?_
          refine hmemC (fun w m => m.asV 1 rfl .same) ?_
          refine hfactC (fun m => rdX (m.rd 0 rfl)) ?_
          rintro ⟨hl_w0, hA_w0⟩
          refine hcskip <| hthen <| hreg <| hy (fun _ => y_fld rfl fa54_2 (by decide)) <| hy (fun m => y_ld1 rfl ag51 (ld_blk (m.blk 1 rfl) (i := 2) rfl)) <| hy (fun m => yV (y_ldN rfl ag105 sz105 rfl ((m.blk 0 rfl).cells0)) ((rfl : _ = Value.agg (cv ch.1 ch.2.1 ch.2.2.1 (ch.2.2.2)).toArray))) <| ?_
          refine hx (xh_call rfl Try.call71 (rmakeC rfl (by omega) (l := L)) [] rfl [1] rfl ?_)
          rintro _ _ _ ⟨A12, n1, c12, rfl, rfl, rfl, hp⟩
          refine hfactL (fun m => rdX (m.rd 0 rfl)) ?_
          rintro ⟨hl_q, hA_q⟩
          refine hy (fun _ => y_fld rfl fa54_2 (by decide)) <| ?_
          refine hx0 (xh_st1a 1 rfl rfl rfl sz51 rfl (by first | exact Nat.le_of_ble_eq_true rfl | simp) ?_)
          refine hend <| hsub (ρ' := [(62, _), (5, _), (9, _), (43, _), (8, _), (35, _), (7, _), (14, _), (6, _), (4, _), (2, _), (0, _), (1, _)]) ⟨rfl, rfl, rfl, rfl, rfl, rfl, rfl, rfl, rfl, rfl, rfl, rfl, rfl, trivial⟩ <| hmemQ (X' := [_, _, _]) (S' := [_, _, _, _, _, _, _]) (fun _ m => m) <| hqblock <| hthen <| hreg <| hy (fun _ => y_move rfl) <| hy (fun _ => y_add rfl rfl (w64 (by omega) (by omega))) <| hy (fun _ => y_assign rfl) <| hend <| hsub (ρ' := [(6, _), (62, _), (5, _), (9, _), (43, _), (8, _), (35, _), (7, _), (14, _), (4, _), (2, _), (0, _), (1, _)]) ⟨rfl, rfl, rfl, rfl, rfl, rfl, rfl, rfl, rfl, rfl, rfl, rfl, rfl, trivial⟩ <| ?_
          obtain ⟨rfl, hle⟩ := hp
          refine hmemQ (fun w m => m.eqX 0 rfl (show _ = RBlk g2 54 (dv x.d.room (.slice x.A x.d.seen.length x.c) (.slice A12 (makeF L ch.1 ch.2.1 ch.2.2.1 (ch.2.2.2)).length c12) (.slice x.A3 x.d.waits.length x.c3) x.d.pw) from rfl)) ?_
          refine hnext5 (i + 1) (at_ + 2) (makeF L ch.1 ch.2.1 ch.2.2.1 (ch.2.2.2)) A12 c12 ⟨rfl, rfl, rfl, rfl, rfl, rfl, trivial⟩ [0, 1] rfl [0, 3, 4, 5, 6] rfl (⟨by omega, hfs.symm, by omega, by omega⟩) (by omega)
        · have hb3 : (bs.drop (at_ + 1)).headD false = false := by simpa using hb2
          have hsz := strOf_size ch.2.2.2
          have hbs := hbw ch (List.mem_of_getElem? hch)
          rw [if_neg hb2] at hfs
          by_cases hlt2 : at_ + 1 < bs.length
          · have hbit2 := head_drop hlt2
            rw [hb3] at hbit2
            refine hseq <| hreg <| hy (fun _ => y_move rfl) <| hy (fun _ => y_move rfl) <| hy (fun _ => y_lenS rfl Try.underlying27) <| hy (fun _ => yT (y_lss rfl rfl) ((decide_eq_true (by omega)))) <| hy (fun _ => y_move rfl) <| hyg (o := _) rfl rfl rfl (fun _ => y_move rfl) <| hyg (o := _) rfl rfl rfl (fun _ => y_move rfl) <| hyg (o := _) rfl rfl rfl (fun _ => y_move rfl) <| hyg (o := _) rfl rfl rfl (fun _ => y_lenS rfl Try.underlying27) <| hyg (o := _) rfl rfl rfl (fun _ => y_sub rfl rfl (w64 (by omega) (by omega))) <| hyg (o := _) rfl rfl rfl (fun _ => y_max rfl rfl) <| hyg (o := _) rfl rfl rfl (fun _ => y_min rfl rfl) <| hyg (o := _) rfl rfl rfl (fun _ => y_idxS1 rfl rfl Try.underlying27 sz4 hA_k (show ((at_ + 1 : Nat) : Int) = _ by omega) (by omega)) <| hyg (o := _) rfl rfl rfl (fun m => yV (y_ld1 rfl ag4 ((m.rd 4 rfl).cell (j := at_ + 1) hbit2)) ((rfl : _ = Value.bool false))) <| hy (fun _ => y_pickT rfl rfl) <| hy (fun _ => y_assign rfl) <| hend <| hsub (ρ' := [(9, _), (43, _), (8, _), (35, _), (5, _), (7, _), (14, _), (6, _), (4, _), (2, _), (0, _), (1, _)]) ⟨rfl, rfl, rfl, rfl, rfl, rfl, rfl, rfl, rfl, rfl, rfl, rfl, trivial⟩ <| hthen <| hseq <| hreg <| hy (fun _ => y_move rfl) <| hy (fun _ => y_add rfl rfl (w64 (by omega) (by omega))) <| hy (fun _ => y_assign rfl) <| hend <| hsub (ρ' := [(5, _), (9, _), (43, _), (8, _), (35, _), (7, _), (14, _), (6, _), (4, _), (2, _), (0, _), (1, _)]) ⟨rfl, rfl, rfl, rfl, rfl, rfl, rfl, rfl, rfl, rfl, rfl, rfl, trivial⟩ <| hthen <| hseq <| hreg <| hy (fun _ => y_move rfl) <| hy (fun _ => (y_not rfl)) <| hend <| hsub (ρ' := [(62, _), (5, _), (9, _), (43, _), (8, _), (35, _), (7, _), (14, _), (6, _), (4, _), (2, _), (0, _), (1, _)]) ⟨rfl, rfl, rfl, rfl, rfl, rfl, rfl, rfl, rfl, rfl, rfl, rfl, rfl, trivial⟩ <| hthen <| ?_
            refine hift rfl (rfl) ?_
            refine hreg <| hy (fun _ => y_fld rfl fa105_3 (by decide)) <| hy (fun m => yV (y_ld1 rfl ag9 (ld_blk (m.blk 0 rfl) (i := 3) rfl)) ((rfl : _ = Value.string (strOf ch.2.2.2)))) <| hy (fun _ => y_fld rfl fa105_3 (by decide)) <| hy (fun m => yV (y_ld1 rfl ag9 (ld_blk (m.blk 0 rfl) (i := 3) rfl)) ((rfl : _ = Value.string (strOf ch.2.2.2)))) <| hy (fun _ => y_lenStr rfl Try.underlying9) <| hy (fun _ => y_quo rfl rfl (by omega) (by omega) (w64 (by omega) (by omega))) <| hy (fun _ => y_strTo rfl rfl Try.underlying9 (show ((ch.2.2.2.length / 2 : Nat) : Int) = _ by rw [hsz]; omega) (by rw [bytesOf_strOf]; omega)) <| hy (fun _ => y_fld rfl fa105_3 (by decide)) <| ?_
            refine hx0 (xh_st1a 0 rfl rfl rfl sz9 rfl (by first | exact Nat.le_of_ble_eq_true rfl | simp) ?_)
            refine hend <| hsub (ρ' := [(62, _), (5, _), (9, _), (43, _), (8, _), (35, _), (7, _), (14, _), (6, _), (4, _), (2, _), (0, _), (1, _)]) ⟨rfl, rfl, rfl, rfl, rfl, rfl, rfl, rfl, rfl, rfl, rfl, rfl, rfl, trivial⟩ <| hmemQ (X' := [_, _, _]) (S' := [_, _, _, _, _]) (fun _ m => m) <| hthen <| hreg <| ?_
            refine hmemL (fun w m => m.asV 1 rfl .same) ?_
            refine hfactL (fun m => rdX (m.rd 0 rfl)) ?_
            rintro ⟨hl_w0, hA_w0⟩
            refine hy (fun _ => y_fld rfl fa54_2 (by decide)) <| hy (fun m => y_ld1 rfl ag51 (ld_blk (m.blk 1 rfl) (i := 2) rfl)) <| hy (fun m => yV (y_ldN rfl ag105 sz105 rfl ((m.blk 0 rfl).cells0)) ((rfl : _ = Value.agg (cv ch.1 ch.2.1 ch.2.2.1 ((ch.2.2.2.take (ch.2.2.2.length / 2)))).toArray))) <| ?_
            refine hx (xh_call rfl Try.call71 (rmakeC rfl (by omega) (l := L)) [] rfl [1] rfl ?_)
            rintro _ _ _ ⟨A12, n1, c12, rfl, rfl, rfl, hp⟩
            refine hfactL (fun m => rdX (m.rd 0 rfl)) ?_
            rintro ⟨hl_q, hA_q⟩
            refine hy (fun _ => y_fld rfl fa54_2 (by decide)) <| ?_
            refine hx0 (xh_st1a 1 rfl rfl rfl sz51 rfl (by first | exact Nat.le_of_ble_eq_true rfl | simp) ?_)
            refine hend <| hsub (ρ' := [(62, _), (5, _), (9, _), (43, _), (8, _), (35, _), (7, _), (14, _), (6, _), (4, _), (2, _), (0, _), (1, _)]) ⟨rfl, rfl, rfl, rfl, rfl, rfl, rfl, rfl, rfl, rfl, rfl, rfl, rfl, trivial⟩ <| hmemQ (X' := [_, _, _]) (S' := [_, _, _, _, _, _, _]) (fun _ m => m) <| hqblock <| hthen <| hreg <| hy (fun _ => y_move rfl) <| hy (fun _ => y_add rfl rfl (w64 (by omega) (by omega))) <| hy (fun _ => y_assign rfl) <| hend <| hsub (ρ' := [(6, _), (62, _), (5, _), (9, _), (43, _), (8, _), (35, _), (7, _), (14, _), (4, _), (2, _), (0, _), (1, _)]) ⟨rfl, rfl, rfl, rfl, rfl, rfl, rfl, rfl, rfl, rfl, rfl, rfl, rfl, trivial⟩ <| ?_
            obtain ⟨rfl, hle⟩ := hp
            refine hmemQ (fun w m => m.eqX 0 rfl (show _ = RBlk g2 54 (dv x.d.room (.slice x.A x.d.seen.length x.c) (.slice A12 (makeF L ch.1 ch.2.1 ch.2.2.1 ((ch.2.2.2.take (ch.2.2.2.length / 2)))).length c12) (.slice x.A3 x.d.waits.length x.c3) x.d.pw) from rfl)) ?_
            refine hnext5 (i + 1) (at_ + 2) (makeF L ch.1 ch.2.1 ch.2.2.1 ((ch.2.2.2.take (ch.2.2.2.length / 2)))) A12 c12 ⟨rfl, rfl, rfl, rfl, rfl, rfl, trivial⟩ [0, 1] rfl [0, 3, 4, 5, 6] rfl (⟨by omega, hfs.symm, by omega, by omega⟩) (by omega)
          · refine hseq <| hreg <| hy (fun _ => y_move rfl) <| hy (fun _ => y_move rfl) <| hy (fun _ => y_lenS rfl Try.underlying27) <| hy (fun _ => yF (y_lss rfl rfl) ((decide_eq_false (by omega)))) <| hy (fun _ => y_move rfl) <| hskip rfl rfl rfl (by decide) <| hskip rfl rfl rfl (by decide) <| hskip rfl rfl rfl (by decide) <| hskip rfl rfl rfl (by decide) <| hskip rfl rfl rfl (by decide) <| hskip rfl rfl rfl (by decide) <| hskip rfl rfl rfl (by decide) <| hskip rfl rfl rfl (by decide) <| hskip rfl rfl rfl (by decide) <| hy (fun _ => y_pickF rfl rfl) <| hy (fun _ => y_assign rfl) <| hend <| hsub (ρ' := [(9, _), (43, _), (8, _), (35, _), (5, _), (7, _), (14, _), (6, _), (4, _), (2, _), (0, _), (1, _)]) ⟨rfl, rfl, rfl, rfl, rfl, rfl, rfl, rfl, rfl, rfl, rfl, rfl, trivial⟩ <| hthen <| hseq <| hreg <| hy (fun _ => y_move rfl) <| hy (fun _ => y_add rfl rfl (w64 (by omega) (by omega))) <| hy (fun _ => y_assign rfl) <| hend <| hsub (ρ' := [(5, _), (9, _), (43, _), (8, _), (35, _), (7, _), (14, _), (6, _), (4, _), (2, _), (0, _), (1, _)]) ⟨rfl, rfl, rfl, rfl, rfl, rfl, rfl, rfl, rfl, rfl, rfl, rfl, trivial⟩ <| hthen <| hseq <| hreg <| hy (fun _ => y_move rfl) <| hy (fun _ => (y_not rfl)) <| hend <| hsub (ρ' := [(62, _), (5, _), (9, _), (43, _), (8, _), (35, _), (7, _), (14, _), (6, _), (4, _), (2, _), (0, _), (1, _)]) ⟨rfl, rfl, rfl, rfl, rfl, rfl, rfl, rfl, rfl, rfl, rfl, rfl, rfl, trivial⟩ <| hthen <| ?_
            refine hift rfl (rfl) ?_
            refine hreg <| hy (fun _ => y_fld rfl fa105_3 (by decide)) <| hy (fun m => yV (y_ld1 rfl ag9 (ld_blk (m.blk 0 rfl) (i := 3) rfl)) ((rfl : _ = Value.string (strOf ch.2.2.2)))) <| hy (fun _ => y_fld rfl fa105_3 (by decide)) <| hy (fun m => yV (y_ld1 rfl ag9 (ld_blk (m.blk 0 rfl) (i := 3) rfl)) ((rfl : _ = Value.string (strOf ch.2.2.2)))) <| hy (fun _ => y_lenStr rfl Try.underlying9) <| hy (fun _ => y_quo rfl rfl (by omega) (by omega) (w64 (by omega) (by omega))) <| hy (fun _ => y_strTo rfl rfl Try.underlying9 (show ((ch.2.2.2.length / 2 : Nat) : Int) = _ by rw [hsz]; omega) (by rw [bytesOf_strOf]; omega)) <| hy (fun _ => y_fld rfl fa105_3 (by decide)) <| ?_
            refine hx0 (xh_st1a 0 rfl rfl rfl sz9 rfl (by first | exact Nat.le_of_ble_eq_true rfl | simp) ?_)
            refine hend <| hsub (ρ' := [(62, _), (5, _), (9, _), (43, _), (8, _), (35, _), (7, _), (14, _), (6, _), (4, _), (2, _), (0, _), (1, _)]) ⟨rfl, rfl, rfl, rfl, rfl, rfl, rfl, rfl, rfl, rfl, rfl, rfl, rfl, trivial⟩ <| hmemQ (X' := [_, _, _]) (S' := [_, _, _, _, _]) (fun _ m => m) <| hthen <| hreg <| ?_
            refine hmemL (fun w m => m.asV 1 rfl .same) ?_
            refine hfactL (fun m => rdX (m.rd 0 rfl)) ?_
            rintro ⟨hl_w0, hA_w0⟩
            refine hy (fun _ => y_fld rfl fa54_2 (by decide)) <| hy (fun m => y_ld1 rfl ag51 (ld_blk (m.blk 1 rfl) (i := 2) rfl)) <| hy (fun m => yV (y_ldN rfl ag105 sz105 rfl ((m.blk 0 rfl).cells0)) ((rfl : _ = Value.agg (cv ch.1 ch.2.1 ch.2.2.1 ((ch.2.2.2.take (ch.2.2.2.length / 2)))).toArray))) <| ?_
            refine hx (xh_call rfl Try.call71 (rmakeC rfl (by omega) (l := L)) [] rfl [1] rfl ?_)
            rintro _ _ _ ⟨A12, n1, c12, rfl, rfl, rfl, hp⟩
            refine hfactL (fun m => rdX (m.rd 0 rfl)) ?_
            rintro ⟨hl_q, hA_q⟩
            refine hy (fun _ => y_fld rfl fa54_2 (by decide)) <| ?_
            refine hx0 (xh_st1a 1 rfl rfl rfl sz51 rfl (by first | exact Nat.le_of_ble_eq_true rfl | simp) ?_)
            refine hend <| hsub (ρ' := [(62, _), (5, _), (9, _), (43, _), (8, _), (35, _), (7, _), (14, _), (6, _), (4, _), (2, _), (0, _), (1, _)]) ⟨rfl, rfl, rfl, rfl, rfl, rfl, rfl, rfl, rfl, rfl, rfl, rfl, rfl, trivial⟩ <| hmemQ (X' := [_, _, _]) (S' := [_, _, _, _, _, _, _]) (fun _ m => m) <| hqblock <| hthen <| hreg <| hy (fun _ => y_move rfl) <| hy (fun _ => y_add rfl rfl (w64 (by omega) (by omega))) <| hy (fun _ => y_assign rfl) <| hend <| hsub (ρ' := [(6, _), (62, _), (5, _), (9, _), (43, _), (8, _), (35, _), (7, _), (14, _), (4, _), (2, _), (0, _), (1, _)]) ⟨rfl, rfl, rfl, rfl, rfl, rfl, rfl, rfl, rfl, rfl, rfl, rfl, rfl, trivial⟩ <| ?_
            obtain ⟨rfl, hle⟩ := hp
            refine hmemQ (fun w m => m.eqX 0 rfl (show _ = RBlk g2 54 (dv x.d.room (.slice x.A x.d.seen.length x.c) (.slice A12 (makeF L ch.1 ch.2.1 ch.2.2.1 ((ch.2.2.2.take (ch.2.2.2.length / 2)))).length c12) (.slice x.A3 x.d.waits.length x.c3) x.d.pw) from rfl)) ?_
            refine hnext5 (i + 1) (at_ + 2) (makeF L ch.1 ch.2.1 ch.2.2.1 ((ch.2.2.2.take (ch.2.2.2.length / 2)))) A12 c12 ⟨rfl, rfl, rfl, rfl, rfl, rfl, trivial⟩ [0, 1] rfl [0, 3, 4, 5, 6] rfl (⟨by omega, hfs.symm, by omega, by omega⟩) (by omega)
      · rw [if_neg hk] at hfs
        refine hmemC (fun w m => m.asV 1 rfl .same) ?_
        refine hfactC (fun m => rdX (m.rd 0 rfl)) ?_
        rintro ⟨hl_w0, hA_w0⟩
        refine hcskip <| hthen <| hreg <| hy (fun _ => y_fld rfl fa54_2 (by decide)) <| hy (fun m => y_ld1 rfl ag51 (ld_blk (m.blk 1 rfl) (i := 2) rfl)) <| hy (fun m => yV (y_ldN rfl ag105 sz105 rfl ((m.blk 0 rfl).cells0)) ((rfl : _ = Value.agg (cv ch.1 ch.2.1 ch.2.2.1 (ch.2.2.2)).toArray))) <| ?_
        refine hx (xh_call rfl Try.call71 (rmakeC rfl (by omega) (l := L)) [] rfl [1] rfl ?_)
        rintro _ _ _ ⟨A12, n1, c12, rfl, rfl, rfl, hp⟩
        refine hfactL (fun m => rdX (m.rd 0 rfl)) ?_
        rintro ⟨hl_q, hA_q⟩
        refine hy (fun _ => y_fld rfl fa54_2 (by decide)) <| ?_
        refine hx0 (xh_st1a 1 rfl rfl rfl sz51 rfl (by first | exact Nat.le_of_ble_eq_true rfl | simp) ?_)
        refine hend <| hsub (ρ' := [(43, _), (8, _), (35, _), (5, _), (7, _), (14, _), (6, _), (4, _), (2, _), (0, _), (1, _)]) ⟨rfl, rfl, rfl, rfl, rfl, rfl, rfl, rfl, rfl, rfl, rfl, trivial⟩ <| hmemQ (X' := [_, _, _]) (S' := [_, _, _, _, _, _, _]) (fun _ m => m) <| hqblock <| hthen <| hreg <| hy (fun _ => y_move rfl) <| hy (fun _ => y_add rfl rfl (w64 (by omega) (by omega))) <| hy (fun _ => y_assign rfl) <| hend <| hsub (ρ' := [(6, _), (43, _), (8, _), (35, _), (5, _), (7, _), (14, _), (4, _), (2, _), (0, _), (1, _)]) ⟨rfl, rfl, rfl, rfl, rfl, rfl, rfl, rfl, rfl, rfl, rfl, trivial⟩ <| ?_
        obtain ⟨rfl, hle⟩ := hp
        refine hmemQ (fun w m => m.eqX 0 rfl (show _ = RBlk g2 54 (dv x.d.room (.slice x.A x.d.seen.length x.c) (.slice A12 (makeF L ch.1 ch.2.1 ch.2.2.1 (ch.2.2.2)).length c12) (.slice x.A3 x.d.waits.length x.c3) x.d.pw) from rfl)) ?_
        refine hnext5 (i + 1) (at_ + 1) (makeF L ch.1 ch.2.1 ch.2.2.1 (ch.2.2.2)) A12 c12 ⟨rfl, rfl, rfl, rfl, rfl, rfl, trivial⟩ [0, 1] rfl [0, 3, 4, 5, 6] rfl (⟨by omega, hfs.symm, by omega, by omega⟩) (by omega)
    · have hb3 : (bs.drop at_).headD false = false := by simpa using hb
      have hds : dstep (bs.drop at_, L) ch = (bs.drop (at_ + 1), L) := by
        unfold dstep
        rw [if_neg (by rw [hb3]; decide)]
        simp only [tail_drop]
      rw [hds] at hfs
      by_cases hlt1 : at_ < bs.length
      · have hbit := head_drop hlt1
        rw [hb3] at hbit
        refine hcskip <| hthen <| hseq <| hblock <| hseq <| hreg <| hy (fun _ => y_move rfl) <| hy (fun _ => y_move rfl) <| hy (fun _ => y_lenS rfl Try.underlying27) <| hy (fun _ => yT (y_lss rfl rfl) ((decide_eq_true (by omega)))) <| hy (fun _ => y_move rfl) <| hyg (o := _) rfl rfl rfl (fun _ => y_move rfl) <| hyg (o := _) rfl rfl rfl (fun _ => y_move rfl) <| hyg (o := _) rfl rfl rfl (fun _ => y_move rfl) <| hyg (o := _) rfl rfl rfl (fun _ => y_lenS rfl Try.underlying27) <| hyg (o := _) rfl rfl rfl (fun _ => y_sub rfl rfl (w64 (by omega) (by omega))) <| hyg (o := _) rfl rfl rfl (fun _ => y_max rfl rfl) <| hyg (o := _) rfl rfl rfl (fun _ => y_min rfl rfl) <| hyg (o := _) rfl rfl rfl (fun _ => y_idxS1 rfl rfl Try.underlying27 sz4 hA_k (show ((at_ : Nat) : Int) = _ by omega) (by omega)) <| hyg (o := _) rfl rfl rfl (fun m => yV (y_ld1 rfl ag4 ((m.rd 4 rfl).cell (j := at_) hbit)) ((rfl : _ = Value.bool false))) <| hy (fun _ => y_pickT rfl rfl) <| hy (fun _ => y_assign rfl) <| hend <| hsub (ρ' := [(7, _), (14, _), (5, _), (6, _), (4, _), (2, _), (0, _), (1, _)]) ⟨rfl, rfl, rfl, rfl, rfl, rfl, rfl, rfl, trivial⟩ <| hthen <| hseq <| hreg <| hy (fun _ => y_move rfl) <| hy (fun _ => y_add rfl rfl (w64 (by omega) (by omega))) <| hy (fun _ => y_assign rfl) <| hend <| hsub (ρ' := [(5, _), (7, _), (14, _), (6, _), (4, _), (2, _), (0, _), (1, _)]) ⟨rfl, rfl, rfl, rfl, rfl, rfl, rfl, rfl, trivial⟩ <| hthen <| hseq <| hseq <| hreg <| hy (fun _ => y_move rfl) <| hy (fun _ => (y_not rfl)) <| hend <| hsub (ρ' := [(35, _), (5, _), (7, _), (14, _), (6, _), (4, _), (2, _), (0, _), (1, _)]) ⟨rfl, rfl, rfl, rfl, rfl, rfl, rfl, rfl, rfl, trivial⟩ <| hthen <| ?_
        refine hift rfl (rfl) ?_
        refine hexit <| hthen_exit <| hqblock_exit <| hthen <| hreg <| hy (fun _ => y_move rfl) <| hy (fun _ => y_add rfl rfl (w64 (by omega) (by omega))) <| hy (fun _ => y_assign rfl) <| hend <| hsub (ρ' := [(6, _), (35, _), (5, _), (7, _), (14, _), (4, _), (2, _), (0, _), (1, _)]) ⟨rfl, rfl, rfl, rfl, rfl, rfl, rfl, rfl, rfl, trivial⟩ <| ?_
        refine hnext5 (i + 1) (at_ + 1) L A1 c1 ⟨rfl, rfl, rfl, rfl, rfl, rfl, trivial⟩ [0, 0] rfl [0, 1, 2, 3, 4] rfl (⟨by omega, hfs.symm, by omega, by omega⟩) (by omega)
      · refine hcskip <| hthen <| hseq <| hblock <| hseq <| hreg <| hy (fun _ => y_move rfl) <| hy (fun _ => y_move rfl) <| hy (fun _ => y_lenS rfl Try.underlying27) <| hy (fun _ => yF (y_lss rfl rfl) ((decide_eq_false (by omega)))) <| hy (fun _ => y_move rfl) <| hskip rfl rfl rfl (by decide) <| hskip rfl rfl rfl (by decide) <| hskip rfl rfl rfl (by decide) <| hskip rfl rfl rfl (by decide) <| hskip rfl rfl rfl (by decide) <| hskip rfl rfl rfl (by decide) <| hskip rfl rfl rfl (by decide) <| hskip rfl rfl rfl (by decide) <| hskip rfl rfl rfl (by decide) <| hy (fun _ => y_pickF rfl rfl) <| hy (fun _ => y_assign rfl) <| hend <| hsub (ρ' := [(7, _), (14, _), (5, _), (6, _), (4, _), (2, _), (0, _), (1, _)]) ⟨rfl, rfl, rfl, rfl, rfl, rfl, rfl, rfl, trivial⟩ <| hthen <| hseq <| hreg <| hy (fun _ => y_move rfl) <| hy (fun _ => y_add rfl rfl (w64 (by omega) (by omega))) <| hy (fun _ => y_assign rfl) <| hend <| hsub (ρ' := [(5, _), (7, _), (14, _), (6, _), (4, _), (2, _), (0, _), (1, _)]) ⟨rfl, rfl, rfl, rfl, rfl, rfl, rfl, rfl, trivial⟩ <| hthen <| hseq <| hseq <| hreg <| hy (fun _ => y_move rfl) <| hy (fun _ => (y_not rfl)) <| hend <| hsub (ρ' := [(35, _), (5, _), (7, _), (14, _), (6, _), (4, _), (2, _), (0, _), (1, _)]) ⟨rfl, rfl, rfl, rfl, rfl, rfl, rfl, rfl, rfl, trivial⟩ <| hthen <| ?_
        refine hift rfl (rfl) ?_
        refine hexit <| hthen_exit <| hqblock_exit <| hthen <| hreg <| hy (fun _ => y_move rfl) <| hy (fun _ => y_add rfl rfl (w64 (by omega) (by omega))) <| hy (fun _ => y_assign rfl) <| hend <| hsub (ρ' := [(6, _), (35, _), (5, _), (7, _), (14, _), (4, _), (2, _), (0, _), (1, _)]) ⟨rfl, rfl, rfl, rfl, rfl, rfl, rfl, rfl, rfl, trivial⟩ <| ?_
        refine hnext5 (i + 1) (at_ + 1) L A1 c1 ⟨rfl, rfl, rfl, rfl, rfl, rfl, trivial⟩ [0, 0] rfl [0, 1, 2, 3, 4] rfl (⟨by omega, hfs.symm, by omega, by omega⟩) (by omega)
  · obtain rfl : i = x.d.waits.length := by omega
    have hLL : L = (dfold bs x.d x.d.waits.length).2 := by rw [← hf]
    refine hmemC (fun w m => m.addS (r' := RRd 4 none 0 []) (.refl _ _) (Rd.nil _ _ _) (fun k hk => absurd rfl hk.1)) ?_
    have hA_z : 0 < 0 → (none : Option Addr) ≠ none := fun h => absurd h (by decide)
    refine hexit <| hthen_exit <| hthen_exit <| hqblock_exit <| hthen <| hseq <| hreg <| hy (fun _ => y_fld rfl fa54_2 (by decide)) <| hy (fun m => y_ld1 rfl ag51 (ld_blk (m.blk 0 rfl) (i := 2) rfl)) <| hy (fun _ => y_fld rfl fa54_1 (by decide)) <| ?_
    refine hx0 (xh_st1a 0 rfl rfl rfl sz51 rfl (by first | exact Nat.le_of_ble_eq_true rfl | simp) ?_)
    refine hend <| hsub (ρ' := [(14, _), (5, _), (6, _), (4, _), (2, _), (0, _), (1, _)]) ⟨rfl, rfl, rfl, rfl, rfl, rfl, rfl, trivial⟩ <| hmemQ (X' := [_, _]) (S' := [_, _, _, _, _, _]) (fun _ m => m) <| hthen <| hseq <| hreg <| hy (fun _ => y_fld rfl fa54_3 (by decide)) <| ?_
    refine hx0 (xh_st1a 0 rfl rfl rfl sz52 rfl (by first | exact Nat.le_of_ble_eq_true rfl | simp) ?_)
    refine hend <| hsub (ρ' := [(14, _), (5, _), (6, _), (4, _), (2, _), (0, _), (1, _)]) ⟨rfl, rfl, rfl, rfl, rfl, rfl, rfl, trivial⟩ <| hmemQ (X' := [_, _]) (S' := [_, _, _, _, _, _]) (fun _ m => m) <| hthen <| hseq <| hreg <| hy (fun _ => y_fld rfl fa54_4 (by decide)) <| ?_
    refine hx0 (xh_st1a 0 rfl rfl rfl sz3 rfl (by first | exact Nat.le_of_ble_eq_true rfl | simp) ?_)
    refine hend <| hsub (ρ' := [(14, _), (5, _), (6, _), (4, _), (2, _), (0, _), (1, _)]) ⟨rfl, rfl, rfl, rfl, rfl, rfl, rfl, trivial⟩ <| hmemQ (X' := [_, _]) (S' := [_, _, _, _, _, _]) (fun _ m => m) <| hthen <| hseq <| hreg <| ?_
    refine hmemL (S' := RRef ⟨{ x.d with seen := L, lasts := L, waits := [], pw := -1 }, A1, c1, A1, c1, none, 0⟩ :: _) (fun w m => m.allS [1, 1, 0] rfl) ?_
    refine hmemL (fun w m => m.eqX 0 rfl (show _ = RBlk g2 54 (RX.cs ⟨{ x.d with seen := L, lasts := L, waits := [], pw := -1 }, A1, c1, A1, c1, none, 0⟩) from rfl)) ?_
    refine hy (fun m => yV (y_ldN rfl ag54 sz54 rfl ((m.blk 0 rfl).cells0)) ((rfl : _ = Value.agg (RX.cs ⟨{ x.d with seen := L, lasts := L, waits := [], pw := -1 }, A1, c1, A1, c1, none, 0⟩).toArray))) <| ?_
    refine hx0 (xh_stA 1 rfl rfl rfl sz54 rfl cs_one rfl ?_)
    refine hend <| hsub (ρ' := [(14, _), (5, _), (6, _), (4, _), (2, _), (0, _), (1, _)]) ⟨rfl, rfl, rfl, rfl, rfl, rfl, rfl, trivial⟩ <| hmemQ (X' := [_, _]) (S' := [_, _, _, _, _, _, _]) (fun _ m => m) <| hthen <| hret <| ?_
    exact hretN trivial rfl rfl ag54 sz54 rfl (fun m => (m.blk 0 rfl).cells0) [] rfl [0] rfl ⟨_, rfl, rfl, rfl, by rw [hLL]; rfl⟩
def name12s : List (List UInt8) := [[97], [98], [99, 47, 49], [99, 47, 50], [100], [99], [97], [98], [], [120, 0]]
def name12 (n : Int) : List UInt8 := name12s.getD (around n 10).toNat []
theorem nameof12C {n : Int} (h1 : -9223372036854775808 ≤ n) (h2 : n ≤ 9223372036854775807) : Con Try.prog 64 [.int .i64 n] [] [] (fun v_ X_ S_ => v_ = (.string (strOf (name12 n))) ∧ X_ = [] ∧ S_ = []) := by
  obtain ⟨a1, a2⟩ := around_lt n 10 (by decide)
  obtain ⟨i, hi⟩ : ∃ i : Nat, around n 10 = i := ⟨(around n 10).toNat, by omega⟩
  have hn : name12 n = name12s.getD i [] := by rw [name12, hi]; rfl
  have hil : i < name12s.length := by show i < 10; omega
  refine henter (N := 8) Try.func64 rfl rfl (by simp) fun b => ?_
  refine hseq <| hreg <| hy (fun _ => y_assign rfl) <| hend <| hthen <| hseq <| hreg <| ?_
  refine hx (xh_bsl Try.underlying48 ti9 rfl rfl rfl (by simp [Value.cells, B8]) (by decide) (by decide) (fun g3 => ?_))
  have hA_b3 : 0 < 10 → (some (⟨g3, 0, none⟩ : Addr)) ≠ none := fun _ h => by cases h
  refine hmemL (fun w m => m.eqX 0 rfl (show _ = ROwn 9 1 (.slice (some ⟨g3, 0, none⟩) 10 10) 10 (ss name12s) from rfl)) ?_
  refine hy (fun _ => y_move rfl) <| ?_
  refine hx (xh_call rfl Try.call20 (aroundC (by omega) (by omega) (by omega)) [] rfl [] rfl ?_)
  rintro _ _ _ ⟨rfl, rfl, rfl⟩
  rw [hi]
  refine hy (fun _ => y_idxS1 rfl rfl Try.underlying48 sz9 hA_b3 rfl (by omega)) <| hy (fun m => yV (y_ld1 rfl ag9 ((m.ord 0 rfl).cell (ss_get hil))) ((show SV (name12s.getD i []) = .string (strOf (name12 n)) by rw [hn]; rfl))) <| hy (fun _ => y_assign rfl) <| hend <| hsub (ρ' := [(2, _), (0, _)]) ⟨rfl, rfl, trivial⟩ <| hmemQ (X' := [_]) (S' := []) (fun _ m => m) <| hthen <| hret <| ?_
  exact hret1 trivial rfl rfl [] rfl [] rfl ⟨rfl, rfl, rfl⟩
end Go.Proofs.Ytflcokdkobhieaa
