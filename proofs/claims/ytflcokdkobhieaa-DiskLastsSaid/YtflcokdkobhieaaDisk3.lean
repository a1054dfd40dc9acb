/- Contracts: a disk's Restart, where only files that were written wait. -/
import Derived.Test.YtflcokdkobhieaaDisk2
set_option linter.unusedVariables false
set_option linter.unusedSimpArgs false
set_option maxRecDepth 20000
namespace Go.Proofs.Ytflcokdkobhieaa
open Go.Eng Go.Hx
def bools (l : List Bool) : List Value := l.map Value.bool
theorem nextBitC {g n c : Nat} {A : Option Addr} {bs : List Bool} (hc : n ≤ c) : Con Try.prog 47 [.pointer (some ⟨g, 0, none⟩)] [RBlk g 27 [.slice A n c]] [RRd 1 A n (bools bs)] (fun v_ X_ S_ => ∃ A1 n1 c1, v_ = (.bool (bs.headD false)) ∧ X_ = [RBlk g 27 [.slice A1 n1 c1]] ∧ S_ = [RRd 1 A1 n1 (bools bs.tail)] ∧ (n1 ≤ c1)) := by
  refine henter (N := 12) Try.func47 rfl rfl (by simp) fun b => ?_
  refine hfactC (fun m => rdX (m.rd 0 rfl)) ?_
  rintro ⟨hl_r, hA_r⟩
  have hbl : bs.length = n := by simpa [bools] using hl_r
  refine hseq <| hreg <| hy (fun _ => y_assign rfl) <| hend <| hthen <| hseq <| hseq <| hreg <| hy (fun m => y_ld1 rfl ag27 (ld_blk (m.blk 0 rfl) rfl)) <| hy (fun _ => y_lenS rfl Try.underlying27) <| hy (fun _ => y_eql rfl rfl) <| hend <| hsub (ρ' := [(5, _), (1, _), (0, _)]) ⟨rfl, rfl, rfl, trivial⟩ <| hthen <| ?_
  refine hif rfl (fun h => ?_) (fun h => ?_)
  · obtain rfl : bs = [] := List.eq_nil_of_length_eq_zero (by omega)
    refine hseq <| hreg <| hy (fun _ => y_assign rfl) <| hend <| hthen <| hret <| hthen_ret <| ?_
    refine hmemQ (fun w m => m.asV 0 rfl .same) ?_
    refine hfactQ (fun m => rdX (m.rd 0 rfl)) ?_
    rintro ⟨hl_q, hA_q⟩
    exact hret1 trivial rfl rfl [0] rfl [0] rfl ⟨_, _, _, rfl, rfl, rfl, hc⟩
  · obtain ⟨b1, t, rfl⟩ : ∃ b1 t, bs = b1 :: t := by
      cases bs with
      | nil => simp at hbl; omega
      | cons b1 t => exact ⟨b1, t, rfl⟩
    refine hmemC (fun w m => m.asV 0 rfl (View.dropV (k := 1) hc (by omega))) ?_
    refine hfactC (fun m => rdX (m.rd 0 rfl)) ?_
    rintro ⟨hl_q, hA_q⟩
    refine hcskip <| hthen <| hseq <| hreg <| hy (fun m => y_ld1 rfl ag27 (ld_blk (m.blk 0 rfl) rfl)) <| hy (fun _ => y_idxS1 rfl rfl Try.underlying27 sz4 hA_r (show ((0 : Nat) : Int) = 0 from rfl) (by omega)) <| hy (fun m => y_ld1 rfl ag4 ((m.rd 1 rfl).cell (j := 0) rfl)) <| hy (fun _ => y_assign rfl) <| hend <| hsub (ρ' := [(2, _), (5, _), (1, _), (0, _)]) ⟨rfl, rfl, rfl, rfl, trivial⟩ <| hthen <| hseq <| hreg <| hy (fun m => y_ld1 rfl ag27 (ld_blk (m.blk 0 rfl) rfl)) <| hy (fun _ => y_slFrom rfl rfl Try.underlying27 sz4 (show ((1 : Nat) : Int) = 1 from rfl) (by omega)) <| ?_
    refine hx0 (xh_st1 0 rfl rfl rfl sz27 rfl (by first | exact Nat.le_of_ble_eq_true rfl | simp) ?_)
    refine hend <| hsub (ρ' := [(2, _), (5, _), (1, _), (0, _)]) ⟨rfl, rfl, rfl, rfl, trivial⟩ <| hmemQ (X' := [_]) (S' := [_, _]) (fun _ m => m) <| hthen <| hseq <| hreg <| hy (fun _ => y_move rfl) <| hy (fun _ => y_assign rfl) <| hend <| hsub (ρ' := [(1, _), (2, _), (5, _), (0, _)]) ⟨rfl, rfl, rfl, rfl, trivial⟩ <| hthen <| hret <| ?_
    exact hret1 trivial rfl rfl [0] rfl [0] rfl ⟨_, _, _, rfl, rfl, rfl, (by omega)⟩
/-- one change that waits, at a restart: the bits that are left, and the files -/
def rstep (st : List Bool × Files) (c : Chg) : List Bool × Files :=
  if st.1.headD false then
    match c with
    | .written p r => (st.1.tail.tail, aput st.2 p (if st.1.tail.headD false then r else r.half))
    | .renamed a b => (st.1.tail, match aget st.2 a with
      | none => st.2
      | some r => aput (adel st.2 a) b r)
    | .removed p => (st.1.tail, adel st.2 p)
  else (st.1.tail, st.2)
def rfold (keep : List Bool) (st : DSt) (i : Nat) : List Bool × Files := (st.waits.take i).foldl rstep (keep, st.lasts)
theorem rfold_succ {keep : List Bool} {st : DSt} {i : Nat} {c : Chg} (h : st.waits[i]? = some c) : rfold keep st (i + 1) = rstep (rfold keep st i) c := by
  unfold rfold
  obtain ⟨hi, rfl⟩ := List.getElem?_eq_some_iff.1 h
  rw [List.take_succ_eq_append_getElem hi, List.foldl_append]
  rfl
def Half (rows : List BRow) (r : BRow) : Prop := ∃ q ∈ rows, r = q ∨ ∃ k, k ≤ q.n ∧ r = ⟨q.A, k, q.c, q.l.take k⟩
theorem rfold_rows {keep : List Bool} {st : DSt} (i : Nat) : ∀ r ∈ (rfold keep st i).2.map (·.2), Half (rowsOf st) r := by
  have base : ∀ r ∈ st.lasts.map (·.2), Half (rowsOf st) r := fun r hr => ⟨r, by unfold rowsOf; exact List.mem_append_left _ (List.mem_append_right _ hr), .inl rfl⟩
  have adel_vals : ∀ {l : Files} {p : List UInt8} {x : BRow}, x ∈ (adel l p).map (·.2) → x ∈ l.map (·.2) := fun {l p x} h => by
    induction l with
    | nil => exact h
    | cons a q ih =>
      obtain ⟨k, u⟩ := a
      simp only [adel] at h
      split at h
      · exact List.mem_cons_of_mem _ h
      · simp only [List.map_cons, List.mem_cons] at h ⊢
        rcases h with rfl | h
        · exact .inl rfl
        · exact .inr (ih h)
  induction i with
  | zero => intro r hr; exact base r (by simpa [rfold] using hr)
  | succ i ih =>
    cases hc : st.waits[i]? with
    | none =>
      have : rfold keep st (i + 1) = rfold keep st i := by
        unfold rfold
        have := List.getElem?_eq_none_iff.1 hc
        rw [List.take_of_length_le (by omega), List.take_of_length_le this]
      rw [this]
      exact ih
    | some c =>
      rw [rfold_succ hc]
      have hcm := List.mem_of_getElem? hc
      intro r hr
      unfold rstep at hr
      split at hr
      · cases c with
        | written p q =>
          have hq : q ∈ rowsOf st := by
            unfold rowsOf
            exact List.mem_append_right _ (List.mem_filterMap.2 ⟨_, hcm, rfl⟩)
          rcases aput_vals hr with h | h
          · exact ih r h
          · rw [h]
            split
            · exact ⟨q, hq, .inl rfl⟩
            · exact ⟨q, hq, .inr ⟨q.n / 2, by omega, rfl⟩⟩
        | renamed a b =>
          simp only at hr
          split at hr
          · exact ih r hr
          · rename_i u hu
            rcases aput_vals hr with h | h
            · exact ih r (adel_vals h)
            · rw [h]; exact ih u (List.mem_map.2 ⟨_, aget_mem hu, rfl⟩)
        | removed p => exact ih r (adel_vals hr)
      · exact ih r hr
/-- behind a restart -/
def DSt.started (st : DSt) (keep : List Bool) (gs : Nat) : DSt :=
  let L := (rfold keep st st.waits.length).2
  { st with gs := gs, seen := L, lasts := L, waits := [], wA := none, wc := 0, power := -1 }
theorem rows_started {st : DSt} {keep : List Bool} (gs : Nat) : ∀ r ∈ rowsOf (st.started keep gs), Half (rowsOf st) r := by
  intro r hr
  unfold rowsOf DSt.started at hr
  simp only [List.filterMap_nil, List.append_nil, List.mem_append, or_self] at hr
  exact rfold_rows _ r hr
theorem rfold_len (keep : List Bool) (st : DSt) (i : Nat) : (rfold keep st i).2.length ≤ st.lasts.length + i := by
  induction i with
  | zero => simp [rfold]
  | succ i ih =>
    cases hc : st.waits[i]? with
    | none =>
      have : rfold keep st (i + 1) = rfold keep st i := by
        unfold rfold
        have := List.getElem?_eq_none_iff.1 hc
        rw [List.take_of_length_le (by omega), List.take_of_length_le this]
      rw [this]; omega
    | some c =>
      rw [rfold_succ hc]
      unfold rstep
      split
      · cases c with
        | written p r =>
          have := aput_len (rfold keep st i).2 p (if (rfold keep st i).1.tail.headD false then r else r.half)
          show (aput _ _ _).length ≤ _
          omega
        | renamed a b =>
          simp only
          split
          · omega
          · rename_i u hu
            have h1 := aput_len (adel (rfold keep st i).2 a) b u
            have h2 := adel_len (rfold keep st i).2 a
            omega
        | removed p =>
          have h2 := adel_len (rfold keep st i).2 p
          show (adel _ _).length ≤ _
          omega
      · show (rfold keep st i).2.length ≤ _
        omega
theorem DOk.started {st : DSt} {k : Nat} (h : DOk st k) (keep : List Bool) (gs : Nat) : DOk (st.started keep gs) k := by
  have hl := rfold_len keep st st.waits.length
  have hr := h.rest
  refine ⟨by show (-1 : Int) ≤ _; omega, h.room, ?_, ?_, fun x hx => ?_⟩
  · show (rfold keep st st.waits.length).2.length ≤ k
    omega
  · show (rfold keep st st.waits.length).2.length + 0 ≤ k
    omega
  · obtain ⟨q, hq, rfl | ⟨j, hj, rfl⟩⟩ := rows_started gs x hx
    · exact h.small _ hq
    · exact Nat.le_trans hj (h.small q hq)
def Wr (st : DSt) : Prop := ∀ c ∈ st.waits, ∃ p r, c = .written p r
theorem restartC {g : Nat} {st : DSt} {A : Option Addr} {n c : Nat} {bs : List Bool} (hc : n ≤ c) (hW : Wr st) (hs : Small st) (hw : st.waits.length ≤ 1000000) : Con Try.prog 13 [.pointer (some ⟨g, 0, none⟩), .slice A n c] [RDisk g st] [RRd 1 A n (bools bs)] (fun v_ X_ S_ => ∃ gs, v_ = (.tuple #[]) ∧ X_ = [RDisk g (st.started bs gs)] ∧ S_ = []) := by
  refine henter (N := 67) Try.func13 rfl rfl (by simp) fun b => ?_
  refine hfactC (fun m => rdX (m.rd 0 rfl)) ?_
  rintro ⟨hl_r, hA_r⟩
  refine hmemC (fun w m => (m.perm (takeR_perm [0] _ [_] _ rfl)).unpack) ?_
  refine hfactC (fun m => (m.ord 3 rfl).2.1) fun hwA => ?_
  refine hseq <| hreg <| ?_
  refine hx (xh_box rfl (fun g3 => ?_))
  refine hend <| hmemQ (X' := [_, _, _, _, _, _]) (S' := [_]) (fun _ m => m) <| hthen <| hseq <| hreg <| hy (fun _ => y_mkf rfl rfl) <| hy (fun _ => y_assign rfl) <| hend <| hsub (ρ' := [(4, _), (3, _), (0, _), (1, _)]) ⟨rfl, rfl, rfl, rfl, trivial⟩ <| hthen <| hseq <| hseq <| hreg <| hy (fun _ => y_move rfl) <| hy (fun _ => y_nilp rfl) <| hy (fun _ => y_fld rfl fa91_3 (by decide)) <| hy (fun m => y_ld1 rfl ag89 (ld_blk (m.blk 1 rfl) rfl)) <| hy (fun _ => y_lenS rfl Try.underlying89) <| hy (fun _ => y_move rfl) <| hend <| hsub (ρ' := [(15, _), (14, _), (13, _), (4, _), (3, _), (0, _), (1, _)]) ⟨rfl, rfl, rfl, rfl, rfl, rfl, rfl, trivial⟩ <| hthen <| hblock <| ?_
  refine hloop6 (fun i ks L A1 n1 c1 => st.waits.length - i) (fun i ks L A1 n1 c1 => [(15, .int .i64 (i : Nat))]) (fun i ks L A1 n1 c1 => [RBlk g3 27 [.slice A1 n1 c1], RMap SV st.gl (vals L)]) (fun i ks L A1 n1 c1 => [RRd 1 A1 n1 (bools ks)]) (fun i ks L A1 n1 c1 => n1 ≤ c1 ∧ i ≤ st.waits.length ∧ (ks, L) = rfold bs st i) 0 bs st.lasts A n c [(14, _), (13, _), (4, _), (3, _), (0, _), (1, _)] ⟨rfl, rfl, rfl, rfl, rfl, rfl, trivial⟩ [0, 2] rfl [0] rfl (⟨hc, Nat.zero_le _, by simp [rfold]⟩) ⟨rfl, trivial⟩ (fun i ks L A1 n1 c1 ⟨hc1, hi, hf⟩ => ?_)
  refine hseq <| hreg <| hy (fun _ => y_lss rfl rfl) <| hend <| hthen <| hseq <| ?_
  refine hif rfl (fun hlt => ?_) (fun hlt => ?_)
  · obtain ⟨cg, hcg⟩ : ∃ cg, st.waits[i]? = some cg := ⟨_, List.getElem?_eq_getElem (by omega)⟩
    obtain ⟨p, r, rfl⟩ := hW _ (List.mem_of_getElem? hcg)
    have hfs := rfold_succ (keep := bs) hcg
    rw [← hf] at hfs
    have hrm : r ∈ rowsOf st := by
      unfold rowsOf
      exact List.mem_append_right _ (List.mem_filterMap.2 ⟨_, List.mem_of_getElem? hcg, rfl⟩)
    have hsr := hs r hrm
    obtain ⟨ri, hri⟩ := List.mem_iff_getElem?.1 hrm
    refine hfactC (fun m => rows_le (m.xres 5 rfl) hri) fun hrc => ?_
    refine hcskip <| hthen <| hseq <| hblock <| hseq <| hreg <| hy (fun _ => y_idxS1 rfl rfl Try.underlying89 sz93 hwA rfl (by omega)) <| hy (fun m => y_ld1 rfl ag93 ((m.ord 4 rfl).cell (j := i) (by rw [List.getElem?_map, hcg]; rfl))) <| hy (fun _ => y_assign rfl) <| hend <| hsub (ρ' := [(6, _), (16, _), (15, _), (14, _), (13, _), (4, _), (3, _), (0, _), (1, _)]) ⟨rfl, rfl, rfl, rfl, rfl, rfl, rfl, rfl, rfl, trivial⟩ <| hthen <| hseq <| hseq <| hreg <| hy (fun _ => y_move rfl) <| ?_
    refine hx (xh_callv rfl rfl Try.call47 (nextBitC (by omega)) [0] rfl [0] rfl ?_)
    rintro _ _ _ ⟨A12, n12, c12, rfl, rfl, rfl, hp⟩
    refine hfactL (fun m => rdX (m.rd 0 rfl)) ?_
    rintro ⟨hl_q, hA_q⟩
    refine hy (fun _ => (y_not rfl)) <| hend <| hsub (ρ' := [(21, _), (6, _), (16, _), (15, _), (14, _), (13, _), (4, _), (3, _), (0, _), (1, _)]) ⟨rfl, rfl, rfl, rfl, rfl, rfl, rfl, rfl, rfl, rfl, trivial⟩ <| hmemQ (X' := [_, _, _, _, _, _]) (S' := [_, _, _]) (fun _ m => m) <| hthen <| ?_
    refine hifb rfl (fun hb => ?_) (fun hb => ?_)
    · have hb' : ks.headD false = false := by simpa using hb
      refine hexit <| hthen_exit <| hqblock_exit <| hthen <| hreg <| hy (fun _ => y_add rfl rfl (w64 (by omega) (by omega))) <| hy (fun _ => y_move rfl) <| hend <| hsub (ρ' := [(15, _), (21, _), (6, _), (16, _), (14, _), (13, _), (4, _), (3, _), (0, _), (1, _)]) ⟨rfl, rfl, rfl, rfl, rfl, rfl, rfl, rfl, rfl, rfl, trivial⟩ <| ?_
      refine hnext6 (i + 1) ks.tail L A12 n12 c12 ⟨rfl, rfl, rfl, rfl, rfl, rfl, rfl, trivial⟩ [0, 0, 0, 0, 0, 0] rfl [0, 2] rfl (⟨hp, by omega, by rw [hfs, rstep, if_neg (by rw [hb']; decide)]⟩) (by omega)
    · have hb' : ks.headD false = true := by simpa using hb
      refine hcskip <| hthen <| hseq <| hreg <| hy (fun _ => y_move rfl) <| hend <| hthen <| hblock <| hseq <| hreg <| hy (fun _ => y_tas rfl (show _ = Result.ok (Value.tuple #[.agg [SV p, r.val].toArray, .bool true]) _ by kernel_rfl)) <| hy (fun _ => y_extract rfl rfl) <| hy (fun _ => y_extract rfl rfl) <| hend <| hsub (ρ' := [(34, _), (33, _), (22, _), (21, _), (6, _), (16, _), (15, _), (14, _), (13, _), (4, _), (3, _), (0, _), (1, _)]) ⟨rfl, rfl, rfl, rfl, rfl, rfl, rfl, rfl, rfl, rfl, rfl, rfl, rfl, trivial⟩ <| hthen <| ?_
      refine hift rfl (rfl) ?_
      refine hseq <| hreg <| ?_
      refine hx (xh_alloc ti95 (fun g7 => ?_))
      refine hx0 (xh_stA 0 rfl rfl rfl sz95 rfl (by simp [SV, BRow.val, Value.oneCell']) rfl ?_)
      refine hend <| hmemQ (X' := [_, _, _, _, _, _, _]) (S' := [_, _, _]) (fun _ m => m) <| hthen <| hseq <| hseq <| hreg <| hy (fun _ => y_move rfl) <| ?_
      refine hx (xh_callv rfl rfl Try.call47 (nextBitC (by omega)) [1] rfl [0] rfl ?_)
      rintro _ _ _ ⟨A13, n13, c13, rfl, rfl, rfl, hp2⟩
      refine hfactL (fun m => rdX (m.rd 0 rfl)) ?_
      rintro ⟨hl_q2, hA_q2⟩
      refine hy (fun _ => (y_not rfl)) <| hend <| hsub (ρ' := [(37, _), (7, _), (34, _), (33, _), (22, _), (21, _), (6, _), (16, _), (15, _), (14, _), (13, _), (4, _), (3, _), (0, _), (1, _)]) ⟨rfl, rfl, rfl, rfl, rfl, rfl, rfl, rfl, rfl, rfl, rfl, rfl, rfl, rfl, rfl, trivial⟩ <| hmemQ (X' := [_, _, _, _, _, _, _]) (S' := [_, _, _, _]) (fun _ m => m) <| hthen <| ?_
      refine hifb rfl (fun hb2 => ?_) (fun hb2 => ?_)
      · have hb2' : ks.tail.headD false = false := by simpa using hb2
        refine hreg <| hy (fun _ => y_fld rfl fa95_1 (by decide)) <| hy (fun m => y_ld1 rfl ag44 (ld_blk (m.blk 1 rfl) rfl)) <| hy (fun _ => y_fld rfl fa95_1 (by decide)) <| hy (fun m => y_ld1 rfl ag44 (ld_blk (m.blk 1 rfl) rfl)) <| hy (fun _ => y_lenS rfl Try.underlying44) <| hy (fun _ => y_quo rfl rfl (by omega) (by omega) (w64 (by omega) (by omega))) <| hy (fun _ => y_slTo rfl rfl Try.underlying44 sz5 (show ((r.n / 2 : Nat) : Int) = _ by omega) (by omega)) <| hy (fun _ => y_fld rfl fa95_1 (by decide)) <| ?_
        refine hx0 (xh_st1a 1 rfl rfl rfl sz44 rfl (by first | exact Nat.le_of_ble_eq_true rfl | simp) ?_)
        refine hmemL (fun w m => m.eqX 0 rfl (show _ = RBlk g7 95 [SV p, r.half.val] from rfl)) ?_
        refine hend <| hsub (ρ' := [(37, _), (7, _), (34, _), (33, _), (22, _), (21, _), (6, _), (16, _), (15, _), (14, _), (13, _), (4, _), (3, _), (0, _), (1, _)]) ⟨rfl, rfl, rfl, rfl, rfl, rfl, rfl, rfl, rfl, rfl, rfl, rfl, rfl, rfl, rfl, trivial⟩ <| hmemQ (X' := [_, _, _, _, _, _, _]) (S' := [_, _, _, _]) (fun _ m => m) <| hthen <| hdrw [5] [(0, some 0), (1, some 0), (2, some 0), (3, some 0), (4, some 0), (5, none)] (by kernel_rfl) (by kernel_rfl) rfl 0 <| hty (fun m => y_ldN rfl ag95 sz95 (by simp) (m.blk 0 rfl).cells0) <| htyU (y_move rfl) <| htyU (y_nilp rfl) <| htyU (y_fld rfl fa91_2 (by decide)) <| hty (fun m => y_ld1 rfl ag88 (ld_blk (m.blk 3 rfl) rfl)) <| ?_
        refine htx (xh_call rfl Try.call48 (wmakeC) [2] rfl [] rfl ?_)
        rintro _ _ _ ⟨rfl, rfl, rfl⟩
        refine ⟨(fun h => absurd h (by decide)), ?_⟩
        refine htend <| hsub (ρ' := [(37, _), (7, _), (34, _), (33, _), (22, _), (21, _), (6, _), (16, _), (15, _), (14, _), (13, _), (4, _), (3, _), (0, _), (1, _)]) ⟨rfl, rfl, rfl, rfl, rfl, rfl, rfl, rfl, rfl, rfl, rfl, rfl, rfl, rfl, rfl, trivial⟩ <| hmemQ (X' := [_, _, _, _, _, _, _]) (S' := [_, _, _, _]) (fun _ m => m) <| hqblock <| hqblock <| hthen <| hreg <| hy (fun _ => y_add rfl rfl (w64 (by omega) (by omega))) <| hy (fun _ => y_move rfl) <| hend <| hsub (ρ' := [(15, _), (37, _), (7, _), (34, _), (33, _), (22, _), (21, _), (6, _), (16, _), (14, _), (13, _), (4, _), (3, _), (0, _), (1, _)]) ⟨rfl, rfl, rfl, rfl, rfl, rfl, rfl, rfl, rfl, rfl, rfl, rfl, rfl, rfl, rfl, trivial⟩ <| ?_
        refine hmemQ (fun w m => m.eqX 0 rfl (show _ = RMap SV st.gl (vals (aput L p r.half)) from congrArg (RMap SV st.gl) (vals_put _ _ _))) ?_
        refine hnext6 (i + 1) ks.tail.tail (aput L p r.half) A13 n13 c13 ⟨rfl, rfl, rfl, rfl, rfl, rfl, rfl, trivial⟩ [2, 0, 1, 1, 1, 1] rfl [0, 3] rfl (⟨hp2, by omega, by rw [hfs, rstep, if_pos hb', hb2']; rfl⟩) (by omega)
      · have hb2' : ks.tail.headD false = true := by simpa using hb2
        refine hcskip <| hthen <| hdrw [5] [(0, some 0), (1, some 0), (2, some 0), (3, some 0), (4, some 0), (5, none)] (by kernel_rfl) (by kernel_rfl) rfl 0 <| hty (fun m => y_ldN rfl ag95 sz95 (by simp) (m.blk 1 rfl).cells0) <| htyU (y_move rfl) <| htyU (y_nilp rfl) <| htyU (y_fld rfl fa91_2 (by decide)) <| hty (fun m => y_ld1 rfl ag88 (ld_blk (m.blk 3 rfl) rfl)) <| ?_
        refine htx (xh_call rfl Try.call48 (wmakeC) [2] rfl [] rfl ?_)
        rintro _ _ _ ⟨rfl, rfl, rfl⟩
        refine ⟨(fun h => absurd h (by decide)), ?_⟩
        refine htend <| hsub (ρ' := [(37, _), (7, _), (34, _), (33, _), (22, _), (21, _), (6, _), (16, _), (15, _), (14, _), (13, _), (4, _), (3, _), (0, _), (1, _)]) ⟨rfl, rfl, rfl, rfl, rfl, rfl, rfl, rfl, rfl, rfl, rfl, rfl, rfl, rfl, rfl, trivial⟩ <| hmemQ (X' := [_, _, _, _, _, _, _]) (S' := [_, _, _, _]) (fun _ m => m) <| hqblock <| hqblock <| hthen <| hreg <| hy (fun _ => y_add rfl rfl (w64 (by omega) (by omega))) <| hy (fun _ => y_move rfl) <| hend <| hsub (ρ' := [(15, _), (37, _), (7, _), (34, _), (33, _), (22, _), (21, _), (6, _), (16, _), (14, _), (13, _), (4, _), (3, _), (0, _), (1, _)]) ⟨rfl, rfl, rfl, rfl, rfl, rfl, rfl, rfl, rfl, rfl, rfl, rfl, rfl, rfl, rfl, trivial⟩ <| ?_
        refine hmemQ (fun w m => m.eqX 0 rfl (show _ = RMap SV st.gl (vals (aput L p r)) from congrArg (RMap SV st.gl) (vals_put _ _ _))) ?_
        refine hnext6 (i + 1) ks.tail.tail (aput L p r) A13 n13 c13 ⟨rfl, rfl, rfl, rfl, rfl, rfl, rfl, trivial⟩ [1, 0, 1, 1, 1, 1] rfl [0, 3] rfl (⟨hp2, by omega, by rw [hfs, rstep, if_pos hb', hb2']; rfl⟩) (by omega)
  · obtain rfl : i = st.waits.length := by omega
    have hL : L = (rfold bs st st.waits.length).2 := by rw [← hf]
    refine hexit <| hthen_exit <| hthen_exit <| hqblock_exit <| hthen <| hreg <| hy (fun _ => y_move rfl) <| hy (fun _ => y_move rfl) <| hy (fun _ => y_move rfl) <| hy (fun _ => y_move rfl) <| hy (fun _ => y_nilp rfl) <| hy (fun _ => y_fld rfl fa91_2 (by decide)) <| hy (fun m => y_ld1 rfl ag88 (ld_blk (m.blk 2 rfl) rfl)) <| ?_
    refine hx (xh_call rfl Try.call49 (mcloneC) [1] rfl [] rfl ?_)
    rintro _ _ _ ⟨g1, rfl, rfl, rfl⟩
    refine hy (fun _ => y_nilp rfl) <| hy (fun _ => y_fld rfl fa91_1 (by decide)) <| ?_
    refine hx0 (xh_st1a 3 rfl rfl rfl sz88 rfl (by first | exact Nat.le_of_ble_eq_true rfl | simp) ?_)
    refine hy (fun _ => y_nilp rfl) <| hy (fun _ => y_fld rfl fa91_3 (by decide)) <| ?_
    refine hx0 (xh_st1a 0 rfl rfl rfl sz89 rfl (by first | exact Nat.le_of_ble_eq_true rfl | simp) ?_)
    refine hy (fun _ => y_nilp rfl) <| hy (fun _ => y_fld rfl fa91_4 (by decide)) <| ?_
    refine hx0 (xh_st1a 0 rfl rfl rfl sz3 rfl (by first | exact Nat.le_of_ble_eq_true rfl | simp) ?_)
    refine hend <| hsub (ρ' := [(16, _), (15, _), (14, _), (13, _), (4, _), (3, _), (0, _), (1, _)]) ⟨rfl, rfl, rfl, rfl, rfl, rfl, rfl, rfl, trivial⟩ <| hmemQ (X' := [_, _, _, _, _, _, _]) (S' := [_, _]) (fun _ m => m) <| ?_
    refine hmemQ (fun w m => m.addX (r' := ROwn 93 1 (.slice none 0 0) 0 []) (.refl _ _) (Own.nil _ _ _ _) (fun k hk => hk.elim)) ?_
    have e : ∀ gs, st.started bs gs = { st with gs := gs, seen := L, lasts := L, waits := [], wA := none, wc := 0, power := -1 } := fun gs => by rw [hL]; rfl
    refine hmemQ (fun w m => m.eqX 1 rfl (show _ = RBlk g 91 (dcells (st.started bs g1)) from rfl)) ?_
    refine hmemQ (fun w m => m.eqX 3 rfl (show _ = RMap SV g1 (vals (st.started bs g1).seen) from by rw [hL]; rfl)) ?_
    refine hmemQ (fun w m => m.eqX 3 rfl (show _ = RMap SV st.gl (vals (st.started bs g1).lasts) from by rw [hL]; rfl)) ?_
    refine hmemQ (X' := RRows (rowsOf (st.started bs g1)) :: _) (fun w m => (m.perm (takeR_perm [7] _ [_] _ rfl)).rowHalf (rows_started g1)) ?_
    refine hmemQ (X' := RDisk g (st.started bs g1) :: _) (fun w m => (m.perm (takeR_perm [3, 2, 1, 1, 0] _ [_, _, _, _, _] _ rfl)).pack) ?_
    exact hret0 trivial rfl [0] rfl [] rfl ⟨_, rfl, rfl, rfl⟩
end Go.Proofs.Ytflcokdkobhieaa
