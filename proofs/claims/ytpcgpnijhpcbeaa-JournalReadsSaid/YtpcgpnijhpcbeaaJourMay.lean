/- The law JournalMay: what it computes. -/
import Derived.Test.YtpcgpnijhpcbeaaJour5
set_option linter.unusedVariables false
set_option linter.unusedSimpArgs false
set_option maxRecDepth 20000
namespace Go.Proofs.Ytpcgpnijhpcbeaa
open Go.Eng Go.Hx
theorem two_get {a b : List Value} {i : Nat} (ha : a.length = 33) (hi : i < 2) : ∀ (j : Nat) (u : Value), (if i = 0 then a else b)[j]? = some u → (a ++ b)[i * 33 + j]? = some u := by
  intro j u hu
  by_cases h : i = 0
  · subst h
    simp only [if_true] at hu
    rw [Nat.zero_mul, Nat.zero_add, List.getElem?_append_left (List.getElem?_eq_some_iff.1 hu).1]
    exact hu
  · have : i = 1 := by omega
    subst this
    simp only [if_neg h] at hu
    rw [List.getElem?_append_right (by omega)]
    have e : 1 * 33 + j - a.length = j := by omega
    rw [e]
    exact hu
theorem journalMay (img : List UInt8) (A : Option Addr) (n c : Nat) (ds : List (List UInt8)) (w : World) (hi : img.length = 32) (hr : Rd w 32 A n (dc ds)) (hc : n ≤ c) (hD : D32 ds) (hn : n ≤ 140737488351232) :
    Calls Try.prog 6 #[.agg (b8s img ++ [Value.slice A n c]).toArray] w fun e w' => e = .returned (.bool true) ∧ Fr No w w' := by
  have hl := dc_len hr hD
  have il : (b8s img).length = 32 := by rw [b8s_length]; exact hi
  have hm6 : min n 6 ≤ n := by omega
  have hr6 := hr.take_dc hD hm6
  have hD6 : D32 (ds.take (min n 6)) := fun x hx => hD x (List.mem_of_mem_take hx)
  generalize hds0 : ds.take (min n 6) = ds0 at hr6 hD6
  have hDg := goodL_D32 hD
  have hlg := goodL_length hD
  refine enter (N := 81) Try.func6 rfl rfl (by simp) ?_
  refine cseq <| creg <| ?_
  refine nx (x_box rfl fun g1 w1 hg1 hf1 hb1 => ?_)
  rw [cells_agg] at hb1
  have l1 := hb1.lt
  refine nq (y_assign rfl) <| nend <| qthen <| cseq <| ?_
  refine cdrwT [10, 11] [(0, some 1), (1, some 1), (2, some 1), (3, some 1), (4, some 1), (5, some 1), (6, some 1), (7, some 1), (8, some 1), (9, some 1), (10, none), (11, none)] (by kernel_rfl) (by kernel_rfl) rfl (fun k w' => k ≤ 1 → Fr No w1 w') (fun _ => Fr.drew _) (fun w2 hf2 hS2 => ?_)
  have hf2 := hS2 (by omega)
  refine tq (fun k_ w_ h1_ h2_ hT_ => have hS_ := (fun _ _ (h : _ ≤ 1) hT => hT h) k_ w_ h2_ hT_; y_fld rfl fa56_0 (by decide)) <| tq (fun k_ w_ h1_ h2_ hT_ => have hS_ := (fun _ _ (h : _ ≤ 1) hT => hT h) k_ w_ h2_ hT_; y_ldN rfl ag23 sz23 il (j_img (hb1.fr0 hS_))) <| tq (fun k_ w_ h1_ h2_ hT_ => have hS_ := (fun _ _ (h : _ ≤ 1) hT => hT h) k_ w_ h2_ hT_; y_fld rfl fa56_1 (by decide)) <| tq (fun k_ w_ h1_ h2_ hT_ => have hS_ := (fun _ _ (h : _ ≤ 1) hT => hT h) k_ w_ h2_ hT_; y_ld1 rfl ag54 (j_s (hb1.fr0 hS_) hi)) <| tq (fun k_ w_ h1_ h2_ hT_ => have hS_ := (fun _ _ (h : _ ≤ 1) hT => hT h) k_ w_ h2_ hT_; y_fld rfl fa56_1 (by decide)) <| tq (fun k_ w_ h1_ h2_ hT_ => have hS_ := (fun _ _ (h : _ ≤ 1) hT => hT h) k_ w_ h2_ hT_; y_ld1 rfl ag54 (j_s (hb1.fr0 hS_) hi)) <| tq (fun k_ w_ h1_ h2_ hT_ => have hS_ := (fun _ _ (h : _ ≤ 1) hT => hT h) k_ w_ h2_ hT_; y_lenS rfl Try.underlying54) <| tq (fun k_ w_ h1_ h2_ hT_ => have hS_ := (fun _ _ (h : _ ≤ 1) hT => hT h) k_ w_ h2_ hT_; y_min rfl rfl) <| tq (fun k_ w_ h1_ h2_ hT_ => have hS_ := (fun _ _ (h : _ ≤ 1) hT => hT h) k_ w_ h2_ hT_; y_slTo rfl rfl Try.underlying54 sz23 (show ((min n 6 : Nat) : Int) = _ by omega) ((by omega))) <| tq (fun k_ w_ h1_ h2_ hT_ => have hS_ := (fun _ _ (h : _ ≤ 1) hT => hT h) k_ w_ h2_ hT_; y_build ti56 rfl rfl (by kernel_rfl) ((bldJ pl56_0 pl56_1 (by simp) hi rfl))) <| ?_
  refine tx (x_alloc ti56 fun g3 w3 hg3 hf3 hb3 => ?_)
  refine ⟨fun _ => hf2.trans0 hf3, ?_⟩
  have f13 : Fr No w1 w3 := hf2.trans0 hf3
  have s13 := f13.size
  refine tx0 (x_stA rfl rfl sz56 (j_len hi) (j_one rfl) hb3 rfl fun w4 hf4 hb4 hs4 => ?_)
  refine ⟨fun h => absurd h (by omega), ?_⟩
  have s2 := hf2.size
  have f14 : Fr No w1 w4 := f13.new hf4 (fun i hi => by omega)
  have b14 := hb1.fr0 f14
  have f04 := hf1.trans0 f14
  refine tend <| qsub (sub_cons (t := 3) rfl <| sub_cons (t := 2) rfl <| sub_cons (t := 1) rfl <| sub_cons (t := 0) rfl <| sub_nil) <| qthen <| cseq <| ?_
  refine cdrw [(0, false), (1, false), (2, true), (3, true), (4, false)] (by kernel_rfl) (by kernel_rfl) rfl (fun w' => Fr No w4 w') (Fr.drew _) (fun w5 hf5 hS5 => ?_)
  refine sq (fun w_ hS_ => y_ldN rfl ag56 sz56 ((j_len hi)) ((hb4.fr0 hS_).cells0)) <| sq (fun w_ hS_ => y_ldN rfl ag56 sz56 ((j_len hi)) ((b14.fr0 hS_).cells0)) <| ?_
  refine sx (x_call rfl Try.call24 (rgood img A n c ds _ hi ((hr.fr0 f04).fr0 hS5) hD hn) ?_)
  rintro e_ w6 ⟨v6, rfl, ho6, hf6⟩
  refine ⟨_, rfl, ?_⟩
  refine ⟨hS5.trans0 hf6, ?_⟩
  obtain ⟨A6, c6, rfl, hc6⟩ := ho6.slice
  have f46 := hS5.trans0 hf6
  refine sx (x_bsl Try.underlying58 ti56 rfl rfl rfl (by simp [Value.cells, il]) (by decide) (by decide) fun g7 w7 hg7 hf7 hb7 => ?_)
  have f47 := f46.trans0 hf7
  refine ⟨f47, ?_⟩
  have hb7 : Blk w7 g7 56 ((b8s img ++ [Value.slice A (min n 6) c]) ++ (b8s img ++ [Value.slice A6 (goodL ds).length c6])) := by simpa [Value.cells] using hb7
  have f07 := f04.trans0 f47
  have r6 := (Own.rd (ho6.fr0 hf7)).2.2
  have r07 := hr6.fr0 f07
  refine sq (fun w_ hS_ => y_assign rfl) <| send <| qsub (sub_cons (t := 4) rfl <| sub_cons (t := 3) rfl <| sub_cons (t := 2) rfl <| sub_cons (t := 1) rfl <| sub_cons (t := 0) rfl <| sub_nil) <| qthen <| cseq <| cseq <| creg <| nq (y_assign rfl) <| nend <| qthen <| cblock <| ?_
  refine cloop1 (fun i => 2 - i) (fun i => [(4, .slice (some ⟨g7, 0, none⟩) 2 2), (5, .int .i64 (i : Nat))]) (fun i w' => i ≤ 2 ∧ Fr No w7 w') 0 (⟨Nat.zero_le _, Fr.refl _ _⟩) (sub_cons (t := 4) rfl <| sub_cons (t := 5) rfl <| sub_nil) (fun i w8 ⟨hi2, hf8⟩ => ?_)
  refine cseq <| cseq <| creg <| nq (y_move rfl) <| nq (y_lss rfl rfl) <| nend <| qsub (sub_cons (t := 24) rfl <| sub_cons (t := 4) rfl <| sub_cons (t := 5) rfl <| sub_nil) <| qthen <| ?_
  refine cif rfl (fun h => ?_) (fun h => ?_)
  · have hi3 : i < 2 := by omega
    obtain ⟨A', n', c', ds', hcs, hR, hDD, hn'⟩ : ∃ (A' : Option Addr) (n' c' : Nat) (ds' : List (List UInt8)), (∀ (j : Nat) (u : Value), (b8s img ++ [Value.slice A' n' c'])[j]? = some u → ((b8s img ++ [Value.slice A (min n 6) c]) ++ (b8s img ++ [Value.slice A6 (goodL ds).length c6]))[i * 33 + j]? = some u) ∧ Rd w7 32 A' n' (dc ds') ∧ D32 ds' ∧ n' ≤ 6 := by
      have h2 := two_get (b := b8s img ++ [Value.slice A6 (goodL ds).length c6]) (j_len hi (s := .slice A (min n 6) c)) hi3
      by_cases h0 : i = 0
      · rw [if_pos h0] at h2
        exact ⟨_, _, _, ds0, h2, r07, hD6, by omega⟩
      · rw [if_neg h0] at h2
        exact ⟨_, _, _, goodL ds, h2, r6, hDg, hlg⟩
    have hcell : ∀ w', Fr No w7 w' → ∀ (j : Nat) (u : Value), (b8s img ++ [Value.slice A' n' c'])[j]? = some u → w'.cell? (((⟨g7, 0, none⟩ : Addr).add (i * 33)).add j) = some u := fun w' f => (hb7.fr0 f).part (i * 33) hcs
    refine cskip <| qthen <| cseq <| cblock <| cseq <| creg <| nq (y_move rfl) <| nq (y_move rfl) <| nq (y_idxS rfl rfl Try.underlying58 sz56 ((fun _ e => by cases e)) rfl (by omega)) <| nq (y_ldN rfl ag56 sz56 ((j_len hi)) (hcell _ hf8)) <| ?_
    refine nx (x_call rfl Try.call25 (rmay img A' n' c' ds' _ hi (hR.fr0 hf8) hDD (by omega)) ?_)
    rintro e_ w9 ⟨rfl, hf9⟩
    refine ⟨_, rfl, ?_⟩
    have f9 := hf8.trans0 hf9
    refine nq (y_assign rfl) <| nend <| qsub (sub_cons (t := 6) rfl <| sub_cons (t := 24) rfl <| sub_cons (t := 4) rfl <| sub_cons (t := 5) rfl <| sub_nil) <| qthen <| cseq <| creg <| nq (y_move rfl) <| nq (y_move rfl) <| nq (y_idxS rfl rfl Try.underlying58 sz56 ((fun _ e => by cases e)) rfl (by omega)) <| nq (y_ldN rfl ag56 sz56 ((j_len hi)) (hcell _ f9)) <| ?_
    refine nx (x_call rfl Try.call27 (of_j img (.slice A' n' c') _ hi rfl rfl) ?_)
    rintro e_ w10 ⟨rfl, hf10⟩
    refine ⟨_, rfl, ?_⟩
    have f10 := f9.trans0 hf10
    refine nx (x_call rfl Try.call26 (write img A' n' c' ds' _ hi (hR.fr0 f10) hDD (by omega)) ?_)
    rintro e_ w11 ⟨⟨v11, rfl, hv1, hv2⟩, hf11⟩
    refine ⟨_, rfl, ?_⟩
    have f11 := f10.trans0 hf11
    refine nq (y_move rfl) <| nq (y_extract rfl rfl) <| nq (y_extract rfl rfl) <| nq (y_assign rfl) <| nq (y_assign rfl) <| nend <| qsub (sub_cons (t := 8) rfl <| sub_cons (t := 7) rfl <| sub_cons (t := 6) rfl <| sub_cons (t := 24) rfl <| sub_cons (t := 4) rfl <| sub_cons (t := 5) rfl <| sub_nil) <| qthen <| cseq <| cseq <| creg <| nq (y_move rfl) <| nq (y_move rfl) <| nq (y_idxS rfl rfl Try.underlying58 sz56 ((fun _ e => by cases e)) rfl (by omega)) <| nq (y_ldN rfl ag56 sz56 ((j_len hi)) (hcell _ f11)) <| ?_
    refine nx (x_call rfl Try.call27 (of_j img (.slice A' n' c') _ hi rfl rfl) ?_)
    rintro e_ w12 ⟨rfl, hf12⟩
    refine ⟨_, rfl, ?_⟩
    have f12 := f11.trans0 hf12
    refine nx (x_call rfl Try.call28 (may img A' n' c' ds' _ hi (hR.fr0 f12) hDD (by omega)) ?_)
    rintro e_ w13 ⟨rfl, hf13⟩
    refine ⟨_, rfl, ?_⟩
    have f13 := f12.trans0 hf13
    by_cases hJ : JMay ds'
    · have ho := hv1 hJ
      obtain ⟨A1, c1, rfl, hc1⟩ := ho.slice
      have r11 := ((Own.rd ho).2.2).fr0 (hf12.trans0 hf13)
      rw [if_pos hJ]
      simp only [decide_eq_true hJ]
      refine nq (y_move rfl) <| nq (yF (y_bne Try.underlying4 rfl rfl) (rfl)) <| nq (y_move rfl) <| ng rfl rfl rfl (y_move rfl) <| ng rfl rfl rfl (y_eql rfl rfl) <| ng rfl rfl rfl (y_move rfl) <| ng rfl rfl rfl (yF (y_bne Try.underlying4 rfl rfl) (rfl)) <| nq (y_pickF rfl rfl) <| nq (y_move rfl) <| ng rfl rfl rfl (y_move rfl) <| ng rfl rfl rfl ((y_not rfl)) <| ng rfl rfl rfl (y_move rfl) <| nskip rfl rfl rfl (by decide) <| nskip rfl rfl rfl (by decide) <| nskip rfl rfl rfl (by decide) <| nskipU rfl rfl rfl <| nskipU rfl rfl rfl <| nskipU rfl rfl rfl <| nskip rfl rfl rfl (by decide) <| ng rfl rfl rfl (y_pickF rfl rfl) <| nq (y_pickF rfl rfl) <| nend <| qsub (sub_cons (t := 67) rfl <| sub_cons (t := 8) rfl <| sub_cons (t := 7) rfl <| sub_cons (t := 6) rfl <| sub_cons (t := 24) rfl <| sub_cons (t := 4) rfl <| sub_cons (t := 5) rfl <| sub_nil) <| qthen <| ?_
      refine ciff rfl (rfl) ?_
      refine cskip <| qthen <| cseq <| ?_
      refine cdrw [(0, false), (1, false), (2, false), (3, false), (4, false), (5, false), (6, false), (7, false), (8, true), (9, true), (10, false), (11, false)] (by kernel_rfl) (by kernel_rfl) rfl (fun w' => Fr No w13 w') (Fr.drew _) (fun w14 hf14 hS14 => ?_)
      refine sq (fun w_ hS_ => y_move rfl) <| sq (fun w_ hS_ => y_move rfl) <| sqg (o := _) rfl rfl rfl (fun w_ hS_ => y_move rfl) <| sqg (o := _) rfl rfl rfl (fun w_ hS_ => y_b2s rfl Try.underlying29 Try.underlying5 Try.underlying9 ((r11.fr0 hS_))) <| sqg (o := _) rfl rfl rfl (fun w_ hS_ => y_move rfl) <| sqg (o := _) rfl rfl rfl (fun w_ hS_ => y_move rfl) <| sqg (o := _) rfl rfl rfl (fun w_ hS_ => y_idxS rfl rfl Try.underlying58 sz56 ((fun _ e => by cases e)) rfl (by omega)) <| sqg (o := _) rfl rfl rfl (fun w_ hS_ => y_ldN rfl ag56 sz56 ((j_len hi)) (hcell _ (f13.trans0 hS_))) <| ?_
      refine sxg rfl rfl rfl (x_call rfl Try.call29 (rbytes img A' n' c' ds' _ hi (hR.fr0 (f13.trans0 hS14)) hDD (by omega)) ?_)
      rintro e_ w15 ⟨v15, rfl, ho15, hf15⟩
      refine ⟨_, rfl, ?_⟩
      refine ⟨hS14.trans0 hf15, ?_⟩
      have hS15 := hS14.trans0 hf15
      obtain ⟨A15, c15, rfl, hc15⟩ := ho15.slice
      refine syg (o := _) rfl rfl rfl (hS15) (y_b2s rfl Try.underlying29 Try.underlying5 Try.underlying9 ((Own.rd ho15).2.2)) <| sqg (o := _) rfl rfl rfl (fun w_ hS_ => yF (y_sne rfl rfl) (decide_eq_false (fun h => h rfl))) <| sq (fun w_ hS_ => y_pickT rfl rfl) <| send <| qsub (sub_cons (t := 79) rfl <| sub_cons (t := 67) rfl <| sub_cons (t := 8) rfl <| sub_cons (t := 7) rfl <| sub_cons (t := 6) rfl <| sub_cons (t := 24) rfl <| sub_cons (t := 4) rfl <| sub_cons (t := 5) rfl <| sub_nil) <| qthen <| ?_
      refine ciff rfl (rfl) ?_
      refine cskip <| qblock <| qthen <| creg <| nq (y_move rfl) <| nq (y_add rfl rfl (w64 (by omega) (by omega))) <| nq (y_assign rfl) <| nend <| qsub (sub_cons (t := 5) rfl <| sub_cons (t := 79) rfl <| sub_cons (t := 67) rfl <| sub_cons (t := 8) rfl <| sub_cons (t := 7) rfl <| sub_cons (t := 6) rfl <| sub_cons (t := 24) rfl <| sub_cons (t := 4) rfl <| sub_nil) <| ?_
      refine qloop1 (i + 1) (sub_cons (t := 4) rfl <| sub_cons (t := 5) rfl <| sub_nil) (⟨by omega, f13.trans0 hS15⟩) (by omega)
    · obtain rfl := hv2 hJ
      rw [if_neg hJ]
      simp only [decide_eq_false hJ]
      refine nq (y_move rfl) <| nq (yF (y_bne Try.underlying4 rfl rfl) (rfl)) <| nq (y_move rfl) <| ng rfl rfl rfl (y_move rfl) <| ng rfl rfl rfl (y_eql rfl rfl) <| ng rfl rfl rfl (y_move rfl) <| ng rfl rfl rfl (yF (y_bne Try.underlying4 rfl rfl) (rfl)) <| nq (y_pickF rfl rfl) <| nq (y_move rfl) <| ng rfl rfl rfl (y_move rfl) <| ng rfl rfl rfl ((y_not rfl)) <| ng rfl rfl rfl (y_move rfl) <| ng rfl rfl rfl (y_move rfl) <| ng rfl rfl rfl (y_neq rfl rfl) <| ng rfl rfl rfl (y_move rfl) <| ng rfl rfl rfl (y_move rfl) <| ng rfl rfl rfl (y_lenS rfl Try.underlying29) <| ng rfl rfl rfl (y_gtr rfl rfl) <| ng rfl rfl rfl (y_pickF rfl rfl) <| ng rfl rfl rfl (y_pickT rfl rfl) <| nq (y_pickF rfl rfl) <| nend <| qsub (sub_cons (t := 67) rfl <| sub_cons (t := 8) rfl <| sub_cons (t := 7) rfl <| sub_cons (t := 6) rfl <| sub_cons (t := 24) rfl <| sub_cons (t := 4) rfl <| sub_cons (t := 5) rfl <| sub_nil) <| qthen <| ?_
      refine ciff rfl (rfl) ?_
      refine cskip <| qthen <| cseq <| ?_
      refine cdrw [(0, false), (1, false), (2, false), (3, false), (4, false), (5, false), (6, false), (7, false), (8, true), (9, true), (10, false), (11, false)] (by kernel_rfl) (by kernel_rfl) rfl (fun w' => Fr No w13 w') (Fr.drew _) (fun w14 hf14 hS14 => ?_)
      refine sq (fun w_ hS_ => y_move rfl) <| sq (fun w_ hS_ => y_move rfl) <| sskip rfl rfl rfl (by decide) <| sskip rfl rfl rfl (by decide) <| sskip rfl rfl rfl (by decide) <| sskip rfl rfl rfl (by decide) <| sskip rfl rfl rfl (by decide) <| sskip rfl rfl rfl (by decide) <| sskip rfl rfl rfl (by decide) <| sskip rfl rfl rfl (by decide) <| sskip rfl rfl rfl (by decide) <| sq (fun w_ hS_ => y_pickF rfl rfl) <| send <| qsub (sub_cons (t := 79) rfl <| sub_cons (t := 67) rfl <| sub_cons (t := 8) rfl <| sub_cons (t := 7) rfl <| sub_cons (t := 6) rfl <| sub_cons (t := 24) rfl <| sub_cons (t := 4) rfl <| sub_cons (t := 5) rfl <| sub_nil) <| qthen <| ?_
      refine ciff rfl (rfl) ?_
      refine cskip <| qblock <| qthen <| creg <| nq (y_move rfl) <| nq (y_add rfl rfl (w64 (by omega) (by omega))) <| nq (y_assign rfl) <| nend <| qsub (sub_cons (t := 5) rfl <| sub_cons (t := 79) rfl <| sub_cons (t := 67) rfl <| sub_cons (t := 8) rfl <| sub_cons (t := 7) rfl <| sub_cons (t := 6) rfl <| sub_cons (t := 24) rfl <| sub_cons (t := 4) rfl <| sub_nil) <| ?_
      refine qloop1 (i + 1) (sub_cons (t := 4) rfl <| sub_cons (t := 5) rfl <| sub_nil) (⟨by omega, f13.trans0 hS14⟩) (by omega)
  · refine cexit <| qthen_exit <| qthen_exit <| qblock_exit <| qthen <| cseq <| creg <| ?_
    refine nx (x_call rfl Try.call30 (lives17 _) ?_)
    rintro e_ w9 ⟨rfl, hf9⟩
    refine ⟨_, rfl, ?_⟩
    refine nq (y_assign rfl) <| nend <| qsub (sub_cons (t := 2) rfl <| sub_cons (t := 24) rfl <| sub_cons (t := 4) rfl <| sub_cons (t := 5) rfl <| sub_nil) <| qthen <| cret <| ?_
    exact ret1 trivial rfl rfl ⟨rfl, (f07.trans0 hf8).trans0 hf9⟩
end Go.Proofs.Ytpcgpnijhpcbeaa
