/- The law DiskNames, computed. -/
import Derived.Test.YtflcokdkobhieaaLike1
set_option linter.unusedVariables false
set_option linter.unusedSimpArgs false
set_option maxRecDepth 20000
namespace Go.Proofs.Ytflcokdkobhieaa
open Go.Eng Go.Hx
def fillL (l : List UInt8) (q : Nat) : List UInt8 := (List.range q).map fun i => l.getD (i % l.length) 0
theorem fillL_len (l : List UInt8) (q : Nat) : (fillL l q).length = q := by simp [fillL]
theorem fillL_succ (l : List UInt8) (q : Nat) : fillL l (q + 1) = fillL l q ++ [l.getD (q % l.length) 0] := by simp [fillL, List.range_succ]
theorem fillC {A : Option Addr} {m0 c q : Nat} {l : List UInt8} (hm : 0 < m0) (hmm : m0 ≤ 1000000) (hq : q ≤ 1000000) : Con Try.prog 19 [.slice A m0 c, .int .i64 (q : Int)] [] [RRd 1 A m0 (b8s l)] (fun v_ X_ S_ => ∃ v, v_ = v ∧ X_ = [ROwn 5 1 v q (b8s (fillL l q))] ∧ S_ = []) := by
  refine henter (N := 29) Try.func19 rfl rfl (by simp) fun b => ?_
  refine hfactC (fun m => rdB (m.rd 0 rfl)) ?_
  rintro ⟨hl_r, hA_r⟩
  refine hseq <| hreg <| hy (fun _ => y_assign rfl) <| hend <| hthen <| hseq <| hreg <| hy (fun _ => y_assign rfl) <| hend <| hthen <| hseq <| hseq <| hreg <| hy (fun _ => y_assign rfl) <| hend <| hthen <| hblock <| ?_
  refine hmemC (fun w m => m.addX (r' := ROwn 5 1 (.slice none 0 0) 0 []) (.refl _ _) (Own.nil _ _ _ _) (fun k hk => hk.elim)) ?_
  refine hloop3 (fun i A1 c1 => q - i) (fun i A1 c1 => [(5, .slice A1 i c1), (6, .int .i64 (i : Nat))]) (fun i A1 c1 => [ROwn 5 1 (.slice A1 i c1) i (b8s (fillL l i))]) (fun i A1 c1 => []) (fun i A1 c1 => i ≤ q) 0 none 0 [(4, _), (0, _), (1, _)] ⟨rfl, rfl, rfl, trivial⟩ [0] rfl [] rfl (Nat.zero_le _) ⟨rfl, rfl, trivial⟩ (fun i A1 c1 hI => ?_)
  refine hseq <| hseq <| hreg <| hy (fun _ => y_move rfl) <| hy (fun _ => y_move rfl) <| hy (fun _ => y_lss rfl rfl) <| hend <| hsub (ρ' := [(9, _), (5, _), (6, _), (4, _), (0, _), (1, _)]) ⟨rfl, rfl, rfl, rfl, rfl, rfl, trivial⟩ <| hthen <| ?_
  refine hif rfl (fun h => ?_) (fun h => ?_)
  · have hmod : i % m0 < m0 := Nat.mod_lt _ hm
    refine hcskip <| hthen <| hseq <| hblock <| hseq <| hreg <| hy (fun _ => y_move rfl) <| hy (fun _ => y_lenS rfl Try.underlying44) <| hy (fun _ => y_gtr rfl rfl) <| hend <| hsub (ρ' := [(14, _), (9, _), (5, _), (6, _), (4, _), (0, _), (1, _)]) ⟨rfl, rfl, rfl, rfl, rfl, rfl, rfl, trivial⟩ <| hthen <| ?_
    refine hift rfl ((decide_eq_true (by omega))) ?_
    refine hreg <| hy (fun _ => y_move rfl) <| hy (fun _ => y_move rfl) <| hy (fun _ => y_move rfl) <| hy (fun _ => y_move rfl) <| hy (fun _ => y_lenS rfl Try.underlying44) <| hy (fun _ => y_rem rfl rfl (by omega) (by omega)) <| hy (fun _ => y_idxS1 rfl rfl Try.underlying44 sz5 hA_r (show ((i % m0 : Nat) : Int) = (i : Int) % (m0 : Int) from rfl) (by omega)) <| hy (fun m => y_ld1 rfl ag5 ((m.rd 0 rfl).cell (b8s_get (by omega)))) <| ?_
    refine hx (xh_bsl Try.underlying44 ti5 rfl rfl rfl (by simp [Value.cells, B8]) (by decide) (by decide) (fun g23 => ?_))
    have hA_b23 : 0 < 1 → (some (⟨g23, 0, none⟩ : Addr)) ≠ none := fun _ h => by cases h
    refine hmemL (fun w m => m.eqX 0 rfl (show _ = ROwn 5 1 (.slice (some ⟨g23, 0, none⟩) 1 1) 1 (b8s [l.getD (i % m0) 0]) from rfl)) ?_
    refine hx (xh_app 1 rfl rfl rfl Try.underlying44 Try.underlying44 (by exact .inl rfl) ti5 rfl (fun m => Src.of_rd (m.ord 0 rfl)) b8s_one (by unfold maxLen; omega) (by omega) (fun u => ?_))
    refine hfactL (fun m => (m.own 0 rfl).slice) ?_
    rintro ⟨A_o, c_o, rfl, hc_o⟩
    refine hfactL (fun m => (m.ord 0 rfl).2.1) fun hA_o => ?_
    refine hmemL (fun w m => m.eqX 0 rfl (show _ = ROwn 5 1 (.slice A_o (i + 1) c_o) (i + 1) (b8s (fillL l (i + 1))) from by rw [fillL_succ, hl_r, b8s_append])) ?_
    refine hy (fun _ => y_assign rfl) <| hend <| hsub (ρ' := [(5, _), (14, _), (9, _), (6, _), (4, _), (0, _), (1, _)]) ⟨rfl, rfl, rfl, rfl, rfl, rfl, rfl, trivial⟩ <| hmemQ (X' := [_, _]) (S' := [_]) (fun _ m => m) <| hqblock <| hthen <| hreg <| hy (fun _ => y_move rfl) <| hy (fun _ => y_add rfl rfl (w64 (by omega) (by omega))) <| hy (fun _ => y_assign rfl) <| hend <| hsub (ρ' := [(6, _), (5, _), (14, _), (9, _), (4, _), (0, _), (1, _)]) ⟨rfl, rfl, rfl, rfl, rfl, rfl, rfl, trivial⟩ <| ?_
    refine hnext3 (i + 1) A_o c_o ⟨rfl, rfl, rfl, rfl, rfl, trivial⟩ [0] rfl [0] rfl (by omega) (by omega)
  · obtain rfl : i = q := by omega
    refine hexit <| hthen_exit <| hthen_exit <| hqblock_exit <| hthen <| hseq <| hreg <| hy (fun _ => y_move rfl) <| hy (fun _ => y_assign rfl) <| hend <| hsub (ρ' := [(4, _), (9, _), (5, _), (6, _), (0, _), (1, _)]) ⟨rfl, rfl, rfl, rfl, rfl, rfl, trivial⟩ <| hthen <| hret <| ?_
    exact hret1 trivial rfl rfl [0] rfl [] rfl ⟨_, rfl, rfl, rfl⟩
theorem sameTextsC {A A1 : Option Addr} {n c c1 : Nat} {a : List (List UInt8)} (hl : a.length = n) (hn : n ≤ 1000000) : Con Try.prog 26 [.slice A n c, .slice A1 n c1] [] [RRd 1 A n (ss a), RRd 1 A1 n (ss a)] (fun v_ X_ S_ => v_ = (.bool true) ∧ X_ = [] ∧ S_ = []) := by
  refine henter (N := 26) Try.func26 rfl rfl (by simp) fun b => ?_
  refine hfactC (fun m => rdX (m.rd 0 rfl)) ?_
  rintro ⟨hl_r, hA_r⟩
  refine hfactC (fun m => rdX (m.rd 1 rfl)) ?_
  rintro ⟨hl_q, hA_q⟩
  refine hseq <| hreg <| hy (fun _ => y_assign rfl) <| hend <| hthen <| hseq <| hseq <| hreg <| hy (fun _ => y_move rfl) <| hy (fun _ => y_lenS rfl Try.underlying48) <| hy (fun _ => y_move rfl) <| hy (fun _ => y_lenS rfl Try.underlying48) <| hy (fun _ => y_neq rfl rfl) <| hend <| hsub (ρ' := [(10, _), (4, _), (0, _), (1, _)]) ⟨rfl, rfl, rfl, rfl, trivial⟩ <| hthen <| ?_
  refine hiff rfl ((decide_eq_false (not_not_intro rfl))) ?_
  refine hcskip <| hthen <| hseq <| hseq <| hreg <| hy (fun _ => y_assign rfl) <| hend <| hthen <| hblock <| ?_
  refine hloop1 (fun i => n - i) (fun i => [(5, .int .i64 (i : Nat))]) (fun i => []) (fun i => []) (fun i => i ≤ n) 0 [(10, _), (0, _), (1, _)] ⟨rfl, rfl, rfl, trivial⟩ [] rfl [] rfl (Nat.zero_le _) ⟨rfl, trivial⟩ (fun i hI => ?_)
  refine hseq <| hseq <| hreg <| hy (fun _ => y_move rfl) <| hy (fun _ => y_move rfl) <| hy (fun _ => y_lenS rfl Try.underlying48) <| hy (fun _ => y_lss rfl rfl) <| hend <| hsub (ρ' := [(14, _), (5, _), (10, _), (0, _), (1, _)]) ⟨rfl, rfl, rfl, rfl, rfl, trivial⟩ <| hthen <| ?_
  refine hif rfl (fun h => ?_) (fun h => ?_)
  · have hil : i < a.length := by omega
    refine hcskip <| hthen <| hseq <| hblock <| hseq <| hdrw [] [(0, some 0), (1, some 0), (2, some 0), (3, some 0), (4, some 0), (5, some 0), (6, some 0), (7, some 0), (8, some 0)] (by kernel_rfl) (by kernel_rfl) rfl 99 <| htyU (y_move rfl) <| htyU (y_move rfl) <| htyU (y_idxS1 rfl rfl Try.underlying48 sz9 hA_r rfl (by omega)) <| hty (fun m => yV (y_ld1 rfl ag9 ((m.rd 0 rfl).cell (ss_get hil))) ((rfl : _ = Value.string (strOf (a.getD i []))))) <| htyU (y_move rfl) <| htyU (y_move rfl) <| htyU (y_idxS1 rfl rfl Try.underlying48 sz9 hA_q rfl (by omega)) <| hty (fun m => yV (y_ld1 rfl ag9 ((m.rd 1 rfl).cell (ss_get hil))) ((rfl : _ = Value.string (strOf (a.getD i []))))) <| htyU (y_sne rfl rfl) <| htend <| hsub (ρ' := [(25, _), (14, _), (5, _), (10, _), (0, _), (1, _)]) ⟨rfl, rfl, rfl, rfl, rfl, rfl, trivial⟩ <| hthen <| ?_
    refine hiff rfl ((decide_eq_false (not_not_intro rfl))) ?_
    refine hcskip <| hqblock <| hthen <| hreg <| hy (fun _ => y_move rfl) <| hy (fun _ => y_add rfl rfl (w64 (by omega) (by omega))) <| hy (fun _ => y_assign rfl) <| hend <| hsub (ρ' := [(5, _), (25, _), (14, _), (10, _), (0, _), (1, _)]) ⟨rfl, rfl, rfl, rfl, rfl, rfl, trivial⟩ <| ?_
    refine hnext1 (i + 1) ⟨rfl, rfl, rfl, rfl, trivial⟩ [] rfl [0, 1] rfl (by omega) (by omega)
  · refine hexit <| hthen_exit <| hthen_exit <| hqblock_exit <| hthen <| hseq <| hreg <| hy (fun _ => y_assign rfl) <| hend <| hthen <| hret <| ?_
    exact hret1 trivial rfl rfl [] rfl [] rfl ⟨rfl, rfl, rfl⟩
theorem FSim.names2 {fs : Files} {l : List FP} (h : FSim fs l) {p : List UInt8} {ks : List (List UInt8)} (hk : ks.Perm ((akeys fs).filter (pre p))) : srt ks = (l.map (·.1)).filter (pre p) := by
  have h1 : (srt ks).Perm ((l.map (·.1)).filter (pre p)) := (List.mergeSort_perm _ _).trans (hk.trans (h.keys.filter _))
  have h2 : (srt ks).Pairwise (· ≤ ·) := by
    have := List.pairwise_mergeSort (le := fun x y : List UInt8 => decide (x ≤ y)) (fun a b c hab hbc => by simpa using List.le_trans (by simpa using hab) (by simpa using hbc)) (fun a b => by simpa using List.le_total a b) ks
    exact this.imp (fun hab => by simpa using hab)
  have h3 : ((l.map (·.1)).filter (pre p)).Pairwise (· ≤ ·) := List.Pairwise.sublist List.filter_sublist (h.ord.imp (fun hlt => List.le_of_lt hlt))
  exact h1.eq_of_pairwise (fun a b _ _ hab hba => List.le_antisymm hab hba) h2 h3
def d0 : RD := ⟨100, [], [], [], -1⟩
theorem dsim0 (gs gl : Nat) : DSim (dinit 100 gs gl) d0 := ⟨rfl, rfl, FSim.nil, rfl⟩
theorem DSim.rok {st : DSt} {d : RD} {k : Nat} (h : DSim st d) (ok : DOk st k) (h1 : -10 ≤ d.pw) : ROk d k := by
  have e1 := h.files.len1
  have e2 := h.files.tot
  have e3 := ok.tot
  have e4 := ok.rest
  have e5 := h.waits
  have e6 := ok.seen
  have e7 := h.power
  have e8 := ok.power
  exact ⟨by omega, by omega, by omega, h1, by omega⟩
theorem lessP_ge {p : Int} (h : -10 ≤ p) : -10 ≤ lessP p := by unfold lessP; split <;> omega
theorem write_pw {d : RD} {p bb : List UInt8} (h : -10 ≤ d.pw) : -10 ≤ (d.write p bb).pw := by
  unfold RD.write
  split
  · exact lessP_ge h
  · exact h
theorem diskNamesC {s pf : List UInt8} {z : Int} {y : UInt8} (hz : -9223372036854775808 ≤ z ∧ z ≤ 9223372036854775807) : Con Try.prog 4 [.string (strOf s), .int .i64 z, B8 y, .string (strOf pf)] [] [] (fun v_ X_ S_ => v_ = (.bool true) ∧ X_ = [] ∧ S_ = []) := by
  obtain ⟨K, hK, hK11⟩ : ∃ K : Nat, around z 11 = (K : Int) ∧ K < 11 := by
    have := around_lt z 11 (by decide)
    exact ⟨(around z 11).toNat, by omega, by omega⟩
  refine henter (N := 123) Try.func4 rfl rfl (by simp) fun b => ?_
  refine hseq <| hreg <| hy (fun _ => y_assign rfl) <| hend <| hthen <| hseq <| hreg <| ?_
  refine hx (xh_bsl Try.underlying44 ti5 rfl rfl rfl (by simp [Value.cells, B8]) (by decide) (by decide) (fun g20 => ?_))
  have hA_b20 : 0 < 1 → (some (⟨g20, 0, none⟩ : Addr)) ≠ none := fun _ h => by cases h
  refine hmemL (fun w m => m.eqX 0 rfl (show _ = ROwn 5 1 (.slice (some ⟨g20, 0, none⟩) 1 1) 1 (b8s [120]) from rfl)) ?_
  refine hx (xh_cvS 0 rfl rfl Try.underlying44 Try.underlying5 ?_)
  refine hy (fun _ => y_move rfl) <| ?_
  refine hx (xh_call rfl Try.call20 (aroundC (by omega) (by omega) (by omega)) [] rfl [] rfl ?_)
  rintro _ _ _ ⟨rfl, rfl, rfl⟩
  rw [hK]
  refine hy (fun _ => yV (y_add rfl rfl (w64 (by omega) (by omega))) ((show Value.int .i64 (90 + (K : Int)) = .int .i64 ((90 + K : Nat) : Int) by congr 1))) <| ?_
  refine hx (xh_calll rfl Try.call19 (fillC (by omega) (by omega) (by omega) (l := [120]) (q := (90 + K))) [] rfl (.x 0 rfl .own .nil) ?_)
  rintro _ _ _ ⟨v, rfl, rfl, rfl⟩
  refine ⟨rfl, ?_⟩
  refine hfactL (fun m => (m.own 0 rfl).slice) ?_
  rintro ⟨A_x, c_x, rfl, hc_x⟩
  refine hfactL (fun m => (m.ord 0 rfl).2.1) fun hA_x => ?_
  refine hy (fun _ => y_assign rfl) <| hend <| hsub (ρ' := [(9, _), (8, _), (0, _), (1, _), (2, _), (3, _)]) ⟨rfl, rfl, rfl, rfl, rfl, rfl, trivial⟩ <| hmemQ (X' := [_, _]) (S' := []) (fun _ m => m) <| hthen <| hseq <| hreg <| hy (fun _ => y_move rfl) <| hy (fun _ => y_move rfl) <| hy (fun _ => y_idxS1 rfl rfl Try.underlying44 sz5 hA_x (show ((5 : Nat) : Int) = 5 from rfl) (by omega)) <| ?_
  refine hx0 (xh_stO 0 rfl rfl rfl sz5 rfl (by omega) ?_)
  have hll : ((fillL [120] (90 + K)).set 5 y).length = 90 + K := by rw [List.length_set, fillL_len]
  refine hmemL (fun w m => m.eqX 0 rfl (show _ = ROwn 5 1 (.slice A_x (90 + K) c_x) (90 + K) (b8s ((fillL [120] (90 + K)).set 5 y)) from congrArg (ROwn _ _ _ _) (b8s_set ..).symm)) ?_
  generalize (fillL [120] (90 + K)).set 5 y = long at hll ⊢
  refine hend <| hsub (ρ' := [(9, _), (8, _), (0, _), (1, _), (2, _), (3, _)]) ⟨rfl, rfl, rfl, rfl, rfl, rfl, trivial⟩ <| hmemQ (X' := [_, _]) (S' := []) (fun _ m => m) <| hthen <| hseq <| hdrw [1, 4] [(0, some 0), (2, some 1), (3, some 1), (1, none), (4, none), (5, some 2)] (by kernel_rfl) (by kernel_rfl) rfl 99 <| htyU (y_move rfl) <| htyU (y_move rfl) <| hty (fun m => y_b2s rfl Try.underlying44 Try.underlying5 Try.underlying9 (m.ord 0 rfl)) <| ?_
  refine htx (xh_call rfl Try.call21 (shortC (m := 120)) [] rfl [] rfl ?_)
  rintro _ _ _ ⟨rfl, rfl, rfl⟩
  refine ⟨(fun _ => wk [0, 0] [] rfl rfl), ?_⟩
  refine htx (xh_bsl Try.underlying48 ti9 rfl rfl rfl (by simp [Value.cells, B8]) (by decide) (by decide) (fun g33 => ⟨(fun _ => wk [1, 1] [] rfl rfl), ?_⟩))
  have hA_b33 : 0 < 4 → (some (⟨g33, 0, none⟩ : Addr)) ≠ none := fun _ h => by cases h
  refine htyU (y_assign rfl) <| htend <| hsub (ρ' := [(10, _), (9, _), (8, _), (0, _), (1, _), (2, _), (3, _)]) ⟨rfl, rfl, rfl, rfl, rfl, rfl, rfl, trivial⟩ <| hmemQ (X' := [_, _, _]) (S' := []) (fun _ m => m) <| hthen <| hseq <| hreg <| ?_
  refine hx (xh_call rfl Try.call22 (newC (by omega) (by omega)) [] rfl [] rfl ?_)
  rintro _ _ _ ⟨g, gs, gl, rfl, rfl, rfl⟩
  refine hy (fun _ => y_move rfl) <| hy (fun _ => y_extract rfl rfl) <| hy (fun _ => y_extract rfl rfl) <| hy (fun _ => y_assign rfl) <| hy (fun _ => y_assign rfl) <| hend <| hsub (ρ' := [(12, _), (11, _), (10, _), (9, _), (8, _), (0, _), (1, _), (2, _), (3, _)]) ⟨rfl, rfl, rfl, rfl, rfl, rfl, rfl, rfl, rfl, trivial⟩ <| hmemQ (X' := [_, _, _, _]) (S' := []) (fun _ m => m) <| hthen <| hseq <| hseq <| hreg <| hy (fun _ => y_move rfl) <| hy (fun _ => y_eqPn rfl rfl (by kernel_rfl)) <| hy (fun _ => y_move rfl) <| ?_
  refine hmemL (fun w m => m.eqX 1 rfl (show _ = ROwn 9 1 (.slice (some ⟨g33, 0, none⟩) 4 4) 4 (ss [s.take 120, long, [120, 0], []]) from rfl)) ?_
  have hal : ∀ x ∈ [s.take 120, long, [120, 0], []], x.length ≤ 120 := by
    intro x hx
    simp only [List.mem_cons, List.not_mem_nil, or_false] at hx
    rcases hx with rfl | rfl | rfl | rfl
    · rw [List.length_take]; omega
    · omega
    · decide
    · decide
  have hal4 : [s.take 120, long, [120, 0], []].length = 4 := rfl
  generalize [s.take 120, long, [120, 0], []] = all at hal hal4 ⊢
  refine hyg (o := _) rfl rfl rfl (fun _ => y_move rfl) <| hyg (o := _) rfl rfl rfl (fun _ => y_neq rfl rfl) <| hy (fun _ => y_pickF rfl rfl) <| hend <| hsub (ρ' := [(43, _), (12, _), (11, _), (10, _), (9, _), (8, _), (0, _), (1, _), (2, _), (3, _)]) ⟨rfl, rfl, rfl, rfl, rfl, rfl, rfl, rfl, rfl, rfl, trivial⟩ <| hthen <| ?_
  refine hiff rfl ((by decide)) ?_
  refine hcskip <| hthen <| hseq <| hreg <| ?_
  refine hx (xh_call rfl Try.call23 (rnewC) [] rfl [] rfl ?_)
  rintro _ _ _ ⟨rfl, rfl, rfl⟩
  refine hx (xh_alloc ti54 (fun g13 => ?_))
  refine hx0 (xh_stA 0 rfl rfl rfl sz54 rfl dv_one rfl ?_)
  refine hmemL (fun w m => m.eqX 0 rfl (show _ = RBlk g13 54 (rv d0 none 0 0 none 0 0 none 0 0) from rfl)) ?_
  refine hmemL (fun w m => m.addS (r' := RRd 2 none 0 []) (.refl _ _) (Rd.nil _ _ _) (fun k hk => absurd rfl hk.1)) ?_
  have hA_r : 0 < 0 → (none : Option Addr) ≠ none := fun h => absurd h (by decide)
  refine hmemL (fun w m => m.addS (r' := RRd 4 none 0 []) (.refl _ _) (Rd.nil _ _ _) (fun k hk => absurd rfl hk.1)) ?_
  have hA_w : 0 < 0 → (none : Option Addr) ≠ none := fun h => absurd h (by decide)
  refine hend <| hsub (ρ' := [(13, _), (43, _), (12, _), (11, _), (10, _), (9, _), (8, _), (0, _), (1, _), (2, _), (3, _)]) ⟨rfl, rfl, rfl, rfl, rfl, rfl, rfl, rfl, rfl, rfl, rfl, trivial⟩ <| hmemQ (X' := [_, _, _, _, _]) (S' := [_, _]) (fun _ m => m) <| hthen <| hseq <| hseq <| hreg <| hy (fun _ => y_assign rfl) <| hend <| hthen <| hblock <| ?_
  refine hloop7 (fun i st dd A c A3 c3 => 4 - i) (fun i st dd A c A3 c3 => [(14, .int .i64 (i : Nat))]) (fun i st dd A c A3 c3 => [RDisk g st, RBlk g13 54 (rv dd A dd.seen.length c none 0 0 A3 dd.waits.length c3), ROwn 9 1 (.slice (some ⟨g33, 0, none⟩) 4 4) 4 (ss all)]) (fun i st dd A c A3 c3 => [RRd 2 A dd.seen.length (fc dd.seen), RRd 4 A3 dd.waits.length (wcs dd.waits)]) (fun i st dd A c A3 c3 => i ≤ 4 ∧ DSim st dd ∧ DOk st i ∧ -10 ≤ dd.pw) 0 (dinit 100 gs gl) d0 none 0 none 0 [(13, _), (43, _), (12, _), (11, _), (10, _), (9, _), (0, _), (1, _), (2, _), (3, _)] ⟨rfl, rfl, rfl, rfl, rfl, rfl, rfl, rfl, rfl, rfl, trivial⟩ [2, 0, 0] rfl [1, 0] rfl (⟨Nat.zero_le _, dsim0 gs gl, DOk.init (by decide), (by decide)⟩) ⟨rfl, trivial⟩ (fun i st dd A c A3 c3 ⟨hi4, hS, ok, hpw⟩ => ?_)
  have okr := hS.rok ok hpw
  refine hseq <| hseq <| hreg <| hy (fun _ => y_move rfl) <| hy (fun _ => y_lss rfl rfl) <| hend <| hsub (ρ' := [(46, _), (14, _), (13, _), (43, _), (12, _), (11, _), (10, _), (9, _), (0, _), (1, _), (2, _), (3, _)]) ⟨rfl, rfl, rfl, rfl, rfl, rfl, rfl, rfl, rfl, rfl, rfl, rfl, trivial⟩ <| hthen <| ?_
  refine hif rfl (fun hlt => ?_) (fun hlt => ?_)
  · have e49 : ([49] : List UInt8).length = 1 := rfl
    have hil : i < all.length := by omega
    have hxl := hal (all.getD i []) (by rw [List.getD, List.getElem?_eq_getElem hil]; exact List.getElem_mem hil)
    obtain ⟨nm, hnm⟩ : ∃ nm, nm = all.getD i [] := ⟨_, rfl⟩
    rw [← hnm] at hxl
    have hget : (ss all)[i]? = some (SV nm) := by rw [hnm]; exact ss_get hil
    refine hcskip <| hthen <| hseq <| hblock <| hseq <| hdrwP [5, 9, 10] (.take 0 2 <| .take 1 2 <| .take 2 2 <| .take 3 2 <| .take 4 2 <| .alt 5 (.take 6 2 <| .take 7 2 <| .take 8 3 <| .alt 9 (.alt 10 (.take 11 3 <| .done) (.stop)) (.stop)) (.alt 9 (.alt 5 (.take 6 2 <| .take 7 2 <| .take 8 3 <| .alt 10 (.take 11 3 <| .done) (.stop)) (.stop)) (.stop))) (by kernel_rfl) (by kernel_rfl) rfl 2 <| hpy (fun m => yV (y_ldN rfl ag54 sz54 rfl ((m.blk 1 rfl).cells0)) ((rfl : _ = Value.agg (rv dd A dd.seen.length c none 0 0 A3 dd.waits.length c3).toArray))) <| hpyU (y_move rfl) <| hpyU (y_move rfl) <| hpyU (y_idxS1 rfl rfl Try.underlying48 sz9 hA_b33 rfl (by omega)) <| hpy (fun m => yV (y_ld1 rfl ag9 ((m.ord 2 rfl).cell hget)) ((rfl : _ = Value.string (strOf nm)))) <| ?_
    refine hpfork ?_ ?_
    · refine hpx (xh_call rfl Try.call24 (rwriteC (by omega) (by omega) okr (by omega) (by omega) (by omega) (d := dd) (bb := [49])) [] rfl [0, 1] rfl ?_)
      rintro _ _ _ ⟨A1, n1, c1, A2, n2, c2, rfl, rfl, rfl, hp⟩
      refine ⟨(fun _ => wk [0, 0, 0, 0, 0] [2, 3, 4, 5] rfl rfl), ?_⟩
      refine hpfact (fun m => rdX (m.rd 0 rfl)) ?_
      rintro ⟨hl_q, hA_q⟩
      refine hpfact (fun m => rdX (m.rd 1 rfl)) ?_
      rintro ⟨hl_u, hA_u⟩
      refine hpyU (y_move rfl) <| hpyU (y_extract rfl rfl) <| hpyU (y_extract rfl rfl) <| ?_
      refine hpx (xh_alloc ti54 (fun g15 => ⟨(fun _ => wk [1, 1, 1, 1, 1] [2, 3, 4, 5] rfl rfl), ?_⟩))
      obtain ⟨rfl, rfl⟩ := hp
      refine hpx0 (xh_stA 0 rfl rfl rfl sz54 rfl dv_one rfl ⟨(fun h => absurd h (by decide)), ?_⟩)
      refine hpmem (fun w m => m.eqX 0 rfl (show _ = RBlk g15 54 (rv (dd.write nm [49]) A1 (dd.write nm [49]).seen.length c1 none 0 0 A2 (dd.write nm [49]).waits.length c2) from rfl)) ?_
      refine hpyU (y_assign rfl) <| hpend <| hsub (ρ' := [(16, _), (15, _), (46, _), (14, _), (13, _), (43, _), (12, _), (11, _), (10, _), (9, _), (0, _), (1, _), (2, _), (3, _)]) ⟨rfl, rfl, rfl, rfl, rfl, rfl, rfl, rfl, rfl, rfl, rfl, rfl, rfl, rfl, trivial⟩ <| hmemQ (X' := [_, _, _, _, _, _]) (S' := [_, _, _, _, _, _]) (fun _ m => m) <| hthen <| hseq <| hreg <| hy (fun m => yV (y_ldN rfl ag54 sz54 rfl ((m.blk 0 rfl).cells0)) ((rfl : _ = Value.agg (rv (dd.write nm [49]) A1 (dd.write nm [49]).seen.length c1 none 0 0 A2 (dd.write nm [49]).waits.length c2).toArray))) <| ?_
      refine hx0 (xh_stA 2 rfl rfl rfl sz54 rfl dv_one rfl ?_)
      refine hmemL (fun w m => m.eqX 0 rfl (show _ = RBlk g13 54 (rv (dd.write nm [49]) A1 (dd.write nm [49]).seen.length c1 none 0 0 A2 (dd.write nm [49]).waits.length c2) from rfl)) ?_
      refine hend <| hsub (ρ' := [(16, _), (15, _), (46, _), (14, _), (13, _), (43, _), (12, _), (11, _), (10, _), (9, _), (0, _), (1, _), (2, _), (3, _)]) ⟨rfl, rfl, rfl, rfl, rfl, rfl, rfl, rfl, rfl, rfl, rfl, rfl, rfl, rfl, trivial⟩ <| hmemQ (X' := [_, _, _, _, _, _]) (S' := [_, _, _, _, _, _]) (fun _ m => m) <| hthen <| hseq <| hreg <| hy (fun _ => y_move rfl) <| hy (fun _ => y_move rfl) <| hy (fun _ => y_move rfl) <| hy (fun _ => y_idxS1 rfl rfl Try.underlying48 sz9 hA_b33 rfl (by omega)) <| hy (fun m => yV (y_ld1 rfl ag9 ((m.ord 3 rfl).cell hget)) ((rfl : _ = Value.string (strOf nm)))) <| ?_
      refine hx (xh_bsl Try.underlying44 ti5 rfl rfl rfl (by simp [Value.cells, B8]) (by decide) (by decide) (fun g64 => ?_))
      have hA_b64 : 0 < 1 → (some (⟨g64, 0, none⟩ : Addr)) ≠ none := fun _ h => by cases h
      refine hmemL (fun w m => m.eqX 0 rfl (show _ = ROwn 5 1 (.slice (some ⟨g64, 0, none⟩) 1 1) 1 (b8s [49]) from rfl)) ?_
      have hWE := hS.writeE nm [49]
      refine hx (xh_cvS 0 rfl rfl Try.underlying44 Try.underlying5 ?_)
      refine hx (xh_calll rfl Try.call25 (writeC ok (by omega) (by omega) (l := [49])) [3] rfl (.x 0 rfl .own .nil) ?_)
      rintro _ _ _ ⟨st1, B, c12, A12, c22, rfl, rfl, rfl, hp2⟩
      refine ⟨rfl, ?_⟩
      refine hy (fun _ => y_move rfl) <| hy (fun _ => y_neq rfl rfl) <| hend <| hsub (ρ' := [(68, _), (16, _), (15, _), (46, _), (14, _), (13, _), (43, _), (12, _), (11, _), (10, _), (9, _), (0, _), (1, _), (2, _), (3, _)]) ⟨rfl, rfl, rfl, rfl, rfl, rfl, rfl, rfl, rfl, rfl, rfl, rfl, rfl, rfl, rfl, trivial⟩ <| hmemQ (X' := [_, _, _, _, _, _, _]) (S' := [_, _, _, _, _, _]) (fun _ m => m) <| hthen <| ?_
      refine hiff rfl ((decide_eq_false (not_not_intro hWE))) ?_
      have hstep : DSim st1 (dd.write nm [49]) ∧ DOk st1 (i + 1) := by
        rcases hp2 with h | h
        · rw [RD.write, if_neg (by rw [← hWE]; exact h.1), h.2]
          exact ⟨hS, ok.le (by omega)⟩
        · rw [RD.write, if_pos (by rw [← hWE]; exact h.1), h.2]
          exact ⟨hS.wrote rfl, ok.wrote (show 1 ≤ 1048576 by decide) _ _⟩
      refine hcskip <| hqblock <| hthen <| hreg <| hy (fun _ => y_move rfl) <| hy (fun _ => y_add rfl rfl (w64 (by omega) (by omega))) <| hy (fun _ => y_assign rfl) <| hend <| hsub (ρ' := [(14, _), (68, _), (16, _), (15, _), (46, _), (13, _), (43, _), (12, _), (11, _), (10, _), (9, _), (0, _), (1, _), (2, _), (3, _)]) ⟨rfl, rfl, rfl, rfl, rfl, rfl, rfl, rfl, rfl, rfl, rfl, rfl, rfl, rfl, rfl, trivial⟩ <| ?_
      refine hnext7 (i + 1) st1 (dd.write nm [49]) A1 c1 A2 c2 ⟨rfl, rfl, rfl, rfl, rfl, rfl, rfl, rfl, rfl, rfl, rfl, trivial⟩ [0, 1, 2, 2, 2] rfl [0, 1, 4, 5] rfl (⟨by omega, hstep.1, hstep.2, write_pw hpw⟩) (by omega)
    · refine hpx (xh_alloc ti54 (fun g15 => ⟨(fun _ => wk [1, 1, 1, 1, 1] [0, 1, 2, 3] rfl rfl), ?_⟩))
      refine hpx (xh_call rfl Try.call24 (rwriteC (by omega) (by omega) okr (by omega) (by omega) (by omega) (d := dd) (bb := [49])) [] rfl [0, 1] rfl ?_)
      rintro _ _ _ ⟨A1, n1, c1, A2, n2, c2, rfl, rfl, rfl, hp⟩
      refine ⟨(fun _ => wk [1, 1, 1, 1, 1] [2, 3, 4, 5] rfl rfl), ?_⟩
      refine hpfact (fun m => rdX (m.rd 0 rfl)) ?_
      rintro ⟨hl_q, hA_q⟩
      refine hpfact (fun m => rdX (m.rd 1 rfl)) ?_
      rintro ⟨hl_u, hA_u⟩
      refine hpyU (y_move rfl) <| hpyU (y_extract rfl rfl) <| hpyU (y_extract rfl rfl) <| ?_
      obtain ⟨rfl, rfl⟩ := hp
      refine hpx0 (xh_stA 0 rfl rfl rfl sz54 rfl dv_one rfl ⟨(fun h => absurd h (by decide)), ?_⟩)
      refine hpmem (fun w m => m.eqX 0 rfl (show _ = RBlk g15 54 (rv (dd.write nm [49]) A1 (dd.write nm [49]).seen.length c1 none 0 0 A2 (dd.write nm [49]).waits.length c2) from rfl)) ?_
      refine hpyU (y_assign rfl) <| hpend <| hsub (ρ' := [(16, _), (15, _), (46, _), (14, _), (13, _), (43, _), (12, _), (11, _), (10, _), (9, _), (0, _), (1, _), (2, _), (3, _)]) ⟨rfl, rfl, rfl, rfl, rfl, rfl, rfl, rfl, rfl, rfl, rfl, rfl, rfl, rfl, trivial⟩ <| hmemQ (X' := [_, _, _, _, _, _]) (S' := [_, _, _, _, _, _]) (fun _ m => m) <| hthen <| hseq <| hreg <| hy (fun m => yV (y_ldN rfl ag54 sz54 rfl ((m.blk 0 rfl).cells0)) ((rfl : _ = Value.agg (rv (dd.write nm [49]) A1 (dd.write nm [49]).seen.length c1 none 0 0 A2 (dd.write nm [49]).waits.length c2).toArray))) <| ?_
      refine hx0 (xh_stA 2 rfl rfl rfl sz54 rfl dv_one rfl ?_)
      refine hmemL (fun w m => m.eqX 0 rfl (show _ = RBlk g13 54 (rv (dd.write nm [49]) A1 (dd.write nm [49]).seen.length c1 none 0 0 A2 (dd.write nm [49]).waits.length c2) from rfl)) ?_
      refine hend <| hsub (ρ' := [(16, _), (15, _), (46, _), (14, _), (13, _), (43, _), (12, _), (11, _), (10, _), (9, _), (0, _), (1, _), (2, _), (3, _)]) ⟨rfl, rfl, rfl, rfl, rfl, rfl, rfl, rfl, rfl, rfl, rfl, rfl, rfl, rfl, trivial⟩ <| hmemQ (X' := [_, _, _, _, _, _]) (S' := [_, _, _, _, _, _]) (fun _ m => m) <| hthen <| hseq <| hreg <| hy (fun _ => y_move rfl) <| hy (fun _ => y_move rfl) <| hy (fun _ => y_move rfl) <| hy (fun _ => y_idxS1 rfl rfl Try.underlying48 sz9 hA_b33 rfl (by omega)) <| hy (fun m => yV (y_ld1 rfl ag9 ((m.ord 3 rfl).cell hget)) ((rfl : _ = Value.string (strOf nm)))) <| ?_
      refine hx (xh_bsl Try.underlying44 ti5 rfl rfl rfl (by simp [Value.cells, B8]) (by decide) (by decide) (fun g64 => ?_))
      have hA_b64 : 0 < 1 → (some (⟨g64, 0, none⟩ : Addr)) ≠ none := fun _ h => by cases h
      refine hmemL (fun w m => m.eqX 0 rfl (show _ = ROwn 5 1 (.slice (some ⟨g64, 0, none⟩) 1 1) 1 (b8s [49]) from rfl)) ?_
      have hWE := hS.writeE nm [49]
      refine hx (xh_cvS 0 rfl rfl Try.underlying44 Try.underlying5 ?_)
      refine hx (xh_calll rfl Try.call25 (writeC ok (by omega) (by omega) (l := [49])) [3] rfl (.x 0 rfl .own .nil) ?_)
      rintro _ _ _ ⟨st1, B, c12, A12, c22, rfl, rfl, rfl, hp2⟩
      refine ⟨rfl, ?_⟩
      refine hy (fun _ => y_move rfl) <| hy (fun _ => y_neq rfl rfl) <| hend <| hsub (ρ' := [(68, _), (16, _), (15, _), (46, _), (14, _), (13, _), (43, _), (12, _), (11, _), (10, _), (9, _), (0, _), (1, _), (2, _), (3, _)]) ⟨rfl, rfl, rfl, rfl, rfl, rfl, rfl, rfl, rfl, rfl, rfl, rfl, rfl, rfl, rfl, trivial⟩ <| hmemQ (X' := [_, _, _, _, _, _, _]) (S' := [_, _, _, _, _, _]) (fun _ m => m) <| hthen <| ?_
      refine hiff rfl ((decide_eq_false (not_not_intro hWE))) ?_
      have hstep : DSim st1 (dd.write nm [49]) ∧ DOk st1 (i + 1) := by
        rcases hp2 with h | h
        · rw [RD.write, if_neg (by rw [← hWE]; exact h.1), h.2]
          exact ⟨hS, ok.le (by omega)⟩
        · rw [RD.write, if_pos (by rw [← hWE]; exact h.1), h.2]
          exact ⟨hS.wrote rfl, ok.wrote (show 1 ≤ 1048576 by decide) _ _⟩
      refine hcskip <| hqblock <| hthen <| hreg <| hy (fun _ => y_move rfl) <| hy (fun _ => y_add rfl rfl (w64 (by omega) (by omega))) <| hy (fun _ => y_assign rfl) <| hend <| hsub (ρ' := [(14, _), (68, _), (16, _), (15, _), (46, _), (13, _), (43, _), (12, _), (11, _), (10, _), (9, _), (0, _), (1, _), (2, _), (3, _)]) ⟨rfl, rfl, rfl, rfl, rfl, rfl, rfl, rfl, rfl, rfl, rfl, rfl, rfl, rfl, rfl, trivial⟩ <| ?_
      refine hnext7 (i + 1) st1 (dd.write nm [49]) A1 c1 A2 c2 ⟨rfl, rfl, rfl, rfl, rfl, rfl, rfl, rfl, rfl, rfl, rfl, trivial⟩ [0, 1, 2, 2, 2] rfl [0, 1, 4, 5] rfl (⟨by omega, hstep.1, hstep.2, write_pw hpw⟩) (by omega)
  · have okr := hS.rok ok hpw
    have hn4 : dd.seen.length ≤ 4 := by have := okr.seen; omega
    have hsp := strOf_size (pf.take 5)
    refine hexit <| hthen_exit <| hthen_exit <| hqblock_exit <| hthen <| hseq <| hreg <| hy (fun _ => y_move rfl) <| ?_
    refine hx (xh_call rfl Try.call21 (shortC (m := 5)) [] rfl [] rfl ?_)
    rintro _ _ _ ⟨rfl, rfl, rfl⟩
    refine hy (fun _ => y_assign rfl) <| hend <| hsub (ρ' := [(17, _), (46, _), (14, _), (13, _), (43, _), (12, _), (11, _), (10, _), (9, _), (0, _), (1, _), (2, _), (3, _)]) ⟨rfl, rfl, rfl, rfl, rfl, rfl, rfl, rfl, rfl, rfl, rfl, rfl, rfl, trivial⟩ <| hmemQ (X' := [_, _, _, _, _]) (S' := [_, _, _, _]) (fun _ m => m) <| hthen <| hseq <| hreg <| hy (fun _ => y_assign rfl) <| hend <| hthen <| hseq <| hseq <| hreg <| hy (fun _ => y_assign rfl) <| hend <| hthen <| hblock <| ?_
    generalize pf.take 5 = p at hsp ⊢
    refine hmemC (fun w m => m.addX (r' := ROwn 9 1 (.slice none 0 0) 0 []) (.refl _ _) (Own.nil _ _ _ _) (fun k hk => hk.elim)) ?_
    refine hloop4 (fun j A1 k c1 => dd.seen.length - j) (fun j A1 k c1 => [(18, .slice A1 k c1), (19, .int .i64 (j : Nat))]) (fun j A1 k c1 => [ROwn 9 1 (.slice A1 k c1) k (ss (((dd.seen.take j).map (·.1)).filter (pre p))), RBlk g13 54 (rv dd A dd.seen.length c none 0 0 A3 dd.waits.length c3)]) (fun j A1 k c1 => [RRd 2 A dd.seen.length (fc dd.seen)]) (fun j A1 k c1 => j ≤ dd.seen.length ∧ k = (((dd.seen.take j).map (·.1)).filter (pre p)).length ∧ k ≤ j) 0 none 0 0 [(17, _), (46, _), (14, _), (13, _), (43, _), (12, _), (11, _), (10, _), (9, _), (0, _), (1, _), (2, _), (3, _)] ⟨rfl, rfl, rfl, rfl, rfl, rfl, rfl, rfl, rfl, rfl, rfl, rfl, rfl, trivial⟩ [0, 1] rfl [0] rfl (⟨Nat.zero_le _, rfl, Nat.le_refl _⟩) ⟨rfl, rfl, trivial⟩ (fun j A1 k c1 ⟨hjn, hk, hkj⟩ => ?_)
    refine hseq <| hseq <| hreg <| hy (fun _ => y_move rfl) <| hy (fun _ => y_fld rfl fa54_1 (by decide)) <| hy (fun m => y_ld1 rfl ag51 (ld_blk (m.blk 1 rfl) rfl)) <| hy (fun _ => y_lenS rfl Try.underlying51) <| hy (fun _ => y_lss rfl rfl) <| hend <| hsub (ρ' := [(75, _), (18, _), (19, _), (17, _), (46, _), (14, _), (13, _), (43, _), (12, _), (11, _), (10, _), (9, _), (0, _), (1, _), (2, _), (3, _)]) ⟨rfl, rfl, rfl, rfl, rfl, rfl, rfl, rfl, rfl, rfl, rfl, rfl, rfl, rfl, rfl, rfl, trivial⟩ <| hthen <| ?_
    refine hif rfl (fun hj => ?_) (fun hj => ?_)
    · have hjl : j < dd.seen.length := by omega
      obtain ⟨x0, hgx⟩ : ∃ x0, dd.seen[j]? = some x0 := ⟨_, List.getElem?_eq_getElem hjl⟩
      obtain ⟨f0, f1⟩ := fc_get dd.seen j x0 hgx
      have hs0 := strOf_size x0.1
      have hts : ((dd.seen.take (j + 1)).map (·.1)).filter (pre p) = ((dd.seen.take j).map (·.1)).filter (pre p) ++ [x0.1].filter (pre p) := by
        obtain ⟨hi, rfl⟩ := List.getElem?_eq_some_iff.1 hgx
        rw [List.take_succ_eq_append_getElem hi, List.map_append, List.filter_append]; rfl
      refine hfactC (fun m => (rdX (m.rd 0 rfl)).2) fun hA_r => ?_
      by_cases hlen : p.length ≤ x0.1.length
      · refine hcskip <| hthen <| hseq <| hblock <| hseq <| hreg <| hy (fun _ => y_fld rfl fa54_1 (by decide)) <| hy (fun m => y_ld1 rfl ag51 (ld_blk (m.blk 1 rfl) (i := 1) rfl)) <| hy (fun _ => y_move rfl) <| hy (fun _ => y_idxS rfl rfl Try.underlying51 sz60 hA_r rfl (by omega)) <| hy (fun _ => y_fld rfl fa60_0 (by decide)) <| hy (fun m => yV (y_ld1 rfl ag9 (rd_fld (m.rd 0 rfl) f0)) ((rfl : _ = Value.string (strOf x0.1)))) <| hy (fun _ => y_lenStr rfl Try.underlying9) <| hy (fun _ => y_move rfl) <| hy (fun _ => y_lenStr rfl Try.underlying9) <| hy (fun _ => yT (y_geq rfl rfl) ((decide_eq_true (by omega)))) <| hy (fun _ => y_move rfl) <| hyg (o := _) rfl rfl rfl (fun _ => y_fld rfl fa54_1 (by decide)) <| hyg (o := _) rfl rfl rfl (fun m => y_ld1 rfl ag51 (ld_blk (m.blk 1 rfl) (i := 1) rfl)) <| hyg (o := _) rfl rfl rfl (fun _ => y_move rfl) <| hyg (o := _) rfl rfl rfl (fun _ => y_idxS rfl rfl Try.underlying51 sz60 hA_r rfl (by omega)) <| hyg (o := _) rfl rfl rfl (fun _ => y_fld rfl fa60_0 (by decide)) <| hyg (o := _) rfl rfl rfl (fun m => yV (y_ld1 rfl ag9 (rd_fld (m.rd 0 rfl) f0)) ((rfl : _ = Value.string (strOf x0.1)))) <| hyg (o := _) rfl rfl rfl (fun _ => y_move rfl) <| hyg (o := _) rfl rfl rfl (fun _ => yV (y_lenStr rfl Try.underlying9) ((show Value.int .i64 ((strOf p).size : Nat) = .int .i64 (p.length : Nat) by rw [hsp]))) <| ?_
        refine hxg (o := _) rfl rfl rfl (xh_call rfl Try.call21 (shortC (m := p.length)) [] rfl [] rfl ?_)
        rintro _ _ _ ⟨rfl, rfl, rfl⟩
        refine hyg (o := _) rfl rfl rfl (fun _ => y_move rfl) <| hyg (o := _) rfl rfl rfl (fun _ => y_seq rfl rfl) <| hy (fun _ => y_pickT rfl rfl) <| hend <| hsub (ρ' := [(100, _), (75, _), (18, _), (19, _), (17, _), (46, _), (14, _), (13, _), (43, _), (12, _), (11, _), (10, _), (9, _), (0, _), (1, _), (2, _), (3, _)]) ⟨rfl, rfl, rfl, rfl, rfl, rfl, rfl, rfl, rfl, rfl, rfl, rfl, rfl, rfl, rfl, rfl, rfl, trivial⟩ <| hmemQ (X' := [_, _, _, _, _, _]) (S' := [_, _, _, _, _]) (fun _ m => m) <| hthen <| ?_
        refine hif rfl (fun hpr => ?_) (fun hpr => ?_)
        · have hpx : pre p x0.1 = true := decide_eq_true (strOf_inj.1 hpr)
          have hF : ((dd.seen.take j).map (·.1)).filter (pre p) ++ [x0.1] = ((dd.seen.take (j + 1)).map (·.1)).filter (pre p) := by
            rw [hts, List.filter_cons, if_pos hpx]; rfl
          refine hreg <| hy (fun _ => y_move rfl) <| hy (fun _ => y_fld rfl fa54_1 (by decide)) <| hy (fun m => y_ld1 rfl ag51 (ld_blk (m.blk 1 rfl) (i := 1) rfl)) <| hy (fun _ => y_move rfl) <| hy (fun _ => y_idxS rfl rfl Try.underlying51 sz60 hA_r rfl (by omega)) <| hy (fun _ => y_fld rfl fa60_0 (by decide)) <| hy (fun m => yV (y_ld1 rfl ag9 (rd_fld (m.rd 0 rfl) f0)) ((rfl : _ = SV x0.1))) <| ?_
          refine hx (xh_bsl Try.underlying48 ti9 rfl rfl rfl (by simp [Value.cells, SV]) (by decide) (by decide) (fun g108 => ?_))
          have hA_b108 : 0 < 1 → (some (⟨g108, 0, none⟩ : Addr)) ≠ none := fun _ h => by cases h
          refine hmemL (fun w m => m.eqX 0 rfl (show _ = ROwn 9 1 (.slice (some ⟨g108, 0, none⟩) 1 1) 1 (ss [x0.1]) from rfl)) ?_
          refine hx (xh_app 1 rfl rfl rfl Try.underlying48 Try.underlying48 (by exact .inl rfl) ti9 rfl (fun m => Src.of_rd (m.ord 0 rfl)) ss_one (by unfold maxLen; omega) (by omega) (fun u => ?_))
          refine hfactL (fun m => (m.own 0 rfl).slice) ?_
          rintro ⟨A_o, c_o, rfl, hc_o⟩
          refine hfactL (fun m => (m.ord 0 rfl).2.1) fun hA_o => ?_
          refine hmemL (fun w m => m.eqX 0 rfl (show _ = ROwn 9 1 (.slice A_o (k + 1) c_o) (k + 1) (ss (((dd.seen.take (j + 1)).map (·.1)).filter (pre p))) from by rw [← hF]; simp [ss])) ?_
          refine hy (fun _ => y_assign rfl) <| hend <| hsub (ρ' := [(18, _), (100, _), (75, _), (19, _), (17, _), (46, _), (14, _), (13, _), (43, _), (12, _), (11, _), (10, _), (9, _), (0, _), (1, _), (2, _), (3, _)]) ⟨rfl, rfl, rfl, rfl, rfl, rfl, rfl, rfl, rfl, rfl, rfl, rfl, rfl, rfl, rfl, rfl, rfl, trivial⟩ <| hmemQ (X' := [_, _, _, _, _, _, _]) (S' := [_, _, _, _, _]) (fun _ m => m) <| hqblock <| hthen <| hreg <| hy (fun _ => y_move rfl) <| hy (fun _ => y_add rfl rfl (w64 (by omega) (by omega))) <| hy (fun _ => y_assign rfl) <| hend <| hsub (ρ' := [(19, _), (18, _), (100, _), (75, _), (17, _), (46, _), (14, _), (13, _), (43, _), (12, _), (11, _), (10, _), (9, _), (0, _), (1, _), (2, _), (3, _)]) ⟨rfl, rfl, rfl, rfl, rfl, rfl, rfl, rfl, rfl, rfl, rfl, rfl, rfl, rfl, rfl, rfl, rfl, trivial⟩ <| ?_
          refine hnext4 (j + 1) A_o (k + 1) c_o ⟨rfl, rfl, rfl, rfl, rfl, rfl, rfl, rfl, rfl, rfl, rfl, rfl, rfl, rfl, rfl, trivial⟩ [0, 1, 1, 1, 1, 1] rfl [0, 1, 2, 3, 4] rfl (⟨by omega, by rw [← hF, List.length_append, hk]; rfl, by omega⟩) (by omega)
        · have hF : ((dd.seen.take (j + 1)).map (·.1)).filter (pre p) = ((dd.seen.take j).map (·.1)).filter (pre p) := by
            rw [hts, List.filter_cons, if_neg (by rw [(show pre p x0.1 = false from decide_eq_false (fun e => hpr (strOf_inj.2 e)))]; decide)]; simp
          refine hcskip <| hqblock <| hthen <| hreg <| hy (fun _ => y_move rfl) <| hy (fun _ => y_add rfl rfl (w64 (by omega) (by omega))) <| hy (fun _ => y_assign rfl) <| hend <| hsub (ρ' := [(19, _), (100, _), (75, _), (18, _), (17, _), (46, _), (14, _), (13, _), (43, _), (12, _), (11, _), (10, _), (9, _), (0, _), (1, _), (2, _), (3, _)]) ⟨rfl, rfl, rfl, rfl, rfl, rfl, rfl, rfl, rfl, rfl, rfl, rfl, rfl, rfl, rfl, rfl, rfl, trivial⟩ <| ?_
          refine hmemQ (fun w m => m.eqX 0 rfl (show _ = ROwn 9 1 (.slice A1 k c1) k (ss (((dd.seen.take (j + 1)).map (·.1)).filter (pre p))) from by rw [hF])) ?_
          refine hnext4 (j + 1) A1 k c1 ⟨rfl, rfl, rfl, rfl, rfl, rfl, rfl, rfl, rfl, rfl, rfl, rfl, rfl, rfl, rfl, trivial⟩ [0, 0, 0, 0, 0, 0] rfl [0, 1, 2, 3, 4] rfl (⟨by omega, by rw [hF]; exact hk, by omega⟩) (by omega)
      · refine hcskip <| hthen <| hseq <| hblock <| hseq <| hreg <| hy (fun _ => y_fld rfl fa54_1 (by decide)) <| hy (fun m => y_ld1 rfl ag51 (ld_blk (m.blk 1 rfl) (i := 1) rfl)) <| hy (fun _ => y_move rfl) <| hy (fun _ => y_idxS rfl rfl Try.underlying51 sz60 hA_r rfl (by omega)) <| hy (fun _ => y_fld rfl fa60_0 (by decide)) <| hy (fun m => yV (y_ld1 rfl ag9 (rd_fld (m.rd 0 rfl) f0)) ((rfl : _ = Value.string (strOf x0.1)))) <| hy (fun _ => y_lenStr rfl Try.underlying9) <| hy (fun _ => y_move rfl) <| hy (fun _ => y_lenStr rfl Try.underlying9) <| hy (fun _ => yF (y_geq rfl rfl) ((decide_eq_false (by omega)))) <| hy (fun _ => y_move rfl) <| hskip rfl rfl rfl (by decide) <| hskip rfl rfl rfl (by decide) <| hskip rfl rfl rfl (by decide) <| hskip rfl rfl rfl (by decide) <| hskip rfl rfl rfl (by decide) <| hskip rfl rfl rfl (by decide) <| hskip rfl rfl rfl (by decide) <| hskip rfl rfl rfl (by decide) <| hskip rfl rfl rfl (by decide) <| hskip rfl rfl rfl (by decide) <| hskip rfl rfl rfl (by decide) <| hy (fun _ => y_pickF rfl rfl) <| hend <| hsub (ρ' := [(100, _), (75, _), (18, _), (19, _), (17, _), (46, _), (14, _), (13, _), (43, _), (12, _), (11, _), (10, _), (9, _), (0, _), (1, _), (2, _), (3, _)]) ⟨rfl, rfl, rfl, rfl, rfl, rfl, rfl, rfl, rfl, rfl, rfl, rfl, rfl, rfl, rfl, rfl, rfl, trivial⟩ <| hthen <| ?_
        refine hiff rfl (rfl) ?_
        have hF : ((dd.seen.take (j + 1)).map (·.1)).filter (pre p) = ((dd.seen.take j).map (·.1)).filter (pre p) := by
          rw [hts, List.filter_cons, if_neg (by rw [(show pre p x0.1 = false from decide_eq_false (fun e => hlen (by rw [← e, List.length_take]; omega)))]; decide)]; simp
        refine hcskip <| hqblock <| hthen <| hreg <| hy (fun _ => y_move rfl) <| hy (fun _ => y_add rfl rfl (w64 (by omega) (by omega))) <| hy (fun _ => y_assign rfl) <| hend <| hsub (ρ' := [(19, _), (100, _), (75, _), (18, _), (17, _), (46, _), (14, _), (13, _), (43, _), (12, _), (11, _), (10, _), (9, _), (0, _), (1, _), (2, _), (3, _)]) ⟨rfl, rfl, rfl, rfl, rfl, rfl, rfl, rfl, rfl, rfl, rfl, rfl, rfl, rfl, rfl, rfl, rfl, trivial⟩ <| ?_
        refine hmemQ (fun w m => m.eqX 0 rfl (show _ = ROwn 9 1 (.slice A1 k c1) k (ss (((dd.seen.take (j + 1)).map (·.1)).filter (pre p))) from by rw [hF])) ?_
        refine hnext4 (j + 1) A1 k c1 ⟨rfl, rfl, rfl, rfl, rfl, rfl, rfl, rfl, rfl, rfl, rfl, rfl, rfl, rfl, rfl, trivial⟩ [0, 0, 0, 0, 0, 0] rfl [0, 1, 2, 3, 4] rfl (⟨by omega, by rw [hF]; exact hk, by omega⟩) (by omega)
    · obtain rfl : j = dd.seen.length := by omega
      rw [List.take_of_length_le (Nat.le_refl _)] at hk
      have hns := ok.seen
      refine hmemC (fun w m => m.eqX 0 rfl (show _ = ROwn 9 1 (.slice A1 k c1) k (ss ((dd.seen.map (·.1)).filter (pre p))) from by rw [List.take_of_length_le (Nat.le_refl _)])) ?_
      refine hexit <| hthen_exit <| hthen_exit <| hqblock_exit <| hthen <| hseq <| hreg <| hy (fun _ => y_move rfl) <| hy (fun _ => y_move rfl) <| ?_
      refine hx (xh_call rfl Try.call27 (listC (show st.seen.length ≤ 100000 by omega) (p := p)) [2] rfl [] rfl ?_)
      rintro _ _ _ ⟨v2, n, ks, rfl, rfl, rfl, hp⟩
      refine hfactL (fun m => (m.own 1 rfl).slice) ?_
      rintro ⟨A_x2, c_x2, rfl, hc_x2⟩
      refine hfactL (fun m => (m.ord 1 rfl).2.1) fun hA_x2 => ?_
      obtain ⟨hn1, hks⟩ := hp
      have hnm := hS.files.names2 hks
      obtain rfl : n = k := by rw [hn1, hk, ← hnm, srt_len]
      rw [hnm]
      refine hy (fun _ => y_move rfl) <| ?_
      refine hx (xh_calll rfl Try.call26 (sameTextsC hk.symm (by omega) (a := ((dd.seen.map (·.1)).filter (pre p)))) [] rfl (.x 1 rfl .own (.x 2 rfl .own .nil)) ?_)
      rintro _ _ _ ⟨rfl, rfl, rfl⟩
      refine ⟨rfl, ?_⟩
      refine hy (fun _ => y_move rfl) <| hyg (o := _) rfl rfl rfl (fun _ => y_move rfl) <| hyg (o := _) rfl rfl rfl (fun m => yV (y_ldN rfl ag54 sz54 rfl ((m.blk 3 rfl).cells0)) ((rfl : _ = Value.agg (rv dd A dd.seen.length c none 0 0 A3 dd.waits.length c3).toArray))) <| ?_
      refine hxg (o := _) rfl rfl rfl (xh_call rfl Try.call28 (likeC rfl rfl ok okr (by omega) hS (d := dd)) [0] rfl [0] rfl ?_)
      rintro _ _ _ ⟨rfl, rfl, rfl⟩
      refine hy (fun _ => y_pickT rfl rfl) <| hy (fun _ => y_move rfl) <| ?_
      refine hxg (o := _) rfl rfl rfl (xh_call rfl Try.call29 (lives12C) [] rfl [] rfl ?_)
      rintro _ _ _ ⟨rfl, rfl, rfl⟩
      refine hy (fun _ => y_pickT rfl rfl) <| hy (fun _ => y_assign rfl) <| hend <| hsub (ρ' := [(8, _), (75, _), (18, _), (19, _), (17, _), (46, _), (14, _), (13, _), (43, _), (12, _), (11, _), (10, _), (9, _), (0, _), (1, _), (2, _), (3, _)]) ⟨rfl, rfl, rfl, rfl, rfl, rfl, rfl, rfl, rfl, rfl, rfl, rfl, rfl, rfl, rfl, rfl, rfl, trivial⟩ <| hmemQ (X' := [_, _, _, _, _, _, _]) (S' := [_, _, _, _, _]) (fun _ m => m) <| hthen <| hret <| ?_
      exact hret1 trivial rfl rfl [] rfl [] rfl ⟨rfl, rfl, rfl⟩
theorem diskNames (s : ByteArray) (z : Int) (y : UInt8) (pf : ByteArray) (W : World) (_ : s.size ≤ maxLen) (hz : -9223372036854775808 ≤ z ∧ z ≤ 9223372036854775807) (_ : pf.size ≤ maxLen) :
    Calls Try.prog 4 #[.string s, .int .i64 z, B8 y, .string pf] W fun e w' => e = .returned (.bool true) ∧ Fr No W w' := by
  have e1 : s = strOf (bytesOf s) := rfl
  have e2 : pf = strOf (bytesOf pf) := rfl
  rw [e1, e2]
  exact con_calls (diskNamesC hz) (by
    intro s hs
    cases hs)
end Go.Proofs.Ytflcokdkobhieaa
