/- The law DiskRoom and the law DiskOwns, computed. -/
import Derived.Test.YtpcgpnijhpcbeaaDisk3
import Derived.Test.YtpcgpnijhpcbeaaCon2
import Derived.Laws.BitsAllLaws
set_option linter.unusedVariables false
set_option linter.unusedSimpArgs false
set_option maxRecDepth 20000
namespace Go.Proofs.Ytpcgpnijhpcbeaa
open Go.Eng Go.Hx
theorem wrote_of {st st1 : DSt} {p : List UInt8} {n : Nat} {r : BRow} {A : Option Addr} {c : Nat} (h : (writeE st p n ≠ 0 ∧ st1 = st) ∨ (writeE st p n = 0 ∧ st1 = st.wrote p r A c)) (e : writeE st p n = 0) : st1 = st.wrote p r A c := by
  rcases h with ⟨h, _⟩ | ⟨_, h⟩
  · exact absurd e h
  · exact h
theorem named1 {x : UInt8} (h : x ≠ 0) : Named [x] := ⟨by simp, by simp, by simp; exact fun e => h e.symm⟩
theorem lives12C  : Con Try.prog 20 [] [] [] (fun v_ X_ S_ => v_ = (.bool true) ∧ X_ = [] ∧ S_ = []) := by
  refine henter (N := 59) Try.func20 rfl rfl (by simp) fun b => ?_
  refine hseq <| hreg <| hy (fun _ => y_assign rfl) <| hend <| hthen <| hseq <| hreg <| ?_
  refine hx (xh_call rfl Try.call16 (newC (by omega) (by omega) (n := 100)) [] rfl [] rfl ?_)
  rintro _ _ _ ⟨g, gs, gl, rfl, rfl, rfl⟩
  refine hy (fun _ => y_move rfl) <| hy (fun _ => y_extract rfl rfl) <| hy (fun _ => y_extract rfl rfl) <| hy (fun _ => y_assign rfl) <| hy (fun _ => y_assign rfl) <| hend <| hsub (ρ' := [(2, _), (1, _), (0, _)]) ⟨rfl, rfl, rfl, trivial⟩ <| hmemQ (X' := [_]) (S' := []) (fun _ m => m) <| hthen <| hseq <| hseq <| hreg <| hy (fun _ => y_move rfl) <| hy (fun _ => y_eqPn rfl rfl (by kernel_rfl)) <| hy (fun _ => y_move rfl) <| ?_
  refine hyg (o := _) rfl rfl rfl (fun _ => y_move rfl) <| hyg (o := _) rfl rfl rfl (fun _ => y_neq rfl rfl) <| hy (fun _ => y_pickF rfl rfl) <| hend <| hsub (ρ' := [(18, _), (2, _), (1, _), (0, _)]) ⟨rfl, rfl, rfl, rfl, trivial⟩ <| hthen <| ?_
  refine hiff rfl ((by decide)) ?_
  refine hcskip <| hthen <| hseq <| hreg <| hy (fun _ => y_move rfl) <| ?_
  refine hx (xh_bsl Try.underlying29 ti5 rfl rfl rfl (by simp [Value.cells, B8]) (by decide) (by decide) (fun g20 => ?_))
  have hA_b20 : 0 < 4 → (some (⟨g20, 0, none⟩ : Addr)) ≠ none := fun _ h => by cases h
  refine hmemL (fun w m => m.eqX 0 rfl (show _ = ROwn 5 1 (.slice (some ⟨g20, 0, none⟩) 4 4) 4 (b8s [49, 50, 51, 52]) from rfl)) ?_
  refine hx (xh_cvS 0 rfl rfl Try.underlying29 Try.underlying5 ?_)
  refine hx (xh_calll rfl Try.call18 (writeC (DOk.init (by decide)) (by omega) (by omega) (k := 0) (l := [49, 50, 51, 52])) [1] rfl (.x 0 rfl .own .nil) ?_)
  rintro _ _ _ ⟨st1, B, c1, A1, c2, rfl, rfl, rfl, hp⟩
  refine ⟨rfl, ?_⟩
  have e1 : writeE (dinit 100 gs gl) [97] 4 = 0 := by simp [writeE, named1, dinit, tot, aget]
  obtain rfl := wrote_of hp e1
  rw [e1]
  have ok1 := (DOk.init (n := 100) (gs := gs) (gl := gl) (by decide)).wrote (p := [97]) (r := ⟨B, 4, c1, [49, 50, 51, 52]⟩) (show 4 ≤ 1048576 by decide) A1 c2
  have wr1 : Wr ((dinit 100 gs gl).wrote [97] ⟨B, 4, c1, [49, 50, 51, 52]⟩ A1 c2) := fun c hc => by
    obtain rfl := List.mem_singleton.1 hc
    exact ⟨_, _, rfl⟩
  refine hy (fun _ => y_assign rfl) <| hend <| hsub (ρ' := [(3, _), (18, _), (2, _), (1, _), (0, _)]) ⟨rfl, rfl, rfl, rfl, rfl, trivial⟩ <| hmemQ (X' := [_, _]) (S' := []) (fun _ m => m) <| hthen <| hseq <| hreg <| hy (fun _ => y_move rfl) <| ?_
  refine hx (xh_bsl Try.underlying42 ti4 rfl rfl rfl (by simp [Value.cells, B8]) (by decide) (by decide) (fun g24 => ?_))
  have hA_b24 : 0 < 2 → (some (⟨g24, 0, none⟩ : Addr)) ≠ none := fun _ h => by cases h
  refine hmemL (fun w m => m.eqX 0 rfl (show _ = ROwn 4 1 (.slice (some ⟨g24, 0, none⟩) 2 2) 2 (bools [true, false]) from rfl)) ?_
  refine hx (xh_calll rfl Try.call23 (restartC (by omega) wr1 ok1.sm (by have := ok1.rest; omega) (bs := [true, false])) [1] rfl (.x 0 rfl .own .nil) ?_)
  rintro _ _ _ ⟨gs2, rfl, rfl, rfl⟩
  refine ⟨rfl, ?_⟩
  have ok2 := ok1.started [true, false] gs2
  generalize hst : DSt.started _ _ _ = st2 at ok2 ⊢
  have s1 : st2.seen = [([97], ⟨B, 2, c1, [49, 50]⟩)] := by rw [← hst]; simp [DSt.started, rfold, rstep, DSt.wrote, DSt.spent, dinit, aput, BRow.half]
  have s2 : st2.waits = [] := by rw [← hst]; rfl
  have s3 : st2.power = -1 := by rw [← hst]; rfl
  have s4 : st2.room = 100 := by rw [← hst]; rfl
  have s5 : st2.lasts = st2.seen := by rw [← hst]; rfl
  clear hst
  refine hend <| hsub (ρ' := [(3, _), (18, _), (2, _), (1, _), (0, _)]) ⟨rfl, rfl, rfl, rfl, rfl, trivial⟩ <| hmemQ (X' := [_, _, _]) (S' := []) (fun _ m => m) <| hthen <| hseq <| hreg <| hy (fun _ => y_move rfl) <| ?_
  refine hx (xh_call rfl Try.call22 (readC ok2.sm) [0] rfl [] rfl ?_)
  rintro _ _ _ ⟨v, rfl, rfl, rfl⟩
  refine hfactL (fun m => (m.own 1 rfl).slice) ?_
  rintro ⟨A_x, c_x, rfl, hc_x⟩
  refine hfactL (fun m => (m.ord 1 rfl).2.1) fun hA_x => ?_
  have e2 : foundE st2 [97] = 0 := by simp [foundE, s1, s3, aget]
  have e3 : readB st2 [97] = [49, 50] := by simp [readB, e2, s1, aget]
  rw [e2, e3]
  rw [e3] at hA_x hc_x
  refine hmemL (fun w m => m.addS (r' := RRd 1 none 0 []) (.refl _ _) (Rd.nil _ _ _) (fun k hk => absurd rfl hk.1)) ?_
  have hA_z : 0 < 0 → (none : Option Addr) ≠ none := fun h => absurd h (by decide)
  refine hy (fun _ => y_move rfl) <| hy (fun _ => y_extract rfl rfl) <| hy (fun _ => y_extract rfl rfl) <| hy (fun _ => y_assign rfl) <| hy (fun _ => y_assign rfl) <| hend <| hsub (ρ' := [(5, _), (4, _), (3, _), (18, _), (2, _), (1, _), (0, _)]) ⟨rfl, rfl, rfl, rfl, rfl, rfl, rfl, trivial⟩ <| hmemQ (X' := [_, _, _, _]) (S' := [_]) (fun _ m => m) <| hthen <| hseq <| hreg <| hy (fun _ => y_move rfl) <| ?_
  refine hx (xh_call rfl Try.call18 (writeC ok2 (by omega) (by omega) (k := 1) (l := [])) [0] rfl [0] rfl ?_)
  rintro _ _ _ ⟨st12, B2, c12, A12, c22, rfl, rfl, rfl, hp2⟩
  have e4 : writeE st2 [98] 0 = 0 := by simp [writeE, named1, s1, s3, s4, tot, aget]
  obtain rfl := wrote_of hp2 e4
  rw [e4]
  have ok3 := ok2.wrote (p := [98]) (r := ⟨B2, 0, c12, []⟩) (show 0 ≤ 1048576 by decide) A12 c22
  have wr3 : Wr (st2.wrote [98] ⟨B2, 0, c12, []⟩ A12 c22) := fun c hc => by
    rw [show (st2.wrote [98] ⟨B2, 0, c12, []⟩ A12 c22).waits = st2.waits ++ [.written [98] ⟨B2, 0, c12, []⟩] from rfl, s2] at hc
    obtain rfl := List.mem_singleton.1 hc
    exact ⟨_, _, rfl⟩
  refine hy (fun _ => y_assign rfl) <| hend <| hsub (ρ' := [(6, _), (5, _), (4, _), (3, _), (18, _), (2, _), (1, _), (0, _)]) ⟨rfl, rfl, rfl, rfl, rfl, rfl, rfl, rfl, trivial⟩ <| hmemQ (X' := [_, _, _, _]) (S' := [_]) (fun _ m => m) <| hthen <| hseq <| hreg <| hy (fun _ => y_move rfl) <| ?_
  refine hx (xh_call rfl Try.call23 (restartC (by omega) wr3 ok3.sm (by have := ok3.rest; omega) (bs := [])) [0] rfl [0] rfl ?_)
  rintro _ _ _ ⟨gs3, rfl, rfl, rfl⟩
  have ok4 := ok3.started [] gs3
  have s6 : (((st2.wrote [98] ⟨B2, 0, c12, []⟩ A12 c22).started [] gs3).seen) = st2.seen := by rw [← s5]; simp [DSt.started, rfold, rstep, DSt.wrote, DSt.spent, s2]
  have s7 : (((st2.wrote [98] ⟨B2, 0, c12, []⟩ A12 c22).started [] gs3).power) = -1 := rfl
  generalize DSt.started _ _ _ = st4 at ok4 s6 s7 ⊢
  refine hend <| hsub (ρ' := [(6, _), (5, _), (4, _), (3, _), (18, _), (2, _), (1, _), (0, _)]) ⟨rfl, rfl, rfl, rfl, rfl, rfl, rfl, rfl, trivial⟩ <| hmemQ (X' := [_, _, _, _]) (S' := [_]) (fun _ m => m) <| hthen <| hseq <| hreg <| hy (fun _ => y_move rfl) <| ?_
  refine hx (xh_call rfl Try.call22 (readC ok4.sm) [0] rfl [] rfl ?_)
  rintro _ _ _ ⟨v2, rfl, rfl, rfl⟩
  refine hfactL (fun m => (m.own 1 rfl).slice) ?_
  rintro ⟨A_x2, c_x2, rfl, hc_x2⟩
  refine hfactL (fun m => (m.ord 1 rfl).2.1) fun hA_x2 => ?_
  have e5 : foundE st4 [98] = 4 := by simp [foundE, s6, s1, s7, aget]
  rw [e5]
  refine hy (fun _ => y_move rfl) <| hy (fun _ => y_extract rfl rfl) <| hy (fun _ => y_extract rfl rfl) <| hy (fun _ => y_assign rfl) <| hy (fun _ => y_assign rfl) <| hend <| hsub (ρ' := [(8, _), (6, _), (5, _), (4, _), (3, _), (18, _), (2, _), (1, _), (0, _)]) ⟨rfl, rfl, rfl, rfl, rfl, rfl, rfl, rfl, rfl, trivial⟩ <| hmemQ (X' := [_, _, _, _, _]) (S' := [_]) (fun _ m => m) <| hthen <| hseq <| hreg <| hy (fun _ => y_move rfl) <| hy (fun _ => y_eql rfl rfl) <| hy (fun _ => y_move rfl) <| hyg (o := _) rfl rfl rfl (fun _ => y_move rfl) <| hyg (o := _) rfl rfl rfl (fun _ => y_eql rfl rfl) <| hy (fun _ => y_pickT rfl rfl) <| hy (fun _ => y_move rfl) <| hyg (o := _) rfl rfl rfl (fun _ => y_move rfl) <| hyg (o := _) rfl rfl rfl (fun m => y_b2s rfl Try.underlying29 Try.underlying5 Try.underlying9 (m.ord 2 rfl)) <| hyg (o := _) rfl rfl rfl (fun _ => yT (y_seq rfl rfl) ((decide_eq_true rfl))) <| hy (fun _ => y_pickT rfl rfl) <| hy (fun _ => y_move rfl) <| hyg (o := _) rfl rfl rfl (fun _ => y_move rfl) <| hyg (o := _) rfl rfl rfl (fun _ => y_eql rfl rfl) <| hy (fun _ => y_pickT rfl rfl) <| hy (fun _ => y_move rfl) <| hyg (o := _) rfl rfl rfl (fun _ => y_move rfl) <| hyg (o := _) rfl rfl rfl (fun _ => y_eql rfl rfl) <| hy (fun _ => y_pickT rfl rfl) <| hy (fun _ => y_assign rfl) <| hend <| hsub (ρ' := [(0, _), (8, _), (6, _), (5, _), (4, _), (3, _), (18, _), (2, _), (1, _)]) ⟨rfl, rfl, rfl, rfl, rfl, rfl, rfl, rfl, rfl, trivial⟩ <| hthen <| hret <| ?_
  exact hret1 trivial rfl rfl [] rfl [] rfl ⟨rfl, rfl, rfl⟩
theorem xor_u8 (x y : UInt8) : bits .xor .u8 (x.toNat : Int) (y.toNat : Int) = ((x ^^^ y).toNat : Int) := by
  rw [u8_xor_nat _ _ x.toNat_lt y.toNat_lt, UInt8.toNat_xor]
theorem b8s_setx {xs : List UInt8} {i : Nat} {m : Nat} (h : xs.length = m) (v : UInt8) : b8s (xs.set i v) = (b8s xs).set i (B8 v) ∧ (xs.set i v).length = m := ⟨b8s_set _ _ _, by rw [List.length_set, h]⟩
theorem diskOwnsC {A : Option Addr} {n c : Nat} {l : List UInt8} {y : UInt8} (hc : n ≤ c) (hn : n ≤ 140737488351232) : Con Try.prog 5 [.slice A n c, B8 y] [] [RRd 1 A n (b8s l)] (fun v_ X_ S_ => v_ = (.bool true) ∧ X_ = [] ∧ S_ = []) := by
  refine henter (N := 115) Try.func5 rfl rfl (by simp) fun b => ?_
  refine hfactC (fun m => rdB (m.rd 0 rfl)) ?_
  rintro ⟨hl_r, hA_r⟩
  refine hseq <| hreg <| hy (fun _ => y_assign rfl) <| hend <| hthen <| hseq <| hreg <| ?_
  refine hx (xh_call rfl Try.call16 (newC (by omega) (by omega) (n := 100)) [] rfl [] rfl ?_)
  rintro _ _ _ ⟨g, gs, gl, rfl, rfl, rfl⟩
  refine hy (fun _ => y_move rfl) <| hy (fun _ => y_extract rfl rfl) <| hy (fun _ => y_extract rfl rfl) <| hy (fun _ => y_assign rfl) <| hy (fun _ => y_assign rfl) <| hend <| hsub (ρ' := [(6, _), (5, _), (4, _), (0, _), (1, _)]) ⟨rfl, rfl, rfl, rfl, rfl, trivial⟩ <| hmemQ (X' := [_]) (S' := [_]) (fun _ m => m) <| hthen <| hseq <| hseq <| hreg <| hy (fun _ => y_move rfl) <| hy (fun _ => y_eqPn rfl rfl (by kernel_rfl)) <| hy (fun _ => y_move rfl) <| ?_
  refine hyg (o := _) rfl rfl rfl (fun _ => y_move rfl) <| hyg (o := _) rfl rfl rfl (fun _ => y_neq rfl rfl) <| hy (fun _ => y_pickF rfl rfl) <| hend <| hsub (ρ' := [(28, _), (6, _), (5, _), (4, _), (0, _), (1, _)]) ⟨rfl, rfl, rfl, rfl, rfl, rfl, trivial⟩ <| hthen <| ?_
  refine hiff rfl ((by decide)) ?_
  refine hcskip <| hthen <| hseq <| hreg <| hy (fun _ => y_move rfl) <| ?_
  refine hx (xh_call rfl Try.call17 (fewC (by omega) (by omega) (m := 20)) [] rfl [0] rfl ?_)
  rintro _ _ _ ⟨v, rfl, rfl, rfl⟩
  refine hfactL (fun m => (m.own 0 rfl).slice) ?_
  rintro ⟨A_x, c_x, rfl, hc_x⟩
  refine hfactL (fun m => (m.ord 0 rfl).2.1) fun hA_x => ?_
  have hm20 : min n 20 ≤ 20 := Nat.min_le_right _ _
  have hml : (l.take 20).length = min n 20 := by rw [List.length_take, hl_r]; omega
  generalize min n 20 = mm at hm20 hml hA_x hc_x ⊢
  generalize hwant : l.take 20 = want at hml ⊢
  refine hy (fun _ => y_assign rfl) <| hend <| hsub (ρ' := [(7, _), (28, _), (6, _), (5, _), (4, _), (0, _), (1, _)]) ⟨rfl, rfl, rfl, rfl, rfl, rfl, rfl, trivial⟩ <| hmemQ (X' := [_, _]) (S' := [_]) (fun _ m => m) <| hthen <| hseq <| hreg <| hy (fun _ => y_move rfl) <| hy (fun _ => y_move rfl) <| ?_
  refine hx (xh_calll rfl Try.call18 (writeC (DOk.init (by decide)) (by omega) (by omega) (k := 0) (l := want)) [1] rfl (.x 0 rfl .own .nil) ?_)
  rintro _ _ _ ⟨st1, B, c1, A1, c2, rfl, rfl, rfl, hp⟩
  refine ⟨rfl, ?_⟩
  have e1 : writeE (dinit 100 gs gl) [97] mm = 0 := by simp [writeE, named1, dinit, tot, aget]; omega
  obtain rfl := wrote_of hp e1
  rw [e1]
  have ok1 := (DOk.init (n := 100) (gs := gs) (gl := gl) (by decide)).wrote (p := [97]) (r := ⟨B, mm, c1, want⟩) (show mm ≤ 1048576 by omega) A1 c2
  refine hy (fun _ => y_assign rfl) <| hend <| hsub (ρ' := [(8, _), (7, _), (28, _), (6, _), (5, _), (4, _), (0, _), (1, _)]) ⟨rfl, rfl, rfl, rfl, rfl, rfl, rfl, rfl, trivial⟩ <| hmemQ (X' := [_, _]) (S' := [_]) (fun _ m => m) <| hthen <| hseq <| hreg <| hy (fun _ => y_move rfl) <| ?_
  refine hx (xh_call rfl Try.call21 (syncC ok1) [0] rfl [] rfl ?_)
  rintro _ _ _ ⟨st12, gl2, rfl, rfl, rfl, hp2⟩
  have e2 : ((dinit 100 gs gl).wrote [97] ⟨B, mm, c1, want⟩ A1 c2).power ≠ 0 := by simp [DSt.wrote, DSt.spent, dinit]
  have hp2 := (hp2.resolve_left (fun h => e2 h.1)).2
  subst hp2
  have e3 : syncE ((dinit 100 gs gl).wrote [97] ⟨B, mm, c1, want⟩ A1 c2) = 0 := by rw [syncE, if_neg e2]
  rw [e3]
  have ok2 := ok1.synced gl2
  have s1 : (((dinit 100 gs gl).wrote [97] ⟨B, mm, c1, want⟩ A1 c2).synced gl2).seen = [([97], ⟨B, mm, c1, want⟩)] := by simp [DSt.synced, DSt.wrote, dinit, DSt.spent, aput]
  have s2 : (((dinit 100 gs gl).wrote [97] ⟨B, mm, c1, want⟩ A1 c2).synced gl2).lasts = [([97], ⟨B, mm, c1, want⟩)] := by simp [DSt.synced, DSt.wrote, dinit, DSt.spent, aput]
  have s3 : (((dinit 100 gs gl).wrote [97] ⟨B, mm, c1, want⟩ A1 c2).synced gl2).waits = [] := rfl
  have s4 : (((dinit 100 gs gl).wrote [97] ⟨B, mm, c1, want⟩ A1 c2).synced gl2).power = -1 := by simp [DSt.synced, DSt.wrote, dinit, DSt.spent]
  generalize DSt.synced _ _ = st2 at ok2 s1 s2 s3 s4 ⊢
  refine hy (fun _ => y_assign rfl) <| hend <| hsub (ρ' := [(9, _), (8, _), (7, _), (28, _), (6, _), (5, _), (4, _), (0, _), (1, _)]) ⟨rfl, rfl, rfl, rfl, rfl, rfl, rfl, rfl, rfl, trivial⟩ <| hmemQ (X' := [_, _]) (S' := [_]) (fun _ m => m) <| hthen <| hseq <| hseq <| hreg <| hy (fun _ => y_assign rfl) <| hend <| hthen <| hblock <| ?_
  refine hloop2 (fun i xs => mm - i) (fun i xs => [(10, .int .i64 (i : Nat))]) (fun i xs => [ROwn 5 1 (.slice A_x mm c_x) mm (b8s xs)]) (fun i xs => []) (fun i xs => i ≤ mm ∧ xs.length = mm) 0 want [(9, _), (8, _), (7, _), (28, _), (6, _), (5, _), (4, _), (0, _), (1, _)] ⟨rfl, rfl, rfl, rfl, rfl, rfl, rfl, rfl, rfl, trivial⟩ [1] rfl [] rfl (⟨Nat.zero_le _, hml⟩) ⟨rfl, trivial⟩ (fun i xs ⟨hi, hxl⟩ => ?_)
  refine hseq <| hseq <| hreg <| hy (fun _ => y_move rfl) <| hy (fun _ => y_move rfl) <| hy (fun _ => y_lenS rfl Try.underlying29) <| hy (fun _ => y_lss rfl rfl) <| hend <| hsub (ρ' := [(39, _), (10, _), (9, _), (8, _), (7, _), (28, _), (6, _), (5, _), (4, _), (0, _), (1, _)]) ⟨rfl, rfl, rfl, rfl, rfl, rfl, rfl, rfl, rfl, rfl, rfl, trivial⟩ <| hthen <| ?_
  refine hif rfl (fun hlt => ?_) (fun hlt => ?_)
  · refine hcskip <| hthen <| hseq <| hblock <| hreg <| hy (fun _ => y_move rfl) <| hy (fun _ => y_move rfl) <| hy (fun _ => y_move rfl) <| hy (fun _ => y_move rfl) <| hy (fun _ => y_idxS1 rfl rfl Try.underlying29 sz5 hA_x rfl (by omega)) <| hy (fun m => y_ld1 rfl ag5 ((m.ord 0 rfl).cell (b8s_get (by omega)))) <| hy (fun _ => y_move rfl) <| hy (fun _ => y_bits (by simp) rfl rfl (xor_u8 _ _)) <| hy (fun _ => y_idxS1 rfl rfl Try.underlying29 sz5 hA_x rfl (by omega)) <| ?_
    refine hx0 (xh_stO 0 rfl rfl rfl sz5 rfl (by omega) ?_)
    refine hend <| hsub (ρ' := [(39, _), (10, _), (9, _), (8, _), (7, _), (28, _), (6, _), (5, _), (4, _), (0, _), (1, _)]) ⟨rfl, rfl, rfl, rfl, rfl, rfl, rfl, rfl, rfl, rfl, rfl, trivial⟩ <| hmemQ (X' := [_, _]) (S' := [_]) (fun _ m => m) <| hqblock <| hthen <| hreg <| hy (fun _ => y_move rfl) <| hy (fun _ => y_add rfl rfl (w64 (by omega) (by omega))) <| hy (fun _ => y_assign rfl) <| hend <| hsub (ρ' := [(10, _), (39, _), (9, _), (8, _), (7, _), (28, _), (6, _), (5, _), (4, _), (0, _), (1, _)]) ⟨rfl, rfl, rfl, rfl, rfl, rfl, rfl, rfl, rfl, rfl, rfl, trivial⟩ <| ?_
    refine hmemQ (fun w m => m.eqX 0 rfl (show _ = ROwn 5 1 (.slice A_x mm c_x) mm (b8s (xs.set i (xs.getD i 0 ^^^ y))) from by rw [(b8s_setx hxl _).1]; rfl)) ?_
    refine hnext2 (i + 1) (xs.set i (xs.getD i 0 ^^^ y)) ⟨rfl, rfl, rfl, rfl, rfl, rfl, rfl, rfl, rfl, rfl, trivial⟩ [0, 0] rfl [0] rfl (⟨by omega, (b8s_setx hxl _).2⟩) (by omega)
  · refine hexit <| hthen_exit <| hthen_exit <| hqblock_exit <| hthen <| hseq <| hreg <| hy (fun _ => y_move rfl) <| ?_
    refine hx (xh_call rfl Try.call22 (readC ok2.sm) [1] rfl [] rfl ?_)
    rintro _ _ _ ⟨v2, rfl, rfl, rfl⟩
    refine hfactL (fun m => (m.own 1 rfl).slice) ?_
    rintro ⟨A_x2, c_x2, rfl, hc_x2⟩
    refine hfactL (fun m => (m.ord 1 rfl).2.1) fun hA_x2 => ?_
    have e4 : foundE st2 [97] = 0 := by simp [foundE, s1, s4, aget]
    have e5 : readB st2 [97] = want := by simp [readB, e4, s1, aget]
    rw [e4, e5]
    rw [e5, hml] at hA_x2 hc_x2
    rw [hml]
    refine hy (fun _ => y_move rfl) <| hy (fun _ => y_extract rfl rfl) <| hy (fun _ => y_extract rfl rfl) <| hy (fun _ => y_assign rfl) <| hy (fun _ => y_assign rfl) <| hend <| hsub (ρ' := [(12, _), (11, _), (39, _), (10, _), (9, _), (8, _), (7, _), (28, _), (6, _), (5, _), (4, _), (0, _), (1, _)]) ⟨rfl, rfl, rfl, rfl, rfl, rfl, rfl, rfl, rfl, rfl, rfl, rfl, rfl, trivial⟩ <| hmemQ (X' := [_, _, _]) (S' := [_]) (fun _ m => m) <| hthen <| hseq <| hseq <| hreg <| hy (fun _ => y_assign rfl) <| hend <| hthen <| hblock <| ?_
    refine hloop2 (fun j ys => mm - j) (fun j ys => [(13, .int .i64 (j : Nat))]) (fun j ys => [ROwn 5 1 (.slice A_x2 mm c_x2) mm (b8s ys)]) (fun j ys => []) (fun j ys => j ≤ mm ∧ ys.length = mm) 0 want [(12, _), (11, _), (39, _), (10, _), (9, _), (8, _), (7, _), (28, _), (6, _), (5, _), (4, _), (0, _), (1, _)] ⟨rfl, rfl, rfl, rfl, rfl, rfl, rfl, rfl, rfl, rfl, rfl, rfl, rfl, trivial⟩ [1] rfl [] rfl (⟨Nat.zero_le _, hml⟩) ⟨rfl, trivial⟩ (fun j ys ⟨hj, hyl⟩ => ?_)
    refine hseq <| hseq <| hreg <| hy (fun _ => y_move rfl) <| hy (fun _ => y_move rfl) <| hy (fun _ => y_lenS rfl Try.underlying29) <| hy (fun _ => y_lss rfl rfl) <| hend <| hsub (ρ' := [(59, _), (13, _), (12, _), (11, _), (39, _), (10, _), (9, _), (8, _), (7, _), (28, _), (6, _), (5, _), (4, _), (0, _), (1, _)]) ⟨rfl, rfl, rfl, rfl, rfl, rfl, rfl, rfl, rfl, rfl, rfl, rfl, rfl, rfl, rfl, trivial⟩ <| hthen <| ?_
    refine hif rfl (fun hlt2 => ?_) (fun hlt2 => ?_)
    · refine hcskip <| hthen <| hseq <| hblock <| hreg <| hy (fun _ => y_move rfl) <| hy (fun _ => y_move rfl) <| hy (fun _ => y_move rfl) <| hy (fun _ => y_move rfl) <| hy (fun _ => y_idxS1 rfl rfl Try.underlying29 sz5 hA_x2 rfl (by omega)) <| hy (fun m => y_ld1 rfl ag5 ((m.ord 0 rfl).cell (b8s_get (by omega)))) <| hy (fun _ => y_move rfl) <| hy (fun _ => y_bits (by simp) rfl rfl (xor_u8 _ _)) <| hy (fun _ => y_idxS1 rfl rfl Try.underlying29 sz5 hA_x2 rfl (by omega)) <| ?_
      refine hx0 (xh_stO 0 rfl rfl rfl sz5 rfl (by omega) ?_)
      refine hend <| hsub (ρ' := [(59, _), (13, _), (12, _), (11, _), (39, _), (10, _), (9, _), (8, _), (7, _), (28, _), (6, _), (5, _), (4, _), (0, _), (1, _)]) ⟨rfl, rfl, rfl, rfl, rfl, rfl, rfl, rfl, rfl, rfl, rfl, rfl, rfl, rfl, rfl, trivial⟩ <| hmemQ (X' := [_, _, _]) (S' := [_]) (fun _ m => m) <| hqblock <| hthen <| hreg <| hy (fun _ => y_move rfl) <| hy (fun _ => y_add rfl rfl (w64 (by omega) (by omega))) <| hy (fun _ => y_assign rfl) <| hend <| hsub (ρ' := [(13, _), (59, _), (12, _), (11, _), (39, _), (10, _), (9, _), (8, _), (7, _), (28, _), (6, _), (5, _), (4, _), (0, _), (1, _)]) ⟨rfl, rfl, rfl, rfl, rfl, rfl, rfl, rfl, rfl, rfl, rfl, rfl, rfl, rfl, rfl, trivial⟩ <| ?_
      refine hmemQ (fun w m => m.eqX 0 rfl (show _ = ROwn 5 1 (.slice A_x2 mm c_x2) mm (b8s (ys.set j (ys.getD j 0 ^^^ y))) from by rw [(b8s_setx hyl _).1]; rfl)) ?_
      refine hnext2 (j + 1) (ys.set j (ys.getD j 0 ^^^ y)) ⟨rfl, rfl, rfl, rfl, rfl, rfl, rfl, rfl, rfl, rfl, rfl, rfl, rfl, rfl, trivial⟩ [0, 0, 0] rfl [0] rfl (⟨by omega, (b8s_setx hyl _).2⟩) (by omega)
    · refine hexit <| hthen_exit <| hthen_exit <| hqblock_exit <| hthen <| hseq <| hreg <| hy (fun _ => y_move rfl) <| ?_
      refine hx (xh_call rfl Try.call22 (readC ok2.sm) [1] rfl [] rfl ?_)
      rintro _ _ _ ⟨v3, rfl, rfl, rfl⟩
      refine hfactL (fun m => (m.own 1 rfl).slice) ?_
      rintro ⟨A_x3, c_x3, rfl, hc_x3⟩
      refine hfactL (fun m => (m.ord 1 rfl).2.1) fun hA_x3 => ?_
      rw [e4, e5]
      rw [e5, hml] at hA_x3 hc_x3
      rw [hml]
      refine hmemL (fun w m => m.addS (r' := RRd 1 none 0 []) (.refl _ _) (Rd.nil _ _ _) (fun k hk => absurd rfl hk.1)) ?_
      have hA_z : 0 < 0 → (none : Option Addr) ≠ none := fun h => absurd h (by decide)
      have wr2 : Wr st2 := fun c hc => by rw [s3] at hc; cases hc
      have ok3 := ok2.started []
      have s6 : ∀ gs, (st2.started [] gs).seen = [([97], ⟨B, mm, c1, want⟩)] := fun gs => by simp [DSt.started, rfold, s3, s2]
      have s7 : ∀ gs, (st2.started [] gs).power = -1 := fun gs => rfl
      refine hy (fun _ => y_move rfl) <| hy (fun _ => y_extract rfl rfl) <| hy (fun _ => y_extract rfl rfl) <| hy (fun _ => y_assign rfl) <| hy (fun _ => y_assign rfl) <| hend <| hsub (ρ' := [(14, _), (59, _), (13, _), (12, _), (11, _), (39, _), (10, _), (9, _), (8, _), (7, _), (28, _), (6, _), (5, _), (4, _), (0, _), (1, _)]) ⟨rfl, rfl, rfl, rfl, rfl, rfl, rfl, rfl, rfl, rfl, rfl, rfl, rfl, rfl, rfl, rfl, trivial⟩ <| hmemQ (X' := [_, _, _, _]) (S' := [_, _]) (fun _ m => m) <| hthen <| hseq <| hreg <| hy (fun _ => y_move rfl) <| ?_
      refine hx (xh_call rfl Try.call23 (restartC (by omega) wr2 ok2.sm (by rw [s3]; exact Nat.zero_le _) (bs := [])) [0] rfl [0] rfl ?_)
      rintro _ _ _ ⟨gs2, rfl, rfl, rfl⟩
      have e6 : foundE (st2.started [] gs2) [97] = 0 := by simp [foundE, s6, s7, aget]
      have e7 : readB (st2.started [] gs2) [97] = want := by simp [readB, e6, s6, aget]
      refine hend <| hsub (ρ' := [(14, _), (59, _), (13, _), (12, _), (11, _), (39, _), (10, _), (9, _), (8, _), (7, _), (28, _), (6, _), (5, _), (4, _), (0, _), (1, _)]) ⟨rfl, rfl, rfl, rfl, rfl, rfl, rfl, rfl, rfl, rfl, rfl, rfl, rfl, rfl, rfl, rfl, trivial⟩ <| hmemQ (X' := [_, _, _, _]) (S' := [_, _]) (fun _ m => m) <| hthen <| hseq <| hreg <| hy (fun _ => y_move rfl) <| ?_
      refine hx (xh_call rfl Try.call22 (readC ((ok3 _).sm)) [0] rfl [] rfl ?_)
      rintro _ _ _ ⟨v4, rfl, rfl, rfl⟩
      refine hfactL (fun m => (m.own 1 rfl).slice) ?_
      rintro ⟨A_x4, c_x4, rfl, hc_x4⟩
      refine hfactL (fun m => (m.ord 1 rfl).2.1) fun hA_x4 => ?_
      rw [e6, e7]
      rw [e7, hml] at hA_x4 hc_x4
      rw [hml]
      refine hy (fun _ => y_move rfl) <| hy (fun _ => y_extract rfl rfl) <| hy (fun _ => y_extract rfl rfl) <| hy (fun _ => y_assign rfl) <| hy (fun _ => y_assign rfl) <| hend <| hsub (ρ' := [(17, _), (16, _), (14, _), (59, _), (13, _), (12, _), (11, _), (39, _), (10, _), (9, _), (8, _), (7, _), (28, _), (6, _), (5, _), (4, _), (0, _), (1, _)]) ⟨rfl, rfl, rfl, rfl, rfl, rfl, rfl, rfl, rfl, rfl, rfl, rfl, rfl, rfl, rfl, rfl, rfl, rfl, trivial⟩ <| hmemQ (X' := [_, _, _, _, _]) (S' := [_, _]) (fun _ m => m) <| hthen <| hseq <| hreg <| hy (fun _ => y_move rfl) <| ?_
      refine hx (xh_call rfl Try.call17 (fewC (by omega) (by omega) (m := 20)) [] rfl [1] rfl ?_)
      rintro _ _ _ ⟨v5, rfl, rfl, rfl⟩
      refine hfactL (fun m => (m.own 0 rfl).slice) ?_
      rintro ⟨A_x5, c_x5, rfl, hc_x5⟩
      refine hfactL (fun m => (m.ord 0 rfl).2.1) fun hA_x5 => ?_
      have hmm : min n 20 = mm := by rw [← hml, ← hwant, List.length_take, hl_r]; omega
      rw [hwant, hmm]
      rw [hmm] at hA_x5 hc_x5
      refine hy (fun m => y_b2s rfl Try.underlying29 Try.underlying5 Try.underlying9 (m.ord 0 rfl)) <| hy (fun _ => y_assign rfl) <| hend <| hsub (ρ' := [(18, _), (17, _), (16, _), (14, _), (59, _), (13, _), (12, _), (11, _), (39, _), (10, _), (9, _), (8, _), (7, _), (28, _), (6, _), (5, _), (4, _), (0, _), (1, _)]) ⟨rfl, rfl, rfl, rfl, rfl, rfl, rfl, rfl, rfl, rfl, rfl, rfl, rfl, rfl, rfl, rfl, rfl, rfl, rfl, trivial⟩ <| hmemQ (X' := [_, _, _, _, _, _]) (S' := [_, _]) (fun _ m => m) <| hthen <| hseq <| hreg <| hy (fun _ => y_move rfl) <| hy (fun _ => y_eql rfl rfl) <| hy (fun _ => y_move rfl) <| hyg (o := _) rfl rfl rfl (fun _ => y_move rfl) <| hyg (o := _) rfl rfl rfl (fun _ => y_eql rfl rfl) <| hy (fun _ => y_pickT rfl rfl) <| hy (fun _ => y_move rfl) <| hyg (o := _) rfl rfl rfl (fun _ => y_move rfl) <| hyg (o := _) rfl rfl rfl (fun _ => y_eql rfl rfl) <| hy (fun _ => y_pickT rfl rfl) <| hy (fun _ => y_move rfl) <| hyg (o := _) rfl rfl rfl (fun _ => y_move rfl) <| hyg (o := _) rfl rfl rfl (fun _ => y_eql rfl rfl) <| hy (fun _ => y_pickT rfl rfl) <| hy (fun _ => y_move rfl) <| hyg (o := _) rfl rfl rfl (fun _ => y_move rfl) <| hyg (o := _) rfl rfl rfl (fun m => y_b2s rfl Try.underlying29 Try.underlying5 Try.underlying9 (m.ord 3 rfl)) <| hyg (o := _) rfl rfl rfl (fun _ => y_move rfl) <| hyg (o := _) rfl rfl rfl (fun _ => yT (y_seq rfl rfl) ((decide_eq_true rfl))) <| hy (fun _ => y_pickT rfl rfl) <| hy (fun _ => y_move rfl) <| hyg (o := _) rfl rfl rfl (fun _ => y_move rfl) <| hyg (o := _) rfl rfl rfl (fun m => y_b2s rfl Try.underlying29 Try.underlying5 Try.underlying9 (m.ord 2 rfl)) <| hyg (o := _) rfl rfl rfl (fun _ => y_move rfl) <| hyg (o := _) rfl rfl rfl (fun _ => yT (y_seq rfl rfl) ((decide_eq_true rfl))) <| hy (fun _ => y_pickT rfl rfl) <| hy (fun _ => y_move rfl) <| ?_
      refine hxg (o := _) rfl rfl rfl (xh_call rfl Try.call20 (lives12C) [] rfl [] rfl ?_)
      rintro _ _ _ ⟨rfl, rfl, rfl⟩
      refine hy (fun _ => y_pickT rfl rfl) <| hy (fun _ => y_assign rfl) <| hend <| hsub (ρ' := [(4, _), (18, _), (17, _), (16, _), (14, _), (59, _), (13, _), (12, _), (11, _), (39, _), (10, _), (9, _), (8, _), (7, _), (28, _), (6, _), (5, _), (0, _), (1, _)]) ⟨rfl, rfl, rfl, rfl, rfl, rfl, rfl, rfl, rfl, rfl, rfl, rfl, rfl, rfl, rfl, rfl, rfl, rfl, rfl, trivial⟩ <| hmemQ (X' := [_, _, _, _, _, _]) (S' := [_, _]) (fun _ m => m) <| hthen <| hret <| ?_
      exact hret1 trivial rfl rfl [] rfl [] rfl ⟨rfl, rfl, rfl⟩
theorem diskOwns (A : Option Addr) (n c : Nat) (l : List UInt8) (y : UInt8) (W : World) (hr : Rd W 1 A n (b8s l)) (hc : n ≤ c) (hn : n ≤ 140737488351232) :
    Calls Try.prog 5 #[.slice A n c, B8 y] W fun e w' => e = .returned (.bool true) ∧ Fr No W w' :=
  con_calls (diskOwnsC hc hn) (by
    intro s hs
    obtain rfl := List.mem_singleton.1 hs
    exact hr)
end Go.Proofs.Ytpcgpnijhpcbeaa
