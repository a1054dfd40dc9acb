/- Contracts over things in memory, from contracts over worlds: bytes, sums, digests. -/
import Derived.Test.YtpcgpnijhpcbeaaTake
import Derived.Test.YtpcgpnijhpcbeaaMem3
set_option linter.unusedVariables false
set_option linter.unusedSimpArgs false
set_option maxRecDepth 20000
namespace Go.Proofs.Ytpcgpnijhpcbeaa
open Go.Eng Go.Hx
theorem bytesEqualC {A A1 : Option Addr} {n c n1 c1 : Nat} {l l1 : List UInt8} : Con Try.prog 77 [.slice A n c, .slice A1 n1 c1] [] [RRd 1 A n (b8s l), RRd 1 A1 n1 (b8s l1)] (fun v_ X_ S_ => v_ = (.bool (decide (l = l1))) ∧ X_ = [] ∧ S_ = []) := by
  exact con_pure fun m => Calls.mono (bytesEqual A n c l A1 n1 c1 l1 _ (m.rd 0 rfl) (m.rd 1 rfl)) (fun e w' ⟨h, hw⟩ => ⟨_, h, ⟨rfl, rfl, rfl⟩, hw ▸ Fr.refl _ _⟩)
theorem cloneC {A : Option Addr} {n c : Nat} {l : List UInt8} (hn : n ≤ 140737488351232) : Con Try.prog 49 [.slice A n c] [] [RRd 1 A n (b8s l)] (fun v_ X_ S_ => ∃ v, v_ = v ∧ X_ = [ROwn 5 1 v n (b8s l)] ∧ S_ = []) := by
  exact con_own1 fun m => Calls.mono (clone A n c l _ (m.rd 0 rfl) hn) (fun e w' ⟨v, h, ho, hf⟩ => ⟨v, v, _, _, _, _, h, ⟨v, rfl, rfl, rfl⟩, ho, hf⟩)
theorem crcPutC {A : Option Addr} {n c : Nat} {l : List UInt8} (hn : n ≤ 70368744177664) : Con Try.prog 56 [.slice A n c] [] [RRd 1 A n (b8s l)] (fun v_ X_ S_ => ∃ v, v_ = v ∧ X_ = [ROwn 5 1 v (n + 4) (b8s (putL l))] ∧ S_ = []) := by
  exact con_own1 fun m => Calls.mono (crcPut A n c l _ (m.rd 0 rfl) hn) (fun e w' ⟨v, h, ho, hf⟩ => ⟨v, v, _, _, _, _, h, ⟨v, rfl, rfl, rfl⟩, ho, hf⟩)
def takeB (l : List UInt8) : List UInt8 := if takeE l = 0 then l.take (l.length - 4) else []
theorem takeB_le (l : List UInt8) : (takeB l).length ≤ l.length := by unfold takeB; split <;> simp
theorem takeB_len {l : List UInt8} (h : takeE l = 0) : (takeB l).length = l.length - 4 := by rw [takeB, if_pos h, List.length_take]; omega
theorem takeE_2 {l : List UInt8} (h : l.length < 4) : takeE l = 2 ∧ takeB l = [] := by rw [takeB, takeE, if_pos h]; exact ⟨rfl, rfl⟩
theorem takeE_7 {l : List UInt8} (h : ¬ l.length < 4) (h2 : ¬ putL (l.take (l.length - 4)) = l) : takeE l = 7 ∧ takeB l = [] := by rw [takeB, takeE, if_neg h, if_neg h2]; exact ⟨rfl, rfl⟩
theorem takeE_0 {l : List UInt8} (h : ¬ l.length < 4) (h2 : putL (l.take (l.length - 4)) = l) : takeE l = 0 ∧ takeB l = l.take (l.length - 4) := by rw [takeB, takeE, if_neg h, if_pos h2]; exact ⟨rfl, rfl⟩
theorem crcTakeC {A : Option Addr} {n c : Nat} {l : List UInt8} (hc : n ≤ c) (hn : n ≤ 70368744177664) : Con Try.prog 64 [.slice A n c] [] [RRd 1 A n (b8s l)] (fun v_ X_ S_ => ∃ v, v_ = (.tuple #[v, .int .i64 (takeE l)]) ∧ X_ = [ROwn 5 1 v (takeB l).length (b8s (takeB l))] ∧ S_ = []) := by
  refine henter (N := 21) Try.func64 rfl rfl (by simp) fun b => ?_
  refine hfactC (fun m => rdB (m.rd 0 rfl)) ?_
  rintro ⟨hl_r, hA_r⟩
  refine hseq <| hreg <| hy (fun _ => y_assign rfl) <| hy (fun _ => y_assign rfl) <| hend <| hthen <| hseq <| hreg <| hy (fun _ => y_move rfl) <| hy (fun _ => y_lenS rfl Try.underlying29) <| hy (fun _ => y_sub rfl rfl (w64 (by omega) (by omega))) <| hy (fun _ => y_assign rfl) <| hend <| hsub (ρ' := [(4, _), (3, _), (2, _), (0, _)]) ⟨rfl, rfl, rfl, rfl, trivial⟩ <| hthen <| hseq <| hseq <| hreg <| hy (fun _ => y_move rfl) <| hy (fun _ => y_lss rfl rfl) <| hend <| hsub (ρ' := [(9, _), (4, _), (3, _), (2, _), (0, _)]) ⟨rfl, rfl, rfl, rfl, rfl, trivial⟩ <| hthen <| ?_
  refine hif rfl (fun h => ?_) (fun h => ?_)
  · obtain ⟨e1, e2⟩ := takeE_2 (show l.length < 4 by omega)
    rw [e1, e2]
    refine hseq <| hreg <| hy (fun _ => y_assign rfl) <| hy (fun _ => y_assign rfl) <| hend <| hthen <| hret <| hthen_ret <| ?_
    refine hmemQ (fun w m => m.addX (r' := ROwn 5 1 (.slice none 0 0) 0 []) (.refl _ _) (Own.nil _ _ _ _) (fun k hk => hk.elim)) ?_
    exact hret2 trivial rfl rfl rfl [0] rfl [] rfl ⟨_, rfl, rfl, rfl⟩
  · refine hmemC (fun w m => m.asV 0 rfl (View.take (k := n - 4) (by omega))) ?_
    refine hfactC (fun m => rdB (m.rd 0 rfl)) ?_
    rintro ⟨hl_r2, hA_r2⟩
    refine hcskip <| hthen <| hseq <| hseq <| hreg <| hy (fun _ => y_move rfl) <| hy (fun _ => y_move rfl) <| hy (fun _ => y_slTo rfl rfl Try.underlying29 sz5 (show ((n - 4 : Nat) : Int) = (n : Int) - 4 by omega) (by omega)) <| ?_
    refine hx (xh_call rfl Try.call56 (crcPutC (by omega)) [] rfl [0] rfl ?_)
    rintro _ _ _ ⟨v, rfl, rfl, rfl⟩
    refine hfactL (fun m => (m.own 0 rfl).slice) ?_
    rintro ⟨A_x, c_x, rfl, hc_x⟩
    refine hfactL (fun m => (m.ord 0 rfl).2.1) fun hA_x => ?_
    refine hy (fun _ => y_move rfl) <| ?_
    refine hx (xh_calll rfl Try.call77 (bytesEqualC) [] rfl (.x 0 rfl .own (.s 1 rfl .nil)) ?_)
    rintro _ _ _ ⟨rfl, rfl, rfl⟩
    refine ⟨rfl, ?_⟩
    refine hy (fun _ => (y_notp rfl)) <| hend <| hsub (ρ' := [(16, _), (9, _), (4, _), (3, _), (2, _), (0, _)]) ⟨rfl, rfl, rfl, rfl, rfl, rfl, trivial⟩ <| hmemQ (X' := [_]) (S' := [_, _]) (fun _ m => m) <| hthen <| ?_
    refine hif rfl (fun h2 => ?_) (fun h2 => ?_)
    · obtain ⟨e1, e2⟩ := takeE_7 (l := l) (by omega) (by rw [hl_r]; exact h2)
      rw [e1, e2]
      refine hseq <| hreg <| hy (fun _ => y_assign rfl) <| hy (fun _ => y_assign rfl) <| hend <| hthen <| hret <| hthen_ret <| ?_
      refine hmemQ (fun w m => m.addX (r' := ROwn 5 1 (.slice none 0 0) 0 []) (.refl _ _) (Own.nil _ _ _ _) (fun k hk => hk.elim)) ?_
      exact hret2 trivial rfl rfl rfl [0] rfl [] rfl ⟨_, rfl, rfl, rfl⟩
    · obtain ⟨e1, e2⟩ := takeE_0 (l := l) (by omega) (by rw [hl_r]; exact Decidable.not_not.1 h2)
      rw [e1, e2, hl_r]
      refine hcskip <| hthen <| hseq <| hreg <| hy (fun _ => y_move rfl) <| hy (fun _ => y_move rfl) <| hy (fun _ => y_slTo rfl rfl Try.underlying29 sz5 (show ((n - 4 : Nat) : Int) = (n : Int) - 4 by omega) (by omega)) <| ?_
      refine hx (xh_call rfl Try.call49 (cloneC (by omega)) [] rfl [0] rfl ?_)
      rintro _ _ _ ⟨v2, rfl, rfl, rfl⟩
      refine hfactL (fun m => (m.own 0 rfl).slice) ?_
      rintro ⟨A_x2, c_x2, rfl, hc_x2⟩
      refine hfactL (fun m => (m.ord 0 rfl).2.1) fun hA_x2 => ?_
      refine hy (fun _ => y_assign rfl) <| hy (fun _ => y_assign rfl) <| hend <| hsub (ρ' := [(3, _), (2, _), (16, _), (9, _), (4, _), (0, _)]) ⟨rfl, rfl, rfl, rfl, rfl, rfl, trivial⟩ <| hmemQ (X' := [_, _]) (S' := [_, _]) (fun _ m => m) <| hthen <| hret <| ?_
      exact hret2 trivial rfl rfl rfl [0] rfl [] rfl ⟨_, rfl, (by rw [List.length_take, hl_r, Nat.min_eq_left (by omega)]), rfl⟩
end Go.Proofs.Ytpcgpnijhpcbeaa
