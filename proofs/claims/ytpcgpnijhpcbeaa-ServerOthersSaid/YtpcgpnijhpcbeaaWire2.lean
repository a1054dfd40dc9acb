/- Contracts: what is said (wire): Answer, Write. -/
import Derived.Test.YtpcgpnijhpcbeaaWire1
set_option linter.unusedVariables false
set_option linter.unusedSimpArgs false
set_option maxRecDepth 20000
namespace Go.Proofs.Ytpcgpnijhpcbeaa
open Go.Eng Go.Hx
/-- when an answer may be -/
def AnsOk (k s : Int) (n : Nat) (has : Bool) (nf : Nat) : Prop := k = 1 ∧ WMay k s n ∧ (has = true → nf ≤ 4106)
def AnsW (k s : Int) (nm : List UInt8) (n : Nat) (has : Bool) (nf : Nat) (l : List UInt8) (k1 s1 : Int) (nm1 body : List UInt8) (err : Int) : Prop :=
  (AnsOk k s n has nf ∧ err = 0 ∧ k1 = (if has then 2 else 3) ∧ s1 = s ∧ nm1 = nm ∧ body = if has then l else []) ∨
  (¬ AnsOk k s n has nf ∧ err = 1 ∧ k1 = 0 ∧ s1 = 0 ∧ nm1 = zm ∧ body = [])
theorem ans_may {k s : Int} {n m : Nat} {has : Bool} (h1 : k = 1) (h : WMay k s n) (hm : has = false → m = 0) : WMay (if has then 2 else 3) s m ↔ (has = true → m ≤ 4106) := by
  unfold WMay at h ⊢
  cases has
  · simp [hm rfl]; omega
  · simp; omega
theorem wanswerC {k s : Int} {nm : List UInt8} {A : Option Addr} {n c : Nat} {Af : Option Addr} {nf cf : Nat} {l : List UInt8} {has : Bool} (hm : nm.length = 32) (hf : nf ≤ 140737488351232) : Con Try.prog 44 [.agg (mc k s nm (.slice A n c)).toArray, .slice Af nf cf, .bool has] [] [RRd 1 Af nf (b8s l)] (fun v_ X_ S_ => ∃ k1 s1 nm1 body v err bn, v_ = (.tuple #[.agg (mc k1 s1 nm1 v).toArray, .int .i64 err]) ∧ X_ = [ROwn 5 1 v bn (b8s body)] ∧ S_ = [] ∧ (nm1.length = 32 ∧ body.length = bn ∧ AnsW k s nm n has nf l k1 s1 nm1 body err)) := by
  have z32 : zm.length = 32 := by simp [zm]
  refine henter (N := 34) Try.func44 rfl rfl (by simp) fun b => ?_
  refine hfactC (fun m => rdB (m.rd 0 rfl)) ?_
  rintro ⟨hl_f, hA_f⟩
  refine hseq <| hreg <| ?_
  refine hx (xh_box rfl (fun g3 => ?_))
  refine hmemL (fun w m => m.eqX 0 rfl (show _ = RBlk g3 93 (mc k s nm (.slice A n c)) from congrArg (RBlk _ _) (cells_agg _))) ?_
  refine hx (xh_alloc ti93 (fun g6 => ?_))
  refine hy (fun _ => y_assign rfl) <| hend <| hmemQ (X' := [_, _]) (S' := [_]) (fun _ m => m) <| hthen <| hseq <| hreg <| hy (fun _ => y_fld rfl fa93_1 (by decide)) <| hy (fun m => y_ld1 rfl ag3 (ld_blk (m.blk 1 rfl) rfl)) <| hy (fun _ => y_fld rfl fa93_2 (by decide)) <| hy (fun m => yV (y_ldN rfl ag23 sz23 (by rw [b8s_length]; exact hm) (mc_nm (m.blk 1 rfl))) ((rfl : Value.agg _ = .agg (b8s nm).toArray))) <| hy (fun _ => y_build ti93 rfl rfl (by kernel_rfl) (bldM3 (k0 := 0) (s0 := 0) (zi := zm) (z := .slice none 0 0) pl93_0 pl93_1 pl93_2 z32 hm)) <| ?_
  refine hx (xh_alloc ti93 (fun g8 => ?_))
  refine hx0 (xh_stA 0 rfl rfl rfl sz93 (mc_len hm) (mc_one (v := .slice none 0 0) rfl) rfl ?_)
  refine hmemL (fun w m => m.eqX 0 rfl (show _ = RBlk g8 93 (mc 3 s nm (.slice none 0 0)) from rfl)) ?_
  cases has
  · refine hend <| hsub (ρ' := [(8, _), (7, _), (6, _), (3, _), (0, _), (1, _), (2, _)]) ⟨rfl, rfl, rfl, rfl, rfl, rfl, rfl, trivial⟩ <| hmemQ (X' := [_, _, _]) (S' := [_]) (fun _ m => m) <| hthen <| hseq <| hseq <| hreg <| hy (fun _ => y_move rfl) <| hend <| hthen <| ?_
    refine hiff rfl (rfl) ?_
    refine hmemC (fun w m => m.addX (r' := ROwn 5 1 (.slice none 0 0) 0 []) (.refl _ _) (Own.nil _ _ _ _) (fun k hk => hk.elim)) ?_
    by_cases h1 : k = 1
    · by_cases hW : WMay k s n
      · by_cases hO : WMay 3 s 0
        · refine hcskip <| hthen <| hseq <| hseq <| hreg <| hy (fun _ => y_fld rfl fa93_0 (by decide)) <| hy (fun m => y_ld1 rfl ag3 (ld_blk (m.blk 3 rfl) rfl)) <| hy (fun _ => yF (y_neq rfl rfl) ((decide_eq_false (not_not_intro h1)))) <| hy (fun _ => y_move rfl) <| hyg (o := _) rfl rfl rfl (fun m => y_ldN rfl ag93 sz93 (mc_len hm) ((m.blk 3 rfl).cells0)) <| ?_
          refine hxg (o := _) rfl rfl rfl (xh_call rfl Try.call68 (mayC (by omega)) [] rfl [] rfl ?_)
          rintro _ _ _ ⟨rfl, rfl, rfl⟩
          refine hyg (o := _) rfl rfl rfl (fun _ => yF (y_notp rfl) ((decide_eq_false (not_not_intro hW)))) <| hy (fun _ => y_pickF rfl rfl) <| hy (fun _ => y_move rfl) <| hyg (o := _) rfl rfl rfl (fun m => y_ldN rfl ag93 sz93 (mc_len hm) ((m.blk 1 rfl).cells0)) <| ?_
          refine hxg (o := _) rfl rfl rfl (xh_call rfl Try.call68 (mayC (by omega)) [] rfl [] rfl ?_)
          rintro _ _ _ ⟨rfl, rfl, rfl⟩
          refine hyg (o := _) rfl rfl rfl (fun _ => yF (y_notp rfl) ((decide_eq_false (not_not_intro hO)))) <| hy (fun _ => y_pickF rfl rfl) <| hend <| hsub (ρ' := [(31, _), (14, _), (8, _), (7, _), (6, _), (3, _), (0, _), (1, _), (2, _)]) ⟨rfl, rfl, rfl, rfl, rfl, rfl, rfl, rfl, rfl, trivial⟩ <| hmemQ (X' := [_, _, _, _]) (S' := [_]) (fun _ m => m) <| hthen <| ?_
          refine hiff rfl (rfl) ?_
          refine hcskip <| hthen <| hseq <| hreg <| hy (fun m => y_ldN rfl ag93 sz93 (mc_len hm) ((m.blk 1 rfl).cells0)) <| ?_
          refine hx0 (xh_stA 2 rfl rfl rfl sz93 (mc_len hm) (mc_one rfl) rfl ?_)
          refine hy (fun _ => y_assign rfl) <| hend <| hsub (ρ' := [(7, _), (31, _), (14, _), (8, _), (6, _), (3, _), (0, _), (1, _), (2, _)]) ⟨rfl, rfl, rfl, rfl, rfl, rfl, rfl, rfl, rfl, trivial⟩ <| hmemQ (X' := [_, _, _, _]) (S' := [_]) (fun _ m => m) <| hthen <| hret <| ?_
          exact hretN1 trivial rfl rfl rfl ag93 sz93 (mc_len hm) (fun m => (m.blk 0 rfl).cells0) [1] rfl [] rfl ⟨_, _, _, [], _, _, _, rfl, rfl, rfl, ⟨hm, rfl, .inl ⟨⟨h1, hW, (fun e => by cases e)⟩, rfl, rfl, rfl, rfl, rfl⟩⟩⟩
        · refine hcskip <| hthen <| hseq <| hseq <| hreg <| hy (fun _ => y_fld rfl fa93_0 (by decide)) <| hy (fun m => y_ld1 rfl ag3 (ld_blk (m.blk 3 rfl) rfl)) <| hy (fun _ => yF (y_neq rfl rfl) ((decide_eq_false (not_not_intro h1)))) <| hy (fun _ => y_move rfl) <| hyg (o := _) rfl rfl rfl (fun m => y_ldN rfl ag93 sz93 (mc_len hm) ((m.blk 3 rfl).cells0)) <| ?_
          refine hxg (o := _) rfl rfl rfl (xh_call rfl Try.call68 (mayC (by omega)) [] rfl [] rfl ?_)
          rintro _ _ _ ⟨rfl, rfl, rfl⟩
          refine hyg (o := _) rfl rfl rfl (fun _ => yF (y_notp rfl) ((decide_eq_false (not_not_intro hW)))) <| hy (fun _ => y_pickF rfl rfl) <| hy (fun _ => y_move rfl) <| hyg (o := _) rfl rfl rfl (fun m => y_ldN rfl ag93 sz93 (mc_len hm) ((m.blk 1 rfl).cells0)) <| ?_
          refine hxg (o := _) rfl rfl rfl (xh_call rfl Try.call68 (mayC (by omega)) [] rfl [] rfl ?_)
          rintro _ _ _ ⟨rfl, rfl, rfl⟩
          refine hyg (o := _) rfl rfl rfl (fun _ => yT (y_notp rfl) ((decide_eq_true hO))) <| hy (fun _ => y_pickF rfl rfl) <| hend <| hsub (ρ' := [(31, _), (14, _), (8, _), (7, _), (6, _), (3, _), (0, _), (1, _), (2, _)]) ⟨rfl, rfl, rfl, rfl, rfl, rfl, rfl, rfl, rfl, trivial⟩ <| hmemQ (X' := [_, _, _, _]) (S' := [_]) (fun _ m => m) <| hthen <| ?_
          refine hift rfl (rfl) ?_
          refine hseq <| hreg <| hy (fun _ => y_build0 ti93 rfl (by kernel_rfl)) <| ?_
          refine hx0 (xh_stA 2 rfl rfl rfl sz93 (mc_len z32) (mc_one (v := .slice none 0 0) rfl) rfl ?_)
          refine hy (fun _ => y_assign rfl) <| hend <| hsub (ρ' := [(7, _), (31, _), (14, _), (8, _), (6, _), (3, _), (0, _), (1, _), (2, _)]) ⟨rfl, rfl, rfl, rfl, rfl, rfl, rfl, rfl, rfl, trivial⟩ <| hmemQ (X' := [_, _, _, _]) (S' := [_]) (fun _ m => m) <| hthen <| hret <| hthen_ret <| ?_
          refine hmemQ (fun w m => m.addX (r' := ROwn 5 1 (.slice none 0 0) 0 []) (.refl _ _) (Own.nil _ _ _ _) (fun k hk => hk.elim)) ?_
          exact hretN1 trivial rfl rfl rfl ag93 sz93 (mc_len z32) (fun m => (m.blk 1 rfl).cells0) [0] rfl [] rfl ⟨_, _, _, [], _, _, _, rfl, rfl, rfl, ⟨z32, rfl, .inr ⟨(fun h => hO ((ans_may (has := false) h1 hW (fun _ => rfl)).2 (fun e => by cases e))), rfl, rfl, rfl, rfl, rfl⟩⟩⟩
      · refine hcskip <| hthen <| hseq <| hseq <| hreg <| hy (fun _ => y_fld rfl fa93_0 (by decide)) <| hy (fun m => y_ld1 rfl ag3 (ld_blk (m.blk 3 rfl) rfl)) <| hy (fun _ => yF (y_neq rfl rfl) ((decide_eq_false (not_not_intro h1)))) <| hy (fun _ => y_move rfl) <| hyg (o := _) rfl rfl rfl (fun m => y_ldN rfl ag93 sz93 (mc_len hm) ((m.blk 3 rfl).cells0)) <| ?_
        refine hxg (o := _) rfl rfl rfl (xh_call rfl Try.call68 (mayC (by omega)) [] rfl [] rfl ?_)
        rintro _ _ _ ⟨rfl, rfl, rfl⟩
        refine hyg (o := _) rfl rfl rfl (fun _ => yT (y_notp rfl) ((decide_eq_true hW))) <| hy (fun _ => y_pickF rfl rfl) <| hy (fun _ => y_move rfl) <| hskip rfl rfl rfl (by decide) <| hskip rfl rfl rfl (by decide) <| hskip rfl rfl rfl (by decide) <| hy (fun _ => y_pickT rfl rfl) <| hend <| hsub (ρ' := [(31, _), (14, _), (8, _), (7, _), (6, _), (3, _), (0, _), (1, _), (2, _)]) ⟨rfl, rfl, rfl, rfl, rfl, rfl, rfl, rfl, rfl, trivial⟩ <| hmemQ (X' := [_, _, _, _]) (S' := [_]) (fun _ m => m) <| hthen <| ?_
        refine hift rfl (rfl) ?_
        refine hseq <| hreg <| hy (fun _ => y_build0 ti93 rfl (by kernel_rfl)) <| ?_
        refine hx0 (xh_stA 2 rfl rfl rfl sz93 (mc_len z32) (mc_one (v := .slice none 0 0) rfl) rfl ?_)
        refine hy (fun _ => y_assign rfl) <| hend <| hsub (ρ' := [(7, _), (31, _), (14, _), (8, _), (6, _), (3, _), (0, _), (1, _), (2, _)]) ⟨rfl, rfl, rfl, rfl, rfl, rfl, rfl, rfl, rfl, trivial⟩ <| hmemQ (X' := [_, _, _, _]) (S' := [_]) (fun _ m => m) <| hthen <| hret <| hthen_ret <| ?_
        refine hmemQ (fun w m => m.addX (r' := ROwn 5 1 (.slice none 0 0) 0 []) (.refl _ _) (Own.nil _ _ _ _) (fun k hk => hk.elim)) ?_
        exact hretN1 trivial rfl rfl rfl ag93 sz93 (mc_len z32) (fun m => (m.blk 1 rfl).cells0) [0] rfl [] rfl ⟨_, _, _, [], _, _, _, rfl, rfl, rfl, ⟨z32, rfl, .inr ⟨(fun h => hW h.2.1), rfl, rfl, rfl, rfl, rfl⟩⟩⟩
    · refine hcskip <| hthen <| hseq <| hseq <| hreg <| hy (fun _ => y_fld rfl fa93_0 (by decide)) <| hy (fun m => y_ld1 rfl ag3 (ld_blk (m.blk 3 rfl) rfl)) <| hy (fun _ => yT (y_neq rfl rfl) ((decide_eq_true h1))) <| hy (fun _ => y_move rfl) <| hskip rfl rfl rfl (by decide) <| hskip rfl rfl rfl (by decide) <| hskip rfl rfl rfl (by decide) <| hy (fun _ => y_pickT rfl rfl) <| hy (fun _ => y_move rfl) <| hskip rfl rfl rfl (by decide) <| hskip rfl rfl rfl (by decide) <| hskip rfl rfl rfl (by decide) <| hy (fun _ => y_pickT rfl rfl) <| hend <| hsub (ρ' := [(31, _), (14, _), (8, _), (7, _), (6, _), (3, _), (0, _), (1, _), (2, _)]) ⟨rfl, rfl, rfl, rfl, rfl, rfl, rfl, rfl, rfl, trivial⟩ <| hthen <| ?_
      refine hift rfl (rfl) ?_
      refine hseq <| hreg <| hy (fun _ => y_build0 ti93 rfl (by kernel_rfl)) <| ?_
      refine hx0 (xh_stA 2 rfl rfl rfl sz93 (mc_len z32) (mc_one (v := .slice none 0 0) rfl) rfl ?_)
      refine hy (fun _ => y_assign rfl) <| hend <| hsub (ρ' := [(7, _), (31, _), (14, _), (8, _), (6, _), (3, _), (0, _), (1, _), (2, _)]) ⟨rfl, rfl, rfl, rfl, rfl, rfl, rfl, rfl, rfl, trivial⟩ <| hmemQ (X' := [_, _, _, _]) (S' := [_]) (fun _ m => m) <| hthen <| hret <| hthen_ret <| ?_
      refine hmemQ (fun w m => m.addX (r' := ROwn 5 1 (.slice none 0 0) 0 []) (.refl _ _) (Own.nil _ _ _ _) (fun k hk => hk.elim)) ?_
      exact hretN1 trivial rfl rfl rfl ag93 sz93 (mc_len z32) (fun m => (m.blk 1 rfl).cells0) [0] rfl [] rfl ⟨_, _, _, [], _, _, _, rfl, rfl, rfl, ⟨z32, rfl, .inr ⟨(fun h => h1 h.1), rfl, rfl, rfl, rfl, rfl⟩⟩⟩
  · refine hend <| hsub (ρ' := [(8, _), (7, _), (6, _), (3, _), (0, _), (1, _), (2, _)]) ⟨rfl, rfl, rfl, rfl, rfl, rfl, rfl, trivial⟩ <| hthen <| hseq <| hseq <| hreg <| hy (fun _ => y_move rfl) <| hend <| hthen <| ?_
    refine hift rfl (rfl) ?_
    refine hreg <| hy (fun _ => y_move rfl) <| ?_
    refine hx (xh_call rfl Try.call49 (cloneC (by omega)) [] rfl [0] rfl ?_)
    rintro _ _ _ ⟨v, rfl, rfl, rfl⟩
    refine hfactL (fun m => (m.own 0 rfl).slice) ?_
    rintro ⟨A_x, c_x, rfl, hc_x⟩
    refine hfactL (fun m => (m.ord 0 rfl).2.1) fun hA_x => ?_
    refine hy (fun _ => y_fld rfl fa93_0 (by decide)) <| ?_
    refine hx0 (xh_st1a 1 rfl rfl rfl sz3 rfl (by rw [mc_len hm]; decide) ?_)
    refine hmemL (fun w m => m.eqX 0 rfl (show _ = RBlk g8 93 (mc 2 s nm (.slice none 0 0)) from rfl)) ?_
    refine hy (fun _ => y_fld rfl fa93_3 (by decide)) <| ?_
    refine hx0 (xh_st1a 0 rfl rfl rfl sz29 rfl (by rw [mc_len hm]; decide) ?_)
    refine hmemL (fun w m => m.eqX 0 rfl (show _ = RBlk g8 93 (mc 2 s nm (.slice A_x nf c_x)) from congrArg (RBlk _ _) (mc_set hm))) ?_
    by_cases h1 : k = 1
    · by_cases hW : WMay k s n
      · by_cases hO : WMay 2 s nf
        · refine hend <| hsub (ρ' := [(14, _), (8, _), (7, _), (6, _), (3, _), (0, _), (1, _), (2, _)]) ⟨rfl, rfl, rfl, rfl, rfl, rfl, rfl, rfl, trivial⟩ <| hmemQ (X' := [_, _, _, _]) (S' := [_]) (fun _ m => m) <| hthen <| hseq <| hseq <| hreg <| hy (fun _ => y_fld rfl fa93_0 (by decide)) <| hy (fun m => y_ld1 rfl ag3 (ld_blk (m.blk 3 rfl) rfl)) <| hy (fun _ => yF (y_neq rfl rfl) ((decide_eq_false (not_not_intro h1)))) <| hy (fun _ => y_move rfl) <| hyg (o := _) rfl rfl rfl (fun m => y_ldN rfl ag93 sz93 (mc_len hm) ((m.blk 3 rfl).cells0)) <| ?_
          refine hxg (o := _) rfl rfl rfl (xh_call rfl Try.call68 (mayC (by omega)) [] rfl [] rfl ?_)
          rintro _ _ _ ⟨rfl, rfl, rfl⟩
          refine hyg (o := _) rfl rfl rfl (fun _ => yF (y_notp rfl) ((decide_eq_false (not_not_intro hW)))) <| hy (fun _ => y_pickF rfl rfl) <| hy (fun _ => y_move rfl) <| hyg (o := _) rfl rfl rfl (fun m => y_ldN rfl ag93 sz93 (mc_len hm) ((m.blk 0 rfl).cells0)) <| ?_
          refine hxg (o := _) rfl rfl rfl (xh_call rfl Try.call68 (mayC (by omega)) [] rfl [] rfl ?_)
          rintro _ _ _ ⟨rfl, rfl, rfl⟩
          refine hyg (o := _) rfl rfl rfl (fun _ => yF (y_notp rfl) ((decide_eq_false (not_not_intro hO)))) <| hy (fun _ => y_pickF rfl rfl) <| hend <| hsub (ρ' := [(31, _), (14, _), (8, _), (7, _), (6, _), (3, _), (0, _), (1, _), (2, _)]) ⟨rfl, rfl, rfl, rfl, rfl, rfl, rfl, rfl, rfl, trivial⟩ <| hmemQ (X' := [_, _, _, _]) (S' := [_]) (fun _ m => m) <| hthen <| ?_
          refine hiff rfl (rfl) ?_
          refine hcskip <| hthen <| hseq <| hreg <| hy (fun m => y_ldN rfl ag93 sz93 (mc_len hm) ((m.blk 0 rfl).cells0)) <| ?_
          refine hx0 (xh_stA 2 rfl rfl rfl sz93 (mc_len hm) (mc_one rfl) rfl ?_)
          refine hy (fun _ => y_assign rfl) <| hend <| hsub (ρ' := [(7, _), (31, _), (14, _), (8, _), (6, _), (3, _), (0, _), (1, _), (2, _)]) ⟨rfl, rfl, rfl, rfl, rfl, rfl, rfl, rfl, rfl, trivial⟩ <| hmemQ (X' := [_, _, _, _]) (S' := [_]) (fun _ m => m) <| hthen <| hret <| ?_
          exact hretN1 trivial rfl rfl rfl ag93 sz93 (mc_len hm) (fun m => (m.blk 0 rfl).cells0) [2] rfl [] rfl ⟨_, _, _, l, _, _, _, rfl, rfl, rfl, ⟨hm, hl_f, .inl ⟨⟨h1, hW, ((ans_may (has := true) h1 hW (fun e => by cases e)).1 hO)⟩, rfl, rfl, rfl, rfl, rfl⟩⟩⟩
        · refine hend <| hsub (ρ' := [(14, _), (8, _), (7, _), (6, _), (3, _), (0, _), (1, _), (2, _)]) ⟨rfl, rfl, rfl, rfl, rfl, rfl, rfl, rfl, trivial⟩ <| hthen <| hseq <| hseq <| hreg <| hy (fun _ => y_fld rfl fa93_0 (by decide)) <| hy (fun m => y_ld1 rfl ag3 (ld_blk (m.blk 3 rfl) rfl)) <| hy (fun _ => yF (y_neq rfl rfl) ((decide_eq_false (not_not_intro h1)))) <| hy (fun _ => y_move rfl) <| hyg (o := _) rfl rfl rfl (fun m => y_ldN rfl ag93 sz93 (mc_len hm) ((m.blk 3 rfl).cells0)) <| ?_
          refine hxg (o := _) rfl rfl rfl (xh_call rfl Try.call68 (mayC (by omega)) [] rfl [] rfl ?_)
          rintro _ _ _ ⟨rfl, rfl, rfl⟩
          refine hyg (o := _) rfl rfl rfl (fun _ => yF (y_notp rfl) ((decide_eq_false (not_not_intro hW)))) <| hy (fun _ => y_pickF rfl rfl) <| hy (fun _ => y_move rfl) <| hyg (o := _) rfl rfl rfl (fun m => y_ldN rfl ag93 sz93 (mc_len hm) ((m.blk 0 rfl).cells0)) <| ?_
          refine hxg (o := _) rfl rfl rfl (xh_call rfl Try.call68 (mayC (by omega)) [] rfl [] rfl ?_)
          rintro _ _ _ ⟨rfl, rfl, rfl⟩
          refine hyg (o := _) rfl rfl rfl (fun _ => yT (y_notp rfl) ((decide_eq_true hO))) <| hy (fun _ => y_pickF rfl rfl) <| hend <| hsub (ρ' := [(31, _), (14, _), (8, _), (7, _), (6, _), (3, _), (0, _), (1, _), (2, _)]) ⟨rfl, rfl, rfl, rfl, rfl, rfl, rfl, rfl, rfl, trivial⟩ <| hmemQ (X' := [_, _, _, _]) (S' := [_]) (fun _ m => m) <| hthen <| ?_
          refine hift rfl (rfl) ?_
          refine hseq <| hreg <| hy (fun _ => y_build0 ti93 rfl (by kernel_rfl)) <| ?_
          refine hx0 (xh_stA 2 rfl rfl rfl sz93 (mc_len z32) (mc_one (v := .slice none 0 0) rfl) rfl ?_)
          refine hy (fun _ => y_assign rfl) <| hend <| hsub (ρ' := [(7, _), (31, _), (14, _), (8, _), (6, _), (3, _), (0, _), (1, _), (2, _)]) ⟨rfl, rfl, rfl, rfl, rfl, rfl, rfl, rfl, rfl, trivial⟩ <| hmemQ (X' := [_, _, _, _]) (S' := [_]) (fun _ m => m) <| hthen <| hret <| hthen_ret <| ?_
          refine hmemQ (fun w m => m.addX (r' := ROwn 5 1 (.slice none 0 0) 0 []) (.refl _ _) (Own.nil _ _ _ _) (fun k hk => hk.elim)) ?_
          exact hretN1 trivial rfl rfl rfl ag93 sz93 (mc_len z32) (fun m => (m.blk 1 rfl).cells0) [0] rfl [] rfl ⟨_, _, _, [], _, _, _, rfl, rfl, rfl, ⟨z32, rfl, .inr ⟨(fun h => hO ((ans_may (has := true) h1 hW (fun e => by cases e)).2 h.2.2)), rfl, rfl, rfl, rfl, rfl⟩⟩⟩
      · refine hend <| hsub (ρ' := [(14, _), (8, _), (7, _), (6, _), (3, _), (0, _), (1, _), (2, _)]) ⟨rfl, rfl, rfl, rfl, rfl, rfl, rfl, rfl, trivial⟩ <| hthen <| hseq <| hseq <| hreg <| hy (fun _ => y_fld rfl fa93_0 (by decide)) <| hy (fun m => y_ld1 rfl ag3 (ld_blk (m.blk 3 rfl) rfl)) <| hy (fun _ => yF (y_neq rfl rfl) ((decide_eq_false (not_not_intro h1)))) <| hy (fun _ => y_move rfl) <| hyg (o := _) rfl rfl rfl (fun m => y_ldN rfl ag93 sz93 (mc_len hm) ((m.blk 3 rfl).cells0)) <| ?_
        refine hxg (o := _) rfl rfl rfl (xh_call rfl Try.call68 (mayC (by omega)) [] rfl [] rfl ?_)
        rintro _ _ _ ⟨rfl, rfl, rfl⟩
        refine hyg (o := _) rfl rfl rfl (fun _ => yT (y_notp rfl) ((decide_eq_true hW))) <| hy (fun _ => y_pickF rfl rfl) <| hy (fun _ => y_move rfl) <| hskip rfl rfl rfl (by decide) <| hskip rfl rfl rfl (by decide) <| hskip rfl rfl rfl (by decide) <| hy (fun _ => y_pickT rfl rfl) <| hend <| hsub (ρ' := [(31, _), (14, _), (8, _), (7, _), (6, _), (3, _), (0, _), (1, _), (2, _)]) ⟨rfl, rfl, rfl, rfl, rfl, rfl, rfl, rfl, rfl, trivial⟩ <| hmemQ (X' := [_, _, _, _]) (S' := [_]) (fun _ m => m) <| hthen <| ?_
        refine hift rfl (rfl) ?_
        refine hseq <| hreg <| hy (fun _ => y_build0 ti93 rfl (by kernel_rfl)) <| ?_
        refine hx0 (xh_stA 2 rfl rfl rfl sz93 (mc_len z32) (mc_one (v := .slice none 0 0) rfl) rfl ?_)
        refine hy (fun _ => y_assign rfl) <| hend <| hsub (ρ' := [(7, _), (31, _), (14, _), (8, _), (6, _), (3, _), (0, _), (1, _), (2, _)]) ⟨rfl, rfl, rfl, rfl, rfl, rfl, rfl, rfl, rfl, trivial⟩ <| hmemQ (X' := [_, _, _, _]) (S' := [_]) (fun _ m => m) <| hthen <| hret <| hthen_ret <| ?_
        refine hmemQ (fun w m => m.addX (r' := ROwn 5 1 (.slice none 0 0) 0 []) (.refl _ _) (Own.nil _ _ _ _) (fun k hk => hk.elim)) ?_
        exact hretN1 trivial rfl rfl rfl ag93 sz93 (mc_len z32) (fun m => (m.blk 1 rfl).cells0) [0] rfl [] rfl ⟨_, _, _, [], _, _, _, rfl, rfl, rfl, ⟨z32, rfl, .inr ⟨(fun h => hW h.2.1), rfl, rfl, rfl, rfl, rfl⟩⟩⟩
    · refine hend <| hsub (ρ' := [(14, _), (8, _), (7, _), (6, _), (3, _), (0, _), (1, _), (2, _)]) ⟨rfl, rfl, rfl, rfl, rfl, rfl, rfl, rfl, trivial⟩ <| hthen <| hseq <| hseq <| hreg <| hy (fun _ => y_fld rfl fa93_0 (by decide)) <| hy (fun m => y_ld1 rfl ag3 (ld_blk (m.blk 3 rfl) rfl)) <| hy (fun _ => yT (y_neq rfl rfl) ((decide_eq_true h1))) <| hy (fun _ => y_move rfl) <| hskip rfl rfl rfl (by decide) <| hskip rfl rfl rfl (by decide) <| hskip rfl rfl rfl (by decide) <| hy (fun _ => y_pickT rfl rfl) <| hy (fun _ => y_move rfl) <| hskip rfl rfl rfl (by decide) <| hskip rfl rfl rfl (by decide) <| hskip rfl rfl rfl (by decide) <| hy (fun _ => y_pickT rfl rfl) <| hend <| hsub (ρ' := [(31, _), (14, _), (8, _), (7, _), (6, _), (3, _), (0, _), (1, _), (2, _)]) ⟨rfl, rfl, rfl, rfl, rfl, rfl, rfl, rfl, rfl, trivial⟩ <| hthen <| ?_
      refine hift rfl (rfl) ?_
      refine hseq <| hreg <| hy (fun _ => y_build0 ti93 rfl (by kernel_rfl)) <| ?_
      refine hx0 (xh_stA 2 rfl rfl rfl sz93 (mc_len z32) (mc_one (v := .slice none 0 0) rfl) rfl ?_)
      refine hy (fun _ => y_assign rfl) <| hend <| hsub (ρ' := [(7, _), (31, _), (14, _), (8, _), (6, _), (3, _), (0, _), (1, _), (2, _)]) ⟨rfl, rfl, rfl, rfl, rfl, rfl, rfl, rfl, rfl, trivial⟩ <| hmemQ (X' := [_, _, _, _]) (S' := [_]) (fun _ m => m) <| hthen <| hret <| hthen_ret <| ?_
      refine hmemQ (fun w m => m.addX (r' := ROwn 5 1 (.slice none 0 0) 0 []) (.refl _ _) (Own.nil _ _ _ _) (fun k hk => hk.elim)) ?_
      exact hretN1 trivial rfl rfl rfl ag93 sz93 (mc_len z32) (fun m => (m.blk 1 rfl).cells0) [0] rfl [] rfl ⟨_, _, _, [], _, _, _, rfl, rfl, rfl, ⟨z32, rfl, .inr ⟨(fun h => h1 h.1), rfl, rfl, rfl, rfl, rfl⟩⟩⟩
theorem shr8_div (s : Nat) : ∀ i, shr8 i s = s / 256 ^ i
  | 0 => by simp [shr8]
  | i + 1 => by rw [shr8, shr8_div s i, Nat.div_div_eq_div_mul, Nat.pow_succ]
theorem pow8 {i : Nat} (h : i < 4) : (2 : Int) ^ ((8 * (i : Int)).toNat) = ((256 ^ i : Nat) : Int) := by
  match i, h with
  | 0, _ => rfl
  | 1, _ => rfl
  | 2, _ => rfl
  | 3, _ => rfl
theorem byte_at (s i : Nat) : IntKind.u8.wrap ((s : Int) / ((256 ^ i : Nat) : Int)) = ((UInt8.ofNat (shr8 i s)).toNat : Int) := by
  rw [shr8_div, ← u8mod]; rfl
def wpre (k s n i : Nat) : List UInt8 := [UInt8.ofNat k] ++ lek i s ++ List.replicate (36 + n - i) 0
theorem lek_length (i s : Nat) : (lek i s).length = i := by simp [lek]
theorem wpre_len {k s n i : Nat} (h : i ≤ 36) : (wpre k s n i).length = 37 + n := by simp [wpre, lek_length]; omega
theorem wpre_zero (k s n : Nat) : (List.replicate (37 + n) (0 : UInt8)).set 0 (UInt8.ofNat k) = wpre k s n 0 := by
  rw [show 37 + n = (36 + n) + 1 by omega, List.replicate_succ]
  simp [wpre, lek]
theorem wpre_set {k s n i : Nat} (h : i < 4) : (wpre k s n i).set (i + 1) (UInt8.ofNat (shr8 i s)) = wpre k s n (i + 1) := by
  have hl : ([UInt8.ofNat k] ++ lek i s).length = i + 1 := by simp [lek_length]
  unfold wpre
  rw [lek_succ, List.set_append, if_neg (by omega), hl, Nat.sub_self, show 36 + n - i = (36 + n - (i + 1)) + 1 by omega, List.replicate_succ, List.set_cons_zero]
  simp
theorem splice_b8s (a v : List UInt8) (o : Nat) : splice (b8s a) o (b8s v) = b8s (a.take o ++ v ++ a.drop (o + v.length)) := by
  simp [splice, b8s]
theorem wsp1 {k s n : Nat} {nm : List UInt8} (h : nm.length = 32) : splice (b8s (wpre k s n 4)) 5 (b8s nm) = b8s ([UInt8.ofNat k] ++ le4 s ++ nm ++ List.replicate n 0) := by
  have hl : ([UInt8.ofNat k] ++ le4 s).length = 5 := rfl
  rw [splice_b8s, h, wpre, lek_four, List.take_append_of_le_length (by omega), List.take_of_length_le (by omega), List.drop_append, hl, List.drop_of_length_le (by omega), List.nil_append, List.drop_replicate, show 36 + n - 4 - (5 + 32 - 5) = n by omega]
theorem wsp2 {k s n : Nat} {nm l : List UInt8} (h : nm.length = 32) (hl : l.length = n) : splice (b8s ([UInt8.ofNat k] ++ le4 s ++ nm ++ List.replicate n 0)) (if n = 0 then 0 else 37) (b8s l) = b8s (wbody k s nm l) := by
  have h5 : ([UInt8.ofNat k] ++ le4 s ++ nm).length = 37 := by simp [le4_length, h]
  rw [splice_b8s, wbody]
  by_cases hn : n = 0
  · subst hn
    obtain rfl : l = [] := List.eq_nil_of_length_eq_zero hl
    simp
  · rw [if_neg hn, List.take_append_of_le_length (by omega), List.take_of_length_le (by omega), List.drop_append, h5, List.drop_of_length_le (by omega), List.drop_replicate, show n - (37 + l.length - 37) = 0 by omega]
    simp
theorem wwriteC {k s : Nat} {nm : List UInt8} {A : Option Addr} {n c : Nat} {l : List UInt8} (hm : nm.length = 32) (hn : n ≤ c) (hM : WMay k s n) : Con Try.prog 45 [.agg (mc k s nm (.slice A n c)).toArray] [] [RRd 1 A n (b8s l)] (fun v_ X_ S_ => ∃ v, v_ = (.tuple #[v, .int .i64 0]) ∧ X_ = [ROwn 5 1 v (37 + n + 4) (b8s (putL (wbody k s nm l)))] ∧ S_ = []) := by
  have hM2 := hM
  unfold WMay at hM2
  refine henter (N := 45) Try.func45 rfl rfl (by simp) fun b => ?_
  refine hfactC (fun m => rdB (m.rd 0 rfl)) ?_
  rintro ⟨hl_r, hA_r⟩
  refine hseq <| hreg <| ?_
  refine hx (xh_box rfl (fun g1 => ?_))
  refine hmemL (fun w m => m.eqX 0 rfl (show _ = RBlk g1 93 (mc k s nm (.slice A n c)) from congrArg (RBlk _ _) (cells_agg _))) ?_
  refine hy (fun _ => y_assign rfl) <| hy (fun _ => y_assign rfl) <| hend <| hmemQ (X' := [_]) (S' := [_]) (fun _ m => m) <| hthen <| hseq <| hseq <| hreg <| hy (fun m => y_ldN rfl ag93 sz93 (mc_len hm) ((m.blk 0 rfl).cells0)) <| ?_
  refine hx (xh_call rfl Try.call68 (mayC (by omega)) [] rfl [] rfl ?_)
  rintro _ _ _ ⟨rfl, rfl, rfl⟩
  refine hy (fun _ => y_notp rfl) <| hend <| hsub (ρ' := [(8, _), (3, _), (2, _), (1, _), (0, _)]) ⟨rfl, rfl, rfl, rfl, rfl, trivial⟩ <| hmemQ (X' := [_]) (S' := [_]) (fun _ m => m) <| hthen <| ?_
  refine hiff rfl ((decide_eq_false (not_not_intro hM))) ?_
  refine hcskip <| hthen <| hseq <| hreg <| hy (fun _ => y_fld rfl fa93_3 (by decide)) <| hy (fun m => y_ld1 rfl ag29 (mc_v (m.blk 0 rfl) hm)) <| hy (fun _ => y_lenS rfl Try.underlying29) <| hy (fun _ => yV (y_add rfl rfl (w64 (by omega) (by omega))) ((show Value.int .i64 (37 + (n : Int)) = .int .i64 ((37 + n : Nat) : Int) by congr 1))) <| ?_
  refine hx (xh_mksl Try.underlying29 ti5 rfl rfl rfl (by omega) (by omega) (fun g13 => ?_))
  have hA_b13 : ∀ {n : Nat}, 0 < n → (some (⟨g13, 0, none⟩ : Addr)) ≠ none := fun _ h => by cases h
  refine hmemL (fun w m => m.eqX 0 rfl (show _ = RBlk g13 5 (b8s (List.replicate (37 + n) 0)) from congrArg (RBlk _ _) (by simp [b8s, B8]))) ?_
  refine hy (fun _ => y_assign rfl) <| hend <| hsub (ρ' := [(4, _), (8, _), (3, _), (2, _), (1, _), (0, _)]) ⟨rfl, rfl, rfl, rfl, rfl, rfl, trivial⟩ <| hmemQ (X' := [_, _]) (S' := [_]) (fun _ m => m) <| hthen <| hseq <| hreg <| hy (fun _ => y_move rfl) <| hy (fun _ => y_fld rfl fa93_0 (by decide)) <| hy (fun m => y_ld1 rfl ag3 (ld_blk (m.blk 1 rfl) rfl)) <| hy (fun _ => yV (y_conv rfl Try.underlying3 Try.underlying5 (u8mod k)) ((rfl : Value.int .u8 _ = B8 (UInt8.ofNat k)))) <| hy (fun _ => y_idxS1 rfl rfl Try.underlying29 sz5 hA_b13 (show ((0 : Nat) : Int) = 0 from rfl) (by omega)) <| ?_
  refine hx0 (xh_st1a 0 rfl rfl rfl sz5 rfl (by rw [b8s_length, List.length_replicate]; omega) ?_)
  refine hmemL (fun w m => m.eqX 0 rfl (show _ = RBlk g13 5 (b8s (wpre k s n 0)) from congrArg (RBlk _ _) ((b8s_set _ _ _).symm.trans (congrArg b8s (wpre_zero k s n))))) ?_
  refine hend <| hsub (ρ' := [(4, _), (8, _), (3, _), (2, _), (1, _), (0, _)]) ⟨rfl, rfl, rfl, rfl, rfl, rfl, trivial⟩ <| hmemQ (X' := [_, _]) (S' := [_]) (fun _ m => m) <| hthen <| hseq <| hseq <| hreg <| hy (fun _ => y_move rfl) <| hend <| hthen <| hblock <| ?_
  refine hloop1 (fun i => 4 - i) (fun i => [(19, .int .i64 (i : Nat))]) (fun i => [RBlk g13 5 (b8s (wpre k s n i))]) (fun i => []) (fun i => i ≤ 4) 0 [(4, _), (8, _), (3, _), (2, _), (1, _), (0, _)] ⟨rfl, rfl, rfl, rfl, rfl, rfl, trivial⟩ [0] rfl [] rfl (Nat.zero_le _) ⟨rfl, trivial⟩ (fun i hI => ?_)
  refine hseq <| hreg <| hy (fun _ => y_lss rfl rfl) <| hend <| hthen <| hseq <| ?_
  refine hif rfl (fun hi => ?_) (fun hi => ?_)
  · have hi4 : i < 4 := by omega
    refine hcskip <| hthen <| hseq <| hblock <| hseq <| hreg <| hy (fun _ => y_move rfl) <| hy (fun _ => y_assign rfl) <| hend <| hsub (ρ' := [(5, _), (20, _), (19, _), (4, _), (8, _), (3, _), (2, _), (1, _), (0, _)]) ⟨rfl, rfl, rfl, rfl, rfl, rfl, rfl, rfl, rfl, trivial⟩ <| hthen <| hreg <| hy (fun _ => y_move rfl) <| hy (fun _ => y_move rfl) <| hy (fun _ => y_add rfl rfl (w64 (by omega) (by omega))) <| hy (fun _ => y_fld rfl fa93_1 (by decide)) <| hy (fun m => y_ld1 rfl ag3 (ld_blk (m.blk 1 rfl) rfl)) <| hy (fun _ => y_move rfl) <| hy (fun _ => y_mul rfl rfl (w64 (by omega) (by omega))) <| hy (fun _ => y_shr rfl rfl (by omega) (by simp [IntKind.bits]; omega) (pow8 hi4)) <| hy (fun _ => yV (y_conv rfl Try.underlying3 Try.underlying5 (byte_at s i)) ((rfl : Value.int .u8 _ = B8 (UInt8.ofNat (shr8 i s))))) <| ?_
    refine hy (fun _ => y_idxS1 rfl rfl Try.underlying29 sz5 hA_b13 (show ((i + 1 : Nat) : Int) = _ by omega) (by omega)) <| ?_
    refine hx0 (xh_st1a 0 rfl rfl rfl sz5 rfl (by rw [b8s_length, wpre_len (by omega)]; omega) ?_)
    refine hmemL (fun w m => m.eqX 0 rfl (show _ = RBlk g13 5 (b8s (wpre k s n (i + 1))) from congrArg (RBlk _ _) (show (b8s (wpre k s n i)).set (0 + (i + 1)) (B8 (UInt8.ofNat (shr8 i s))) = _ by rw [Nat.zero_add, ← b8s_set, wpre_set hi4]))) ?_
    refine hend <| hsub (ρ' := [(5, _), (20, _), (19, _), (4, _), (8, _), (3, _), (2, _), (1, _), (0, _)]) ⟨rfl, rfl, rfl, rfl, rfl, rfl, rfl, rfl, rfl, trivial⟩ <| hmemQ (X' := [_, _]) (S' := [_]) (fun _ m => m) <| hqblock <| hthen <| hreg <| hy (fun _ => y_add rfl rfl (w64 (by omega) (by omega))) <| hy (fun _ => y_move rfl) <| hend <| hsub (ρ' := [(19, _), (5, _), (20, _), (4, _), (8, _), (3, _), (2, _), (1, _), (0, _)]) ⟨rfl, rfl, rfl, rfl, rfl, rfl, rfl, rfl, rfl, trivial⟩ <| ?_
    refine hnext1 (i + 1) ⟨rfl, rfl, rfl, rfl, rfl, rfl, rfl, trivial⟩ [0, 0] rfl [0] rfl (by omega) (by omega)
  · obtain rfl : i = 4 := by omega
    refine hexit <| hthen_exit <| hthen_exit <| hqblock_exit <| hthen <| hseq <| hdrw [4] [(0, some 0), (1, some 0), (2, some 0), (3, some 0), (4, none)] (by kernel_rfl) (by kernel_rfl) rfl 0 <| htyU (y_move rfl) <| htyU (yV (y_slFrom rfl rfl Try.underlying29 sz5 (show ((5 : Nat) : Int) = 5 from rfl) (by omega)) ((show Value.slice (if 37 + n = 5 then some ⟨g13, 0, none⟩ else (some (⟨g13, 0, none⟩ : Addr)).map (·.add (5 * 1))) (37 + n - 5) (37 + n - 5) = .slice (some ⟨g13, 5, none⟩) (32 + n) (32 + n) by rw [if_neg (by omega), show 37 + n - 5 = 32 + n by omega]; rfl))) <| htyU (y_fld rfl fa93_2 (by decide)) <| htyU (y_slArr rfl Try.underlying23 sz5) <| ?_
    refine htx (xh_copy 0 rfl rfl rfl Try.underlying29 sz5 (fun m => ⟨(by rw [b8s_length]; omega), (fun _ h => by cases h), mc_nm (m.blk 1 rfl)⟩) (show 32 = min 32 (32 + n) by omega) (by rw [b8s_length, wpre_len (by omega)]; omega) b8s_oneCell ⟨(fun h => absurd h (by decide)), ?_⟩)
    refine htmem (fun w m => m.eqX 0 rfl (show _ = RBlk g13 5 (b8s ([UInt8.ofNat k] ++ le4 s ++ nm ++ List.replicate n 0)) from congrArg (RBlk _ _) (wsp1 hm))) ?_
    refine htend <| hsub (ρ' := [(20, _), (19, _), (4, _), (8, _), (3, _), (2, _), (1, _), (0, _)]) ⟨rfl, rfl, rfl, rfl, rfl, rfl, rfl, rfl, trivial⟩ <| hmemQ (X' := [_, _]) (S' := [_]) (fun _ m => m) <| hthen <| hseq <| hdrw [4] [(0, some 0), (1, some 0), (2, some 0), (3, some 0), (4, none)] (by kernel_rfl) (by kernel_rfl) rfl 0 <| htyU (y_move rfl) <| htyU (yV (y_slFrom rfl rfl Try.underlying29 sz5 (show ((37 : Nat) : Int) = 37 from rfl) (by omega)) ((show Value.slice (if 37 + n = 37 then some ⟨g13, 0, none⟩ else (some (⟨g13, 0, none⟩ : Addr)).map (·.add (37 * 1))) (37 + n - 37) (37 + n - 37) = .slice (some ⟨g13, if n = 0 then 0 else 37, none⟩) n n by rw [show 37 + n - 37 = n by omega]; by_cases h0 : n = 0 <;> simp [h0] <;> rfl))) <| htyU (y_fld rfl fa93_3 (by decide)) <| hty (fun m => y_ld1 rfl ag29 (mc_v (m.blk 1 rfl) hm)) <| ?_
    refine htx (xh_copy 0 rfl rfl rfl Try.underlying29 sz5 (fun m => (m.rd 0 rfl)) (show n = min n n by omega) (by simp [b8s_length, le4_length, hm]; split <;> omega) b8s_oneCell ⟨(fun h => absurd h (by decide)), ?_⟩)
    refine htmem (fun w m => m.eqX 0 rfl (show _ = RBlk g13 5 (b8s (wbody k s nm l)) from congrArg (RBlk _ _) (wsp2 hm hl_r))) ?_
    refine htend <| hsub (ρ' := [(20, _), (19, _), (4, _), (8, _), (3, _), (2, _), (1, _), (0, _)]) ⟨rfl, rfl, rfl, rfl, rfl, rfl, rfl, rfl, trivial⟩ <| hmemQ (X' := [_, _]) (S' := [_]) (fun _ m => m) <| hthen <| hseq <| hreg <| hy (fun _ => y_move rfl) <| ?_
    refine hx (xh_calll rfl Try.call56 (crcPutC (by omega)) [] rfl (.x 0 rfl (.blk (by rw [b8s_length, wbody_len hm, hl_r]; omega)) .nil) ?_)
    rintro _ _ _ ⟨v, rfl, rfl, rfl⟩
    refine ⟨rfl, ?_⟩
    refine hfactL (fun m => (m.own 0 rfl).slice) ?_
    rintro ⟨A_x, c_x, rfl, hc_x⟩
    refine hfactL (fun m => (m.ord 0 rfl).2.1) fun hA_x => ?_
    refine hy (fun _ => y_assign rfl) <| hy (fun _ => y_assign rfl) <| hend <| hsub (ρ' := [(3, _), (2, _), (20, _), (19, _), (4, _), (8, _), (1, _), (0, _)]) ⟨rfl, rfl, rfl, rfl, rfl, rfl, rfl, rfl, trivial⟩ <| hmemQ (X' := [_, _, _]) (S' := [_]) (fun _ m => m) <| hthen <| hret <| ?_
    exact hret2 trivial rfl rfl rfl [0] rfl [] rfl ⟨_, rfl, rfl, rfl⟩
end Go.Proofs.Ytpcgpnijhpcbeaa
