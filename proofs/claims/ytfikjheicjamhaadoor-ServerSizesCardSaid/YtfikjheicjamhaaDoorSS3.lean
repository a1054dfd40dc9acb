/- What the claim leans on, part 3. -/
import Derived.Test.YtfikjheicjamhaaDoorSS2
import Derived.ScopeJumps
import Derived.ProofKit
import Derived.OpenShut
import Derived.ShutString
import Derived.ChangeOld
import Derived.SizedLaws
import Derived.ChangeSame
section
/- Scopes in which the run jumps back to one label, in the engine over things in memory (printed by scopegen.py). No statement is proved here. -/
set_option linter.unusedVariables false
set_option linter.unusedSimpArgs false
set_option linter.unusedSectionVars false
namespace Go.Eng
open Go.RowKit
theorem wp_scope_rel {P : Program} {Q : Exit → Act → World → Prop} {ι : Type} {c rest : Code} (l : Nat) (J : ι → Act → World → Prop) (μ : ι → Nat) (hf : findLabel c l = some rest) {a : Act} {w : World}
    (first : c.wp P (Exit.jump l (fun a w => ∃ j, J j a w) Q) a w)
    (pass : ∀ i a w, J i a w → rest.wp P (Exit.jump l (fun a' w' => ∃ j, J j a' w' ∧ μ j < μ i) Q) a w) : (Code.scope c).wp P Q a w := by
  intro b k cs
  have hg : gotoIn l (.inScope c :: k) = some (.code rest :: .inScope c :: k) := by simp [gotoIn, hf]
  have key : ∀ n i a w, μ i = n → J i a w → ∃ e a' w', Q e a' w' ∧ Arrives P (lone (b.at a (.code rest :: .inScope c :: k)) cs w) b k cs e a' w' := by
    intro n
    induction n using Nat.strongRecOn with
    | _ n ih =>
      intro i a w hn hJ
      obtain ⟨e, a₁, w₁, hq, harr⟩ := pass i a w hJ b (.inScope c :: k) cs
      cases e with
      | normal => exact ⟨.normal, a₁, w₁, hq, Steps.trans harr (.one step_inScope)⟩
      | exit id => exact ⟨.exit id, a₁, w₁, hq, fun k' hk => harr k' (by simp [exitTo, hk])⟩
      | goto l' =>
        obtain ⟨rfl, j, hJ', hlt⟩ := hq
        obtain ⟨e₂, a₂, w₂, hq₂, harr₂⟩ := ih _ (by omega) j a₁ w₁ rfl hJ'
        exact ⟨e₂, a₂, w₂, hq₂, .of_steps (harr _ hg) harr₂⟩
      | ret => exact ⟨_, a₁, w₁, hq, harr⟩
      | panic ch => exact ⟨_, a₁, w₁, hq, harr⟩
      | outgrown => exact ⟨_, a₁, w₁, hq, harr⟩
  obtain ⟨e, a₁, w₁, hq, harr⟩ := first b (.inScope c :: k) cs
  cases e with
  | normal => exact ⟨.normal, a₁, w₁, hq, .head step_scope (Steps.trans harr (.one step_inScope))⟩
  | exit id => exact ⟨.exit id, a₁, w₁, hq, fun k' hk => .head step_scope (harr k' (by simp [exitTo, hk]))⟩
  | goto l' =>
    obtain ⟨rfl, j, hJ'⟩ := hq
    obtain ⟨e₂, a₂, w₂, hq₂, harr₂⟩ := key _ j a₁ w₁ rfl hJ'
    exact ⟨e₂, a₂, w₂, hq₂, .of_steps (.head step_scope (harr _ hg)) harr₂⟩
  | ret => exact ⟨_, a₁, w₁, hq, .of_steps (.one step_scope) harr⟩
  | panic ch => exact ⟨_, a₁, w₁, hq, .of_steps (.one step_scope) harr⟩
  | outgrown => exact ⟨_, a₁, w₁, hq, .of_steps (.one step_scope) harr⟩
section
variable {P : Program} {Q : Exit → Act → World → Prop} {N : Nat} {D : List Deferred} {ρ : Env} {b : Base} {X S : List Res} {c : Code}
theorem hscope {ι : Type} {l : Nat} {rest : Code} (μ : ι → Nat) (R : ι → Env) (X1 S1 : ι → List Res) (I : ι → Prop) (ρk : Env) (Xr Sr : List Res) (hf : findLabel c l = some rest)
    (first : HC P (Exit.jump l (fun a' w' => ∃ j, Ag N D (R j ++ ρk) a' ∧ Mem b (X1 j ++ Xr) (S1 j ++ Sr) w' ∧ I j) Q) N D c ρ b X S)
    (pass : ∀ i, I i → HC P (Exit.jump l (fun a' w' => ∃ j, Ag N D (R j ++ ρk) a' ∧ Mem b (X1 j ++ Xr) (S1 j ++ Sr) w' ∧ I j ∧ μ j < μ i) Q) N D rest (R i ++ ρk) b (X1 i ++ Xr) (S1 i ++ Sr)) : HC P Q N D (.scope c) ρ b X S := fun w m a ha =>
  wp_scope_rel l (fun j a' w' => Ag N D (R j ++ ρk) a' ∧ Mem b (X1 j ++ Xr) (S1 j ++ Sr) w' ∧ I j) μ hf (first w m a ha)
    (fun i a' w' h => Code.wp_mono (fun e a' w' q => by
      cases e <;> first | exact q | (obtain ⟨h0, j, h1, h2, h3, h4⟩ := q; exact ⟨h0, j, ⟨h1, h2, h3⟩, h4⟩)) (pass i h.2.2 w' h.2.1 a' h.1))
theorem hcgoto {l : Nat} (h : HQ Q N D (.goto l) ρ b X S) : HC P Q N D (.goto l) ρ b X S := fun w m a ha => wp_goto (h w m a ha)
theorem hthen_goto {K : Act → World → Prop} {l : Nat} (h : HQ Q N D (.goto l) ρ b X S) : HQ (Exit.then K Q) N D (.goto l) ρ b X S := h
theorem hjump_ret {l : Nat} {J : Act → World → Prop} (h : HQ Q N D .ret ρ b X S) : HQ (Exit.jump l J Q) N D .ret ρ b X S := h
theorem hfallH {l : Nat} {J : Act → World → Prop} {r : Code} (h : HQ (Exit.jump l J Q) N D (.goto l) ρ b X S) (k : ∀ a w, J a w → r.wp P (Exit.jump l J Q) a w) : HC P (Exit.jump l J Q) N D (.seq (.label l) r) ρ b X S := fun w m a ha => wp_seq (wp_label (k a w (h w m a ha).2))
theorem hscope1 {α : Type} {l : Nat} {rest : Code} (μ : α → Nat) (R : α → Env) (X1 S1 : α → List Res) (I : α → Prop) (ρk : Env) (Xr Sr : List Res) (hf : findLabel c l = some rest)
    (first : HC P (Exit.jump l (fun a' w' => ∃ x, Ag N D (R x ++ ρk) a' ∧ Mem b (X1 x ++ Xr) (S1 x ++ Sr) w' ∧ I x) Q) N D c ρ b X S)
    (pass : ∀ a, I a → HC P (Exit.jump l (fun a' w' => ∃ x, Ag N D (R x ++ ρk) a' ∧ Mem b (X1 x ++ Xr) (S1 x ++ Sr) w' ∧ I x ∧ μ x < μ a) Q) N D rest (R a ++ ρk) b (X1 a ++ Xr) (S1 a ++ Sr)) : HC P Q N D (.scope c) ρ b X S :=
  hscope (ι := α) (fun i => μ i) (fun i => R i) (fun i => X1 i) (fun i => S1 i) (fun i => I i) ρk Xr Sr hf
    (fun w m a ha => Code.wp_mono (fun e a' w' q => by
      cases e <;> first | exact q | (obtain ⟨h0, x, h⟩ := q; exact ⟨h0, x, h⟩)) (first w m a ha))
    (fun i hi w m a ha => Code.wp_mono (fun e a' w' q => by
      cases e <;> first | exact q | (obtain ⟨h0, x, h⟩ := q; exact ⟨h0, x, h⟩)) (pass i hi w m a ha))
theorem hscopeF1 {α : Type} {l : Nat} {r : Code} (μ : α → Nat) (R : α → Env) (X1 S1 : α → List Res) (I : α → Prop) (ρk : Env) (hk : SubB ρk ρ) (is : List Nat) {Xt Xr : List Res} (hX : takeR is X = some (Xt, Xr)) (hf : findLabel c l = some (.seq .skip r))
    (pass : ∀ a, I a → HC P (Exit.jump l (fun a' w' => ∃ x, Ag N D (R x ++ ρk) a' ∧ Mem b (X1 x ++ Xr) (S1 x ++ S) w' ∧ I x ∧ μ x < μ a) Q) N D r (R a ++ ρk) b (X1 a ++ Xr) (S1 a ++ S))
    (first : (∀ a w, (∃ x, Ag N D (R x ++ ρk) a ∧ Mem b (X1 x ++ Xr) (S1 x ++ S) w ∧ I x) → r.wp P (Exit.jump l (fun a' w' => ∃ x, Ag N D (R x ++ ρk) a' ∧ Mem b (X1 x ++ Xr) (S1 x ++ S) w' ∧ I x) Q) a w) →
      HC P (Exit.jump l (fun a' w' => ∃ x, Ag N D (R x ++ ρk) a' ∧ Mem b (X1 x ++ Xr) (S1 x ++ S) w' ∧ I x) Q) N D c ρ b X S) : HC P Q N D (.scope c) ρ b X S :=
  hscope1 (l := l) (rest := .seq .skip r) μ R X1 S1 I ρk Xr S hf
    (first fun a w h => by
      obtain ⟨x, h1, h2, h3⟩ := h
      exact Code.wp_mono (fun e a' w' q => by
        cases e <;> first | exact q | (obtain ⟨h0, x_, g1, g2, g3, g4⟩ := q; exact ⟨h0, x_, g1, g2, g3⟩)) (pass x h3 w h2 a h1))
    (fun a h => fun w m a9 ha => wp_seq (wp_skip (pass a h w m a9 ha)))
theorem hgoto1 {α : Type} {l M : Nat} {μ : α → Nat} {R : α → Env} {X1 S1 : α → List Res} {Xr Sr : List Res} {ρ0 : Env} {I : α → Prop} (x : α) (hs : SubB (R x ++ ρ0) ρ) (is : List Nat) {Xz : List Res} (hX : takeR is X = some (X1 x ++ Xr, Xz)) (js : List Nat) (hS : getR js S = some (S1 x ++ Sr)) (hI : I x) (hlt : μ x < M) :
    HQ (Exit.jump l (fun a' w' => ∃ x, Ag N D (R x ++ ρ0) a' ∧ Mem b (X1 x ++ Xr) (S1 x ++ Sr) w' ∧ I x ∧ μ x < M) Q) N D (.goto l) ρ b X S :=
  fun w m a ha => ⟨rfl, x, ha.sub hs.sub, ((m.perm (takeR_perm _ _ _ _ hX)).dropX).subS (getR_sub _ _ _ hS), hI, hlt⟩
theorem hfall1 {α : Type} {l : Nat} {R : α → Env} {X1 S1 : α → List Res} {Xr Sr : List Res} {ρ0 : Env} {I : α → Prop} (x : α) (hs : SubB (R x ++ ρ0) ρ) (is : List Nat) {Xz : List Res} (hX : takeR is X = some (X1 x ++ Xr, Xz)) (js : List Nat) (hS : getR js S = some (S1 x ++ Sr)) (hI : I x) :
    HQ (Exit.jump l (fun a' w' => ∃ x, Ag N D (R x ++ ρ0) a' ∧ Mem b (X1 x ++ Xr) (S1 x ++ Sr) w' ∧ I x) Q) N D (.goto l) ρ b X S :=
  fun w m a ha => ⟨rfl, x, ha.sub hs.sub, ((m.perm (takeR_perm _ _ _ _ hX)).dropX).subS (getR_sub _ _ _ hS), hI⟩
end
end Go.Eng
end
section
/- Contracts: bytes in fewer (layer 5): packing. -/
set_option linter.unusedVariables false
set_option linter.unusedSimpArgs false
set_option maxRecDepth 20000
set_option maxHeartbeats 2000000
namespace Go.Proofs.YtfikjheicjamhaaDoor
open Go.Eng Go.Hx
theorem putC {g0 g1 : Nat} {A1 A2 : Option Addr} {c1 c2 : Nat} {own out : List UInt8} (hlen : out.length + 2 * own.length ≤ 4000000000) : Con Tryd.prog 157 [.pointer (some ⟨g0, 0, none⟩), .pointer (some ⟨g1, 0, none⟩)] [RBlk g0 32 [.slice A1 own.length c1], ROwn 5 1 (.slice A1 own.length c1) own.length (b8s own), RBlk g1 32 [.slice A2 out.length c2], ROwn 5 1 (.slice A2 out.length c2) out.length (b8s out)] [] (fun v_ X_ S_ => ∃ A3 A4 c3 c4, v_ = (.tuple #[]) ∧ X_ = [RBlk g0 32 [.slice A3 0 c3], ROwn 5 1 (.slice A3 0 c3) 0 [], RBlk g1 32 [.slice A4 (out ++ litL own).length c4], ROwn 5 1 (.slice A4 (out ++ litL own).length c4) (out ++ litL own).length (b8s (out ++ litL own))] ∧ S_ = []) := by
  obtain ⟨o0, ho0⟩ : ∃ o0, o0 = out ++ litL own := ⟨_, rfl⟩
  rw [← ho0]
  refine henter (N := 22) Tryd.func157 rfl rfl (by simp) fun b => ?_
  refine hblock <| ?_
  refine hloop6 (fun own out A1 c1 A2 c2 => own.length) (fun own out A1 c1 A2 c2 => []) (fun own out A1 c1 A2 c2 => [RBlk g0 32 [.slice A1 own.length c1], ROwn 5 1 (.slice A1 own.length c1) own.length (b8s own), RBlk g1 32 [.slice A2 out.length c2], ROwn 5 1 (.slice A2 out.length c2) out.length (b8s out)]) (fun own out A1 c1 A2 c2 => []) (fun own out A1 c1 A2 c2 => out.length + 2 * own.length ≤ 4000000000 ∧ out ++ litL own = o0) own out A1 c1 A2 c2 [(0, _), (1, _)] ⟨rfl, rfl, trivial⟩ [0, 0, 0, 0] rfl [] rfl (⟨hlen, ho0.symm⟩) trivial (fun own out A1 c1 A2 c2 ⟨hlen, hE⟩ => ?_)
  refine hseq <| hseq <| hreg <| hy (fun m => y_ld1 rfl ag32 (ld_blk (m.blk 0 rfl) rfl)) <| hy (fun _ => y_lenS rfl Tryd.underlying32) <| hy (fun _ => y_gtr rfl rfl) <| hend <| hsub (ρ' := [(5, _), (0, _), (1, _)]) ⟨rfl, rfl, rfl, trivial⟩ <| hthen <| ?_
  refine hif rfl (fun h0 => ?_) (fun h0 => ?_)
  · have hne : own ≠ [] := fun e => by rw [e] at h0; exact absurd h0 (by decide)
    rw [litL_cons hne] at hE
    obtain ⟨k, hk⟩ : ∃ k, k = min own.length 128 := ⟨_, rfl⟩
    have hk1 : 1 ≤ k ∧ k ≤ 128 ∧ k ≤ own.length := by omega
    rw [← hk] at hE
    have htk : own.take 128 = own.take k := by
      rcases Nat.lt_or_ge own.length 128 with h | h
      · rw [List.take_of_length_le (by omega), List.take_of_length_le (by omega)]
      · rw [show k = 128 by omega]
    have hdk : own.drop 128 = own.drop k := by
      rcases Nat.lt_or_ge own.length 128 with h | h
      · rw [List.drop_of_length_le (by omega), List.drop_of_length_le (by omega)]
      · rw [show k = 128 by omega]
    rw [htk, hdk] at hE
    refine hfactC (fun m => (Own.rd (m.own 1 rfl)).2.1) fun hc1 => ?_
    refine hcskip <| hthen <| hblock <| hseq <| hreg <| hy (fun m => y_ld1 rfl ag32 (ld_blk (m.blk 0 rfl) rfl)) <| hy (fun _ => y_lenS rfl Tryd.underlying32) <| hy (fun _ => yV (y_min rfl rfl) ((show Value.int .i64 _ = .int .i64 (k : Nat) by congr 1; omega))) <| hy (fun _ => y_assign rfl) <| hend <| hsub (ρ' := [(2, _), (5, _), (0, _), (1, _)]) ⟨rfl, rfl, rfl, rfl, trivial⟩ <| hthen <| hseq <| hdrwB [0, 0, 0] [] rfl rfl [4, 5, 9, 10] [(0, some 1), (1, some 3), (2, some 0), (3, some 0), (6, some 2), (7, some 2), (8, some 2), (4, none), (5, none), (9, none), (10, none)] (by kernel_rfl) (by kernel_rfl) rfl 3 <| hty (fun m => y_ld1 rfl ag32 (ld_blk (m.blk 2 rfl) rfl)) <| htyU (y_move rfl) <| htyU (yV (y_sub rfl rfl (w64 (by omega) (by omega))) ((show Value.int .i64 ((k : Int) - 1) = .int .i64 ((k - 1 : Nat) : Int) by congr 1; omega))) <| htyU (yV (y_conv rfl Tryd.underlying3 Tryd.underlying5 (u8mod (k - 1))) ((show Value.int .u8 _ = B8 (UInt8.ofNat (k - 1)) from rfl))) <| hty (fun m => y_ld1 rfl ag32 (ld_blk (m.blk 0 rfl) rfl)) <| htyU (y_move rfl) <| htyU (y_slTo rfl rfl Tryd.underlying32 sz5 rfl (by omega)) <| ?_
    refine htx (xh_bsl Tryd.underlying32 ti5 rfl rfl rfl (by simp [Value.cells, B8]) (by decide) (by decide) (fun g13 => ⟨(fun _ => wk [1, 1, 1] [] rfl rfl), ?_⟩))
    have hA_b13 : 0 < 1 → (some (⟨g13, 0, none⟩ : Addr)) ≠ none := fun _ h => by cases h
    refine htx (xh_app 4 rfl rfl rfl Tryd.underlying32 Tryd.underlying32 (by exact .inl rfl) ti5 rfl (fun m => Src.of_rd (m.ord 0 rfl)) (b8s_one (l := [UInt8.ofNat (k - 1)])) (by unfold maxLen; omega) (by omega) (fun u => ⟨(fun _ => wk [2, 2, 2] [] rfl rfl), ?_⟩))
    refine htfact (fun m => (m.own 0 rfl).slice) ?_
    rintro ⟨A_y, c_y, rfl, hc_y⟩
    refine htfact (fun m => (m.ord 0 rfl).2.1) fun hA_y => ?_
    refine htx (xh_app 0 rfl rfl rfl Tryd.underlying32 Tryd.underlying32 (by exact .inl rfl) ti5 rfl (fun m => Src.of_rd (Rd.takeM (m.ord 3 rfl) hk1.2.2)) b8s_one (by unfold maxLen; omega) (by omega) (fun u2 => ⟨(fun _ => wk [2, 2, 2] [] rfl rfl), ?_⟩))
    refine htfact (fun m => (m.own 0 rfl).slice) ?_
    rintro ⟨A_y2, c_y2, rfl, hc_y⟩
    refine htfact (fun m => (m.ord 0 rfl).2.1) fun hA_y => ?_
    refine htx0 (xh_st1 4 rfl rfl rfl sz32 rfl (by first | exact Nat.le_of_ble_eq_true rfl | simp) ⟨(fun h => absurd h (by decide)), ?_⟩)
    refine htend <| hsub (ρ' := [(2, _), (5, _), (0, _), (1, _)]) ⟨rfl, rfl, rfl, rfl, trivial⟩ <| hmemQ (X' := [_, _, _, _, _]) (S' := []) (fun _ m => m) <| hthen <| hreg <| hy (fun m => y_ld1 rfl ag32 (ld_blk (m.blk 3 rfl) rfl)) <| hy (fun _ => y_move rfl) <| hy (fun _ => y_slFrom rfl rfl Tryd.underlying32 sz5 rfl (by omega)) <| ?_
    refine hx0 (xh_st1 3 rfl rfl rfl sz32 rfl (by first | exact Nat.le_of_ble_eq_true rfl | simp) ?_)
    refine hend <| hsub (ρ' := [(2, _), (5, _), (0, _), (1, _)]) ⟨rfl, rfl, rfl, rfl, trivial⟩ <| hmemQ (X' := [_, _, _, _, _]) (S' := []) (fun _ m => m) <| hqblock <| ?_
    refine hmemQ (X' := ROwn 5 1 (.slice (if c1 = k then A1 else A1.map (·.add (k * 1))) (own.length - k) (c1 - k)) (own.length - k) ((b8s own).drop (k * 1)) :: _) (fun w m => (m.perm (takeR_perm [4] _ [_] _ rfl)).viewX (View.ownDrop hk1.2.2 hc1)) ?_
    have hdl : own.length - k = (own.drop k).length := by rw [List.length_drop]
    have hol : out.length + 1 + k = (out ++ (UInt8.ofNat (k - 1) :: own.take k)).length := by simp; omega
    rw [hdl, hol]
    refine hmemQ (fun w m => m.eqX 0 rfl (show _ = ROwn 5 1 (.slice (if c1 = k then A1 else A1.map (·.add (k * 1))) (own.drop k).length (c1 - k)) (own.drop k).length (b8s (own.drop k)) from congrArg (ROwn _ _ _ _) (by rw [Nat.mul_one, b8s_drop]))) ?_
    refine hmemQ (fun w m => m.eqX 3 rfl (show _ = ROwn 5 1 (.slice A_y2 (out ++ (UInt8.ofNat (k - 1) :: own.take k)).length c_y2) (out ++ (UInt8.ofNat (k - 1) :: own.take k)).length (b8s (out ++ (UInt8.ofNat (k - 1) :: own.take k))) from congrArg (ROwn _ _ _ _) (show b8s out ++ b8s [UInt8.ofNat (k - 1)] ++ b8s (own.take k) = _ by rw [← b8s_append, ← b8s_append, List.append_assoc]; rfl))) ?_
    refine hnext6 (own.drop k) (out ++ (UInt8.ofNat (k - 1) :: own.take k)) _ _ _ _ ⟨rfl, rfl, trivial⟩ [2, 1, 1, 0] rfl [] rfl (⟨by rw [← hdl, ← hol]; omega, by rw [← hE]; simp⟩) (by rw [← hdl]; omega)
  · have hne : own = [] := List.eq_nil_of_length_eq_zero (by omega)
    rw [hne, litL_nil, List.append_nil] at hE
    subst hne
    subst hE
    refine hexit <| hthen_exit <| hthen_exit <| hqblock_exit <| ?_
    exact hret0 trivial rfl [0, 0, 0, 0] rfl [] rfl ⟨_, _, _, _, rfl, rfl, rfl⟩
structure PSt where
  g : Nat
  gm : Nat
  g4 : Nat
  g5 : Nat
  i : Nat
  p : Nat
  c1 : Nat
  c2 : Nat
  A1 : Option Addr
  A2 : Option Addr
  own : List UInt8
  out : List UInt8
  es : Fes
theorem packC {A : Option Addr} {n c : Nat} {l : List UInt8} (hc : n ≤ c) (hn : n ≤ 500000000) (hl : l.length = n) : Con Tryd.prog 139 [.slice A n c] [] [RRd 1 A n (b8s l)] (fun v_ X_ S_ => ∃ v, v_ = v ∧ X_ = [ROwn 5 1 v (packL l).length (b8s (packL l))] ∧ S_ = []) := by
  refine henter (N := 56) Tryd.func139 rfl rfl (by simp) fun b => ?_
  refine hfactC (fun m => rdB (m.rd 0 rfl)) ?_
  rintro ⟨hl_r, hA_r⟩
  refine hseq <| hreg <| hy (fun _ => y_assign rfl) <| hend <| hthen <| ?_
  refine hscopeF1 (l := 0) (fun (t:PSt) => n - t.i) (fun (t:PSt) => [(7, .int .i64 (t.i : Nat)), (3, .pointer (some ⟨t.g, 0, none⟩)), (4, .pointer (some ⟨t.g4, 0, none⟩)), (5, .pointer (some ⟨t.g5, 0, none⟩)), (6, .func (.func 157) #[] #[.pointer (some ⟨t.g5, 0, none⟩), .pointer (some ⟨t.g4, 0, none⟩)])]) (fun (t:PSt) => [RFnd t.g t.gm A n c t.p t.es, RBlk t.g5 32 [.slice t.A1 t.own.length t.c1], ROwn 5 1 (.slice t.A1 t.own.length t.c1) t.own.length (b8s t.own), RBlk t.g4 32 [.slice t.A2 t.out.length t.c2], ROwn 5 1 (.slice t.A2 t.out.length t.c2) t.out.length (b8s t.out)]) (fun (t:PSt) => []) (fun (t:PSt) => t.i ≤ n ∧ t.p ≤ t.i ∧ FOk l t.p t.es ∧ t.out.length + 2 * t.own.length ≤ 2 * t.i ∧ packF l t.i t.own t.out = packL l) [(0, _)] ⟨rfl, trivial⟩ [] rfl rfl (fun t ⟨hin, hpi, hF, hlen, hE⟩ => ?_) (fun hfall_ => ?_)
  · obtain ⟨g, gm, g4, g5, i, p, c1, c2, A1, A2, own, out, es⟩ := t
    dsimp only at hin hpi hF hlen hE ⊢
    refine hseq <| hseq <| hreg <| hy (fun _ => y_move rfl) <| hy (fun _ => y_move rfl) <| hy (fun _ => y_lenS rfl Tryd.underlying32) <| hy (fun _ => y_eql rfl rfl) <| hend <| hsub (ρ' := [(16, _), (7, _), (3, _), (4, _), (5, _), (6, _), (0, _)]) ⟨rfl, rfl, rfl, rfl, rfl, rfl, rfl, trivial⟩ <| hthen <| ?_
    refine hifb rfl (fun hfin => ?_) (fun hfin => ?_)
    · have hi : i = n := by have := of_decide_eq_true hfin; omega
      rw [packF_end (by omega)] at hE
      refine hseq <| hreg <| hy (fun _ => y_move rfl) <| ?_
      refine hx (xh_callv rfl rfl Tryd.call157 (putC (by omega)) [1, 1, 1, 1] rfl [] rfl ?_)
      rintro _ _ _ ⟨A3, A4, c3, c4, rfl, rfl, rfl⟩
      rw [hE]
      refine hend <| hsub (ρ' := [(16, _), (7, _), (3, _), (4, _), (5, _), (6, _), (0, _)]) ⟨rfl, rfl, rfl, rfl, rfl, rfl, rfl, trivial⟩ <| hmemQ (X' := [_, _, _, _, _]) (S' := [_]) (fun _ m => m) <| hthen <| hseq <| hreg <| hy (fun m => y_ld1 rfl ag32 (ld_blk (m.blk 2 rfl) rfl)) <| hy (fun _ => y_assign rfl) <| hend <| hsub (ρ' := [(2, _), (16, _), (7, _), (3, _), (4, _), (5, _), (6, _), (0, _)]) ⟨rfl, rfl, rfl, rfl, rfl, rfl, rfl, rfl, trivial⟩ <| hthen <| hret <| hthen_ret <| hjump_ret <| ?_
      exact hret1 trivial rfl rfl [3] rfl [] rfl ⟨_, rfl, rfl, rfl⟩
    · have hi : i < n := by have := of_decide_eq_false hfin; omega
      refine hcskip <| hthen <| hseq <| hreg <| hy (fun _ => y_move rfl) <| hy (fun _ => y_move rfl) <| ?_
      refine hx (xh_call rfl Tryd.call158 (matchC (by omega) (by omega) hl (by omega) (by omega) hF) [0] rfl [0] rfl ?_)
      rintro _ _ _ ⟨p1, es1, rfl, rfl, rfl, hp⟩
      obtain ⟨hp1, hF1⟩ := hp
      refine hy (fun _ => y_move rfl) <| hy (fun _ => y_extract rfl rfl) <| hy (fun _ => y_extract rfl rfl) <| hy (fun _ => y_assign rfl) <| hy (fun _ => y_assign rfl) <| hend <| hsub (ρ' := [(9, _), (8, _), (16, _), (7, _), (3, _), (4, _), (5, _), (6, _), (0, _)]) ⟨rfl, rfl, rfl, rfl, rfl, rfl, rfl, rfl, rfl, trivial⟩ <| hmemQ (X' := [_, _, _, _, _]) (S' := [_]) (fun _ m => m) <| hthen <| hseq <| hseq <| hreg <| hy (fun _ => y_move rfl) <| hy (fun _ => y_eql rfl rfl) <| hend <| hsub (ρ' := [(27, _), (9, _), (8, _), (16, _), (7, _), (3, _), (4, _), (5, _), (6, _), (0, _)]) ⟨rfl, rfl, rfl, rfl, rfl, rfl, rfl, rfl, rfl, rfl, trivial⟩ <| hthen <| ?_
      refine hif rfl (fun h0 => ?_) (fun h0 => ?_)
      · rw [packF_own (by omega) (by omega)] at hE
        refine hseq <| hdrwB [0, 0, 1, 1] [0] rfl rfl [5, 6, 7] [(0, some 1), (1, some 0), (2, some 0), (3, some 0), (4, some 0), (5, none), (6, none), (7, none)] (by kernel_rfl) (by kernel_rfl) rfl 2 <| hty (fun m => y_ld1 rfl ag32 (ld_blk (m.blk 1 rfl) rfl)) <| htyU (y_move rfl) <| htyU (y_move rfl) <| htyU (y_idxS1 rfl rfl Tryd.underlying32 sz5 hA_r rfl (by omega)) <| hty (fun m => y_ld1 rfl ag5 ((m.rd 0 rfl).cell (b8s_get (by omega)))) <| ?_
        refine htx (xh_bsl Tryd.underlying32 ti5 rfl rfl rfl (by simp [Value.cells, B8]) (by decide) (by decide) (fun g33 => ⟨(fun _ => wk [1, 1, 2, 2] [0] rfl rfl), ?_⟩))
        have hA_b33 : 0 < 1 → (some (⟨g33, 0, none⟩ : Addr)) ≠ none := fun _ h => by cases h
        refine htmem (fun w m => m.eqX 0 rfl (show _ = ROwn 5 1 (.slice (some ⟨g33, 0, none⟩) 1 1) 1 (b8s [l.getD i 0]) from rfl)) ?_
        refine htx (xh_app 3 rfl rfl rfl Tryd.underlying32 Tryd.underlying32 (by exact .inl rfl) ti5 rfl (fun m => Src.of_rd (m.ord 0 rfl)) b8s_one (by unfold maxLen; omega) (by omega) (fun u => ⟨(fun _ => wk [2, 2, 2, 2] [0] rfl rfl), ?_⟩))
        refine htfact (fun m => (m.own 0 rfl).slice) ?_
        rintro ⟨A_x, c_x, rfl, hc_x⟩
        refine htfact (fun m => (m.ord 0 rfl).2.1) fun hA_x => ?_
        refine htx0 (xh_st1 3 rfl rfl rfl sz32 rfl (by first | exact Nat.le_of_ble_eq_true rfl | simp) ⟨(fun h => absurd h (by decide)), ?_⟩)
        refine htend <| hsub (ρ' := [(27, _), (9, _), (8, _), (16, _), (7, _), (3, _), (4, _), (5, _), (6, _), (0, _)]) ⟨rfl, rfl, rfl, rfl, rfl, rfl, rfl, rfl, rfl, rfl, trivial⟩ <| hmemQ (X' := [_, _, _, _, _, _]) (S' := [_]) (fun _ m => m) <| hthen <| hseq <| hreg <| hy (fun _ => y_move rfl) <| hy (fun _ => y_add rfl rfl (w64 (by omega) (by omega))) <| hy (fun _ => y_assign rfl) <| hend <| hsub (ρ' := [(7, _), (27, _), (9, _), (8, _), (16, _), (3, _), (4, _), (5, _), (6, _), (0, _)]) ⟨rfl, rfl, rfl, rfl, rfl, rfl, rfl, rfl, rfl, rfl, trivial⟩ <| hthen <| hcgoto <| hthen_goto <| ?_
        have hol : own.length + 1 = (own ++ [l.getD i 0]).length := by simp
        rw [hol]
        refine hmemQ (fun w m => m.eqX 1 rfl (show _ = ROwn 5 1 (.slice A_x (own ++ [l.getD i 0]).length c_x) (own ++ [l.getD i 0]).length (b8s (own ++ [l.getD i 0])) from congrArg (ROwn _ _ _ _) (b8s_append _ _).symm)) ?_
        exact hgoto1 (⟨g, gm, g4, g5, i + 1, p1, c_x, c2, A_x, A2, own ++ [l.getD i 0], out, es1⟩) ⟨rfl, rfl, rfl, rfl, rfl, rfl, trivial⟩ [3, 1, 0, 1, 1] rfl [0] rfl (⟨hi, Nat.le_succ_of_le hp1, hF1, by show out.length + 2 * (own ++ [l.getD i 0]).length ≤ 2 * (i + 1); rw [← hol]; omega, hE⟩) (by show n - (i + 1) < n - i; omega)
      · have hm := matchL_ok (b := l) (i := i) (by omega)
        rw [packF_match (by omega) (by omega)] at hE
        obtain ⟨m1, m2, m3, m4, m5, m6⟩ := hm.resolve_left (fun e => h0 (by rw [e]; rfl))
        refine hcskip <| hthen <| hseq <| hreg <| hy (fun _ => y_move rfl) <| ?_
        refine hx (xh_callv rfl rfl Tryd.call157 (putC (by omega)) [1, 1, 1, 1] rfl [] rfl ?_)
        rintro _ _ _ ⟨A3, A4, c3, c4, rfl, rfl, rfl⟩
        refine hend <| hsub (ρ' := [(27, _), (9, _), (8, _), (16, _), (7, _), (3, _), (4, _), (5, _), (6, _), (0, _)]) ⟨rfl, rfl, rfl, rfl, rfl, rfl, rfl, rfl, rfl, rfl, trivial⟩ <| hmemQ (X' := [_, _, _, _, _]) (S' := [_]) (fun _ m => m) <| hthen <| hseq <| hreg <| hy (fun m => y_ld1 rfl ag32 (ld_blk (m.blk 2 rfl) rfl)) <| hy (fun _ => y_move rfl) <| hy (fun _ => y_add rfl rfl (w64 (by omega) (by omega))) <| hy (fun _ => yV (y_sub rfl rfl (w64 (by omega) (by omega))) ((show Value.int .i64 (128 + ((matchL l i).1 : Int) - 4) = .int .i64 ((124 + (matchL l i).1 : Nat) : Int) by congr 1; omega))) <| hy (fun _ => yV (y_conv rfl Tryd.underlying3 Tryd.underlying5 (u8mod _)) ((show Value.int .u8 _ = B8 (UInt8.ofNat (124 + (matchL l i).1)) from rfl))) <| hy (fun _ => y_move rfl) <| hy (fun _ => yV (y_sub rfl rfl (w64 (by omega) (by omega))) ((show Value.int .i64 (((matchL l i).2 : Int) - 1) = .int .i64 (((matchL l i).2 - 1 : Nat) : Int) by congr 1; omega))) <| hy (fun _ => yV (y_conv rfl Tryd.underlying3 Tryd.underlying5 (u8mod _)) ((show Value.int .u8 _ = B8 (UInt8.ofNat ((matchL l i).2 - 1)) from rfl))) <| hy (fun _ => y_move rfl) <| hy (fun _ => yV (y_sub rfl rfl (w64 (by omega) (by omega))) ((show Value.int .i64 (((matchL l i).2 : Int) - 1) = .int .i64 (((matchL l i).2 - 1 : Nat) : Int) by congr 1; omega))) <| hy (fun _ => yV (y_shr (p := 256) rfl rfl (by decide) (by decide) (by decide)) ((show Value.int .i64 ((((matchL l i).2 - 1 : Nat) : Int) / 256) = .int .i64 ((((matchL l i).2 - 1) / 256 : Nat) : Int) by congr 1))) <| hy (fun _ => yV (y_conv rfl Tryd.underlying3 Tryd.underlying5 (u8mod _)) ((show Value.int .u8 _ = B8 (UInt8.ofNat (((matchL l i).2 - 1) / 256)) from rfl))) <| ?_
        refine hx (xh_bsl Tryd.underlying32 ti5 rfl rfl rfl (by simp [Value.cells, B8]) (by decide) (by decide) (fun g51 => ?_))
        have hA_b51 : 0 < 3 → (some (⟨g51, 0, none⟩ : Addr)) ≠ none := fun _ h => by cases h
        refine hmemL (fun w m => m.eqX 0 rfl (show _ = ROwn 5 1 (.slice (some ⟨g51, 0, none⟩) 3 3) 3 (b8s (tokM (matchL l i))) from rfl)) ?_
        have hll := litL_length own
        have hlo : (out ++ litL own).length = out.length + (litL own).length := by simp
        refine hx (xh_app 4 rfl rfl rfl Tryd.underlying32 Tryd.underlying32 (by exact .inl rfl) ti5 rfl (fun m => Src.of_rd (m.ord 0 rfl)) b8s_one (by unfold maxLen; omega) (by omega) (fun u => ?_))
        refine hfactL (fun m => (m.own 0 rfl).slice) ?_
        rintro ⟨A_y, c_y, rfl, hc_y⟩
        refine hfactL (fun m => (m.ord 0 rfl).2.1) fun hA_y => ?_
        refine hx0 (xh_st1 4 rfl rfl rfl sz32 rfl (by first | exact Nat.le_of_ble_eq_true rfl | simp) ?_)
        refine hend <| hsub (ρ' := [(27, _), (9, _), (8, _), (16, _), (7, _), (3, _), (4, _), (5, _), (6, _), (0, _)]) ⟨rfl, rfl, rfl, rfl, rfl, rfl, rfl, rfl, rfl, rfl, trivial⟩ <| hmemQ (X' := [_, _, _, _, _, _]) (S' := [_]) (fun _ m => m) <| hthen <| hseq <| hreg <| hy (fun _ => y_move rfl) <| hy (fun _ => y_move rfl) <| hy (fun _ => yV (y_add rfl rfl (w64 (by omega) (by omega))) ((show Value.int .i64 ((i : Int) + ((matchL l i).1 : Int)) = .int .i64 ((i + (matchL l i).1 : Nat) : Int) by congr 1))) <| hy (fun _ => y_assign rfl) <| hend <| hsub (ρ' := [(7, _), (27, _), (9, _), (8, _), (16, _), (3, _), (4, _), (5, _), (6, _), (0, _)]) ⟨rfl, rfl, rfl, rfl, rfl, rfl, rfl, rfl, rfl, rfl, trivial⟩ <| hthen <| hcgoto <| ?_
        have hol : (out ++ litL own).length + 3 = (out ++ litL own ++ tokM (matchL l i)).length := by simp [tokM]; omega
        rw [hol]
        refine hmemQ (fun w m => m.eqX 1 rfl (show _ = ROwn 5 1 (.slice A_y (out ++ litL own ++ tokM (matchL l i)).length c_y) (out ++ litL own ++ tokM (matchL l i)).length (b8s (out ++ litL own ++ tokM (matchL l i))) from congrArg (ROwn _ _ _ _) (b8s_append _ _).symm)) ?_
        exact hgoto1 (⟨g, gm, g4, g5, i + (matchL l i).1, p1, c3, c_y, A3, A_y, [], out ++ litL own ++ tokM (matchL l i), es1⟩) ⟨rfl, rfl, rfl, rfl, rfl, rfl, trivial⟩ [5, 3, 3, 1, 0] rfl [0] rfl (⟨by show i + (matchL l i).1 ≤ n; omega, by show p1 ≤ i + (matchL l i).1; omega, hF1, by show (out ++ litL own ++ tokM (matchL l i)).length + 2 * 0 ≤ 2 * (i + (matchL l i).1); rw [← hol]; omega, hE⟩) (by show n - (i + (matchL l i).1) < n - i; omega)
  · refine hseq <| hreg <| hy (fun _ => y_move rfl) <| ?_
    refine hx (xh_call rfl Tryd.call156 (overC) [] rfl [] rfl ?_)
    rintro _ _ _ ⟨g, gm, rfl, rfl, rfl⟩
    refine hy (fun _ => y_assign rfl) <| hend <| hsub (ρ' := [(3, _), (2, _), (0, _)]) ⟨rfl, rfl, rfl, trivial⟩ <| hmemQ (X' := [_]) (S' := [_]) (fun _ m => m) <| hthen <| hseq <| hreg <| ?_
    refine hx (xh_alloc ti32 (fun g4 => ?_))
    refine hx (xh_alloc ti32 (fun g5 => ?_))
    refine hend <| hmemQ (X' := [_, _, _]) (S' := [_]) (fun _ m => m) <| hthen <| hseq <| hreg <| hy (fun _ => y_mkf rfl rfl) <| hy (fun _ => y_assign rfl) <| hend <| hsub (ρ' := [(6, _), (5, _), (4, _), (3, _), (2, _), (0, _)]) ⟨rfl, rfl, rfl, rfl, rfl, rfl, trivial⟩ <| hthen <| hseq <| hreg <| hy (fun _ => y_assign rfl) <| hend <| hthen <| ?_
    refine hmemC (fun w m => m.eqX 1 rfl (show _ = RBlk g4 32 [.slice none 0 0] from rfl)) ?_
    refine hmemC (fun w m => m.eqX 1 rfl (show _ = RBlk g5 32 [.slice none 0 0] from rfl)) ?_
    refine hmemC (fun w m => m.addX (r' := ROwn 5 1 (.slice none 0 0) 0 []) (.refl _ _) (Own.nil _ _ _ _) (fun k hk => hk.elim)) ?_
    refine hmemC (fun w m => m.addX (r' := ROwn 5 1 (.slice none 0 0) 0 []) (.refl _ _) (Own.nil _ _ _ _) (fun k hk => hk.elim)) ?_
    exact hfallH (hfall1 (R := fun (t:PSt) => [(7, .int .i64 (t.i : Nat)), (3, .pointer (some ⟨t.g, 0, none⟩)), (4, .pointer (some ⟨t.g4, 0, none⟩)), (5, .pointer (some ⟨t.g5, 0, none⟩)), (6, .func (.func 157) #[] #[.pointer (some ⟨t.g5, 0, none⟩), .pointer (some ⟨t.g4, 0, none⟩)])]) (X1 := fun (t:PSt) => [RFnd t.g t.gm A n c t.p t.es, RBlk t.g5 32 [.slice t.A1 t.own.length t.c1], ROwn 5 1 (.slice t.A1 t.own.length t.c1) t.own.length (b8s t.own), RBlk t.g4 32 [.slice t.A2 t.out.length t.c2], ROwn 5 1 (.slice t.A2 t.out.length t.c2) t.out.length (b8s t.out)]) (S1 := fun (t:PSt) => []) (I := fun (t:PSt) => t.i ≤ n ∧ t.p ≤ t.i ∧ FOk l t.p t.es ∧ t.out.length + 2 * t.own.length ≤ 2 * t.i ∧ packF l t.i t.own t.out = packL l) (⟨g, gm, g4, g5, 0, 0, 0, 0, none, none, [], [], []⟩) ⟨rfl, rfl, rfl, rfl, rfl, rfl, trivial⟩ [4, 2, 1, 1, 0] rfl [0] rfl (⟨Nat.zero_le _, Nat.le_refl _, fok_nil _, Nat.le_refl _, rfl⟩)) hfall_
end Go.Proofs.YtfikjheicjamhaaDoor
end
section
/- Frames (layer 6), over plain lists. No program. -/
set_option linter.unusedVariables false
set_option linter.unusedSimpArgs false
namespace Go.Hx
open Go.Eng
/-- is it packed? -/
def pkd (b : List UInt8) : Bool := decide ((packL b).length < b.length)
def fbody (b : List UInt8) : List UInt8 := if pkd b then packL b else b
/-- bytes' frame -/
def sealL (b : List UInt8) : List UInt8 := [76, if pkd b then 1 else 0] ++ le4 b.length ++ fbody b ++ le4 (crcSum b)
theorem fbody_length (b : List UInt8) : (fbody b).length ≤ b.length := by
  unfold fbody pkd
  split
  · rename_i h; have := of_decide_eq_true h; omega
  · exact Nat.le_refl _
theorem sealL_length (b : List UInt8) : (sealL b).length = (fbody b).length + 10 := by simp [sealL, le4_length]; omega
theorem sealL_le (b : List UInt8) : 10 ≤ (sealL b).length ∧ (sealL b).length ≤ b.length + 10 := by
  have := fbody_length b
  rw [sealL_length]
  omega
/-- how many bytes a frame tells -/
def lenF (f : List UInt8) : Option Nat := if f.length < 10 ∨ f.getD 0 0 ≠ 76 ∨ 1 < (f.getD 1 0).toNat then none else some (num4 (f.drop 2))
def bodyF (f : List UInt8) : List UInt8 := (f.drop 6).take (f.length - 10)
/-- what is unpacked -/
def unF (f : List UInt8) (n : Nat) : List UInt8 × Int := if f.getD 1 0 = 1 then unp n (bodyF f) [] else (bodyF f, 0)
def openN (f : List UInt8) (n : Nat) : List UInt8 × Int :=
  if (unF f n).2 ≠ 0 then ([], 2) else if (unF f n).1.length ≠ n then ([], 2) else if le4 (crcSum (unF f n).1) ≠ f.drop (f.length - 4) then ([], 7) else ((unF f n).1, 0)
/-- a frame's bytes, or why not -/
def openL (f : List UInt8) (most : Int) : List UInt8 × Int :=
  match lenF f with
  | none => ([], 2)
  | some n => if most < n then ([], 3) else openN f n
theorem unp_length {most : Int} : ∀ (l o : List UInt8), (o.length : Int) ≤ most → (((unp most l o).1.length : Int) ≤ most ∨ (unp most l o).1 = []) ∧ ((unp most l o).2 = 0 ∨ (unp most l o).2 = 2 ∨ (unp most l o).2 = 3) ∧ ((unp most l o).2 ≠ 0 → (unp most l o).1 = [])
  | l, o, hm => by
    by_cases h0 : l = []
    · subst h0; rw [unp_nil]; exact ⟨.inl hm, .inl rfl, fun h => absurd rfl h⟩
    · by_cases h1 : (tokL l).2.2.2 = true ∧ (tokL l).2.2.1 ≤ o.length
      · by_cases h2 : most < (o.length : Int) + ((tokL l).2.1 : Nat)
        · rw [unp_far h0 h1.1 h1.2 h2]; exact ⟨.inr rfl, .inr (.inr rfl), fun _ => rfl⟩
        · rw [unp_go h0 h1.1 h1.2 h2]
          exact unp_length _ _ (by rw [made_length h1.1]; omega)
      · rw [unp_bad h0 h1]; exact ⟨.inr rfl, .inr (.inl rfl), fun _ => rfl⟩
termination_by l => l.length
decreasing_by
  obtain ⟨h2, h3⟩ := tokL_size h1.1
  rw [List.length_drop]
  omega
theorem seal_parts (b : List UInt8) : (sealL b).getD 0 0 = 76 ∧ (sealL b).getD 1 0 = (if pkd b then 1 else 0) ∧ (sealL b).drop 2 = le4 b.length ++ (fbody b ++ le4 (crcSum b)) ∧ bodyF (sealL b) = fbody b ∧ (sealL b).drop ((sealL b).length - 4) = le4 (crcSum b) := by
  refine ⟨by simp [sealL], by simp [sealL], by simp [sealL], ?_, ?_⟩
  · unfold bodyF
    have h6 : (sealL b).drop 6 = fbody b ++ le4 (crcSum b) := by simp [sealL, le4]
    rw [h6, sealL_length, Nat.add_sub_cancel]
    exact List.take_left
  · rw [sealL_length]
    have : sealL b = ([76, if pkd b then 1 else 0] ++ le4 b.length ++ fbody b) ++ le4 (crcSum b) := rfl
    rw [this, List.drop_append_of_le_length (by simp [le4_length]; omega), List.drop_of_length_le (by simp [le4_length]; omega)]
    rfl
theorem lenF_seal {b : List UInt8} (h : b.length < 4294967296) : lenF (sealL b) = some b.length := by
  obtain ⟨h0, h1, h2, _, _⟩ := seal_parts b
  have hl := sealL_le b
  unfold lenF
  rw [if_neg, h2]
  · congr 1
    have : num4 (le4 b.length ++ (fbody b ++ le4 (crcSum b))) = num4 (le4 b.length) := by simp [num4, le4]
    rw [this, num4_le4 h]
  · rw [h0, h1]
    rintro (q | q | q)
    · omega
    · exact q rfl
    · cases hp : pkd b <;> rw [hp] at q <;> exact absurd q (by decide)
theorem unF_seal (b : List UInt8) : unF (sealL b) b.length = (b, 0) := by
  obtain ⟨_, h1, _, h3, _⟩ := seal_parts b
  unfold unF
  rw [h1, h3]
  cases hp : pkd b with
  | true =>
    rw [if_pos rfl]
    unfold fbody
    rw [hp, if_pos rfl]
    exact unp_packL (Int.le_refl _)
  | false =>
    rw [if_neg (by decide)]
    unfold fbody
    rw [hp]
    rfl
theorem open_seal {b : List UInt8} {most : Int} (h : b.length < 4294967296) (hm : (b.length : Int) ≤ most) : openL (sealL b) most = (b, 0) := by
  unfold openL
  rw [lenF_seal h]
  simp only
  rw [if_neg (by omega)]
  unfold openN
  rw [unF_seal, (seal_parts b).2.2.2.2, if_neg (by simp), if_neg (by simp), if_neg (by simp)]
end Go.Hx
end
section
/- Contracts: frames (layer 6): sealing, lengths. -/
set_option linter.unusedVariables false
set_option linter.unusedSimpArgs false
set_option maxRecDepth 20000
set_option maxHeartbeats 2000000
namespace Go.Proofs.YtfikjheicjamhaaDoor
open Go.Eng Go.Hx
theorem crcSumC {A : Option Addr} {n c : Nat} {l : List UInt8} (hn : n ≤ 70368744177664) : Con Tryd.prog 117 [.slice A n c] [] [RRd 1 A n (b8s l)] (fun v_ X_ S_ => v_ = (.int .u32 (crcSum l : Nat)) ∧ X_ = [] ∧ S_ = []) := by
  exact con_pure fun m => Calls.mono (crcSum_c A n c l _ (m.rd 0 rfl) (by omega)) (fun e w' ⟨h, hf⟩ => ⟨_, h, ⟨rfl, rfl, rfl⟩, hf⟩)
theorem fnumberC {k : Nat} (hk : k < 4294967296) : Con Tryd.prog 116 [.int .u32 (k : Nat)] [] [] (fun v_ X_ S_ => ∃ v, v_ = v ∧ X_ = [ROwn 5 1 v 4 (b8s (le4 k))] ∧ S_ = []) := by
  refine henter (N := 15) Tryd.func116 rfl rfl (by simp) fun b => ?_
  refine hseq <| hreg <| hy (fun _ => y_assign rfl) <| hend <| hthen <| hseq <| hreg <| hy (fun _ => y_move rfl) <| hy (fun _ => yV (y_conv rfl Tryd.underlying120 Tryd.underlying5 (u8mod _)) ((show Value.int .u8 _ = B8 (UInt8.ofNat k) from rfl))) <| hy (fun _ => y_move rfl) <| hy (fun _ => yV (y_shr (p := 256) rfl rfl (by decide) (by decide) (by decide)) ((show Value.int .u32 ((k : Int) / 256) = .int .u32 ((k / 256 : Nat) : Int) by congr 1))) <| hy (fun _ => yV (y_conv rfl Tryd.underlying120 Tryd.underlying5 (u8mod _)) ((show Value.int .u8 _ = B8 (UInt8.ofNat (k / 256)) from rfl))) <| hy (fun _ => y_move rfl) <| hy (fun _ => yV (y_shr (p := 65536) rfl rfl (by decide) (by decide) (by decide)) ((show Value.int .u32 ((k : Int) / 65536) = .int .u32 ((k / 65536 : Nat) : Int) by congr 1))) <| hy (fun _ => yV (y_conv rfl Tryd.underlying120 Tryd.underlying5 (u8mod _)) ((show Value.int .u8 _ = B8 (UInt8.ofNat (k / 65536)) from rfl))) <| hy (fun _ => y_move rfl) <| hy (fun _ => yV (y_shr (p := 16777216) rfl rfl (by decide) (by decide) (by decide)) ((show Value.int .u32 ((k : Int) / 16777216) = .int .u32 ((k / 16777216 : Nat) : Int) by congr 1))) <| hy (fun _ => yV (y_conv rfl Tryd.underlying120 Tryd.underlying5 (u8mod _)) ((show Value.int .u8 _ = B8 (UInt8.ofNat (k / 16777216)) from rfl))) <| ?_
  refine hx (xh_bsl Tryd.underlying32 ti5 rfl rfl rfl (by simp [Value.cells, B8]) (by decide) (by decide) (fun g14 => ?_))
  have hA_b14 : 0 < 4 → (some (⟨g14, 0, none⟩ : Addr)) ≠ none := fun _ h => by cases h
  refine hy (fun _ => y_assign rfl) <| hend <| hsub (ρ' := [(2, _), (0, _)]) ⟨rfl, rfl, trivial⟩ <| hmemQ (X' := [_]) (S' := []) (fun _ m => m) <| hthen <| hret <| ?_
  refine hmemQ (fun w m => m.eqX 0 rfl (show _ = ROwn 5 1 (.slice (some ⟨g14, 0, none⟩) 4 4) 4 (b8s (le4 k)) from rfl)) ?_
  exact hret1 trivial rfl rfl [0] rfl [] rfl ⟨_, rfl, rfl, rfl⟩
theorem sealC {A : Option Addr} {n c : Nat} {l : List UInt8} (hc : n ≤ c) (hn : n ≤ 100000000) (hl : l.length = n) : Con Tryd.prog 95 [.slice A n c] [] [RRd 1 A n (b8s l)] (fun v_ X_ S_ => ∃ v, v_ = v ∧ X_ = [ROwn 5 1 v (sealL l).length (b8s (sealL l))] ∧ S_ = []) := by
  have hpl := packL_length l
  have hlt : n < 4294967296 := by omega
  have hcl := crcSum_lt l
  refine henter (N := 31) Tryd.func95 rfl rfl (by simp) fun b => ?_
  refine hfactC (fun m => rdB (m.rd 0 rfl)) ?_
  rintro ⟨hl_r, hA_r⟩
  refine hseq <| hreg <| hy (fun _ => y_assign rfl) <| hend <| hthen <| hseq <| hreg <| hy (fun _ => y_move rfl) <| hy (fun _ => y_assign rfl) <| hy (fun _ => y_assign rfl) <| hend <| hsub (ρ' := [(4, _), (3, _), (2, _), (0, _)]) ⟨rfl, rfl, rfl, rfl, trivial⟩ <| hthen <| hseq <| hseq <| hreg <| hy (fun _ => y_move rfl) <| ?_
  refine hx (xh_call rfl Tryd.call139 (packC (by omega) (by omega) (by omega)) [] rfl [0] rfl ?_)
  rintro _ _ _ ⟨v, rfl, rfl, rfl⟩
  refine hfactL (fun m => (m.own 0 rfl).slice) ?_
  rintro ⟨A_y, c_y, rfl, hc_y⟩
  refine hfactL (fun m => (m.ord 0 rfl).2.1) fun hA_y => ?_
  refine hy (fun _ => y_assign rfl) <| hend <| hsub (ρ' := [(5, _), (4, _), (3, _), (2, _), (0, _)]) ⟨rfl, rfl, rfl, rfl, rfl, trivial⟩ <| hmemQ (X' := [_]) (S' := [_]) (fun _ m => m) <| hthen <| hseq <| hreg <| hy (fun _ => y_move rfl) <| hy (fun _ => y_lenS rfl Tryd.underlying32) <| hy (fun _ => y_move rfl) <| hy (fun _ => y_lenS rfl Tryd.underlying32) <| hy (fun _ => y_lss rfl rfl) <| hend <| hsub (ρ' := [(14, _), (5, _), (4, _), (3, _), (2, _), (0, _)]) ⟨rfl, rfl, rfl, rfl, rfl, rfl, trivial⟩ <| hthen <| ?_
  refine hif rfl (fun hp => ?_) (fun hp => ?_)
  · have hq : sealL l = [76, 1] ++ le4 l.length ++ packL l ++ le4 (crcSum l) := by
      have : pkd l = true := by unfold pkd; exact decide_eq_true (by omega)
      unfold sealL fbody
      rw [this]; rfl
    refine hreg <| hy (fun _ => y_move rfl) <| hy (fun _ => y_assign rfl) <| hy (fun _ => y_assign rfl) <| hend <| hsub (ρ' := [(4, _), (3, _), (14, _), (5, _), (2, _), (0, _)]) ⟨rfl, rfl, rfl, rfl, rfl, rfl, trivial⟩ <| hthen <| hseq <| hreg <| hy (fun _ => y_move rfl) <| ?_
    refine hx (xh_bsl Tryd.underlying32 ti5 rfl rfl rfl (by simp [Value.cells, B8]) (by decide) (by decide) (fun g17 => ?_))
    have hA_b17 : 0 < 2 → (some (⟨g17, 0, none⟩ : Addr)) ≠ none := fun _ h => by cases h
    refine hy (fun _ => y_move rfl) <| hy (fun _ => y_lenS rfl Tryd.underlying32) <| hy (fun _ => y_conv rfl Tryd.underlying3 Tryd.underlying120 (w32 (by omega) (by omega))) <| ?_
    refine hx (xh_call rfl Tryd.call116 (fnumberC (by omega)) [] rfl [] rfl ?_)
    rintro _ _ _ ⟨v2, rfl, rfl, rfl⟩
    refine hfactL (fun m => (m.own 0 rfl).slice) ?_
    rintro ⟨A_x, c_x, rfl, hc_x⟩
    refine hfactL (fun m => (m.ord 0 rfl).2.1) fun hA_x => ?_
    refine hmemL (fun w m => m.eqX 1 rfl (show _ = ROwn 5 1 (.slice (some ⟨g17, 0, none⟩) 2 2) 2 (b8s [76, 1]) from rfl)) ?_
    refine hx (xh_app 0 rfl rfl rfl Tryd.underlying32 Tryd.underlying32 (by exact .inl rfl) ti5 rfl (fun m => Src.of_rd (m.ord 1 rfl)) b8s_one (by unfold maxLen; omega) (by omega) (fun u => ?_))
    refine hfactL (fun m => (m.own 0 rfl).slice) ?_
    rintro ⟨A_b17, c_b17, rfl, hc_b17⟩
    refine hfactL (fun m => (m.ord 0 rfl).2.1) fun hA_b17 => ?_
    refine hy (fun _ => y_assign rfl) <| hend <| hsub (ρ' := [(6, _), (4, _), (3, _), (14, _), (5, _), (2, _), (0, _)]) ⟨rfl, rfl, rfl, rfl, rfl, rfl, rfl, trivial⟩ <| hmemQ (X' := [_, _, _]) (S' := [_]) (fun _ m => m) <| hthen <| hseq <| hreg <| hy (fun _ => y_move rfl) <| hy (fun _ => y_move rfl) <| ?_
    refine hx (xh_app 0 rfl rfl rfl Tryd.underlying32 Tryd.underlying32 (by exact .inl rfl) ti5 rfl (fun m => Src.of_rd (m.ord 2 rfl)) b8s_one (by unfold maxLen; omega) (by omega) (fun u2 => ?_))
    refine hfactL (fun m => (m.own 0 rfl).slice) ?_
    rintro ⟨A_b172, c_b172, rfl, hc_b17⟩
    refine hfactL (fun m => (m.ord 0 rfl).2.1) fun hA_b17 => ?_
    refine hy (fun _ => y_assign rfl) <| hend <| hsub (ρ' := [(6, _), (4, _), (3, _), (14, _), (5, _), (2, _), (0, _)]) ⟨rfl, rfl, rfl, rfl, rfl, rfl, rfl, trivial⟩ <| hmemQ (X' := [_, _, _]) (S' := [_]) (fun _ m => m) <| hthen <| hseq <| hreg <| hy (fun _ => y_move rfl) <| hy (fun _ => y_move rfl) <| ?_
    refine hx (xh_call rfl Tryd.call117 (crcSumC (by omega)) [] rfl [0] rfl ?_)
    rintro _ _ _ ⟨rfl, rfl, rfl⟩
    refine hx (xh_call rfl Tryd.call116 (fnumberC (by omega)) [] rfl [] rfl ?_)
    rintro _ _ _ ⟨v3, rfl, rfl, rfl⟩
    refine hfactL (fun m => (m.own 0 rfl).slice) ?_
    rintro ⟨A_x2, c_x2, rfl, hc_x2⟩
    refine hfactL (fun m => (m.ord 0 rfl).2.1) fun hA_x2 => ?_
    refine hx (xh_app 1 rfl rfl rfl Tryd.underlying32 Tryd.underlying32 (by exact .inl rfl) ti5 rfl (fun m => Src.of_rd (m.ord 0 rfl)) b8s_one (by unfold maxLen; omega) (by omega) (fun u3 => ?_))
    refine hfactL (fun m => (m.own 0 rfl).slice) ?_
    rintro ⟨A_b173, c_b173, rfl, hc_b17⟩
    refine hfactL (fun m => (m.ord 0 rfl).2.1) fun hA_b17 => ?_
    refine hy (fun _ => y_assign rfl) <| hend <| hsub (ρ' := [(2, _), (6, _), (4, _), (3, _), (14, _), (5, _), (0, _)]) ⟨rfl, rfl, rfl, rfl, rfl, rfl, rfl, trivial⟩ <| hmemQ (X' := [_, _, _, _]) (S' := [_]) (fun _ m => m) <| hthen <| hret <| ?_
    have hol : 2 + 4 + (packL l).length + 4 = (sealL l).length := by rw [hq]; simp [le4_length, hl]; try omega
    rw [hol]
    have hsl : b8s [76, 1] ++ b8s (le4 n) ++ b8s (packL l) ++ b8s (le4 (crcSum l)) = b8s (sealL l) := by rw [hq, hl, b8s_append, b8s_append, b8s_append]
    rw [hsl]
    exact hret1 trivial rfl rfl [0] rfl [] rfl ⟨_, rfl, rfl, rfl⟩
  · have hq : sealL l = [76, 0] ++ le4 l.length ++ l ++ le4 (crcSum l) := by
      have : pkd l = false := by unfold pkd; exact decide_eq_false (by omega)
      unfold sealL fbody
      rw [this]; rfl
    refine hcskip <| hthen <| hseq <| hreg <| hy (fun _ => y_move rfl) <| ?_
    refine hx (xh_bsl Tryd.underlying32 ti5 rfl rfl rfl (by simp [Value.cells, B8]) (by decide) (by decide) (fun g17 => ?_))
    have hA_b17 : 0 < 2 → (some (⟨g17, 0, none⟩ : Addr)) ≠ none := fun _ h => by cases h
    refine hy (fun _ => y_move rfl) <| hy (fun _ => y_lenS rfl Tryd.underlying32) <| hy (fun _ => y_conv rfl Tryd.underlying3 Tryd.underlying120 (w32 (by omega) (by omega))) <| ?_
    refine hx (xh_call rfl Tryd.call116 (fnumberC (by omega)) [] rfl [] rfl ?_)
    rintro _ _ _ ⟨v2, rfl, rfl, rfl⟩
    refine hfactL (fun m => (m.own 0 rfl).slice) ?_
    rintro ⟨A_x, c_x, rfl, hc_x⟩
    refine hfactL (fun m => (m.ord 0 rfl).2.1) fun hA_x => ?_
    refine hmemL (fun w m => m.eqX 1 rfl (show _ = ROwn 5 1 (.slice (some ⟨g17, 0, none⟩) 2 2) 2 (b8s [76, 0]) from rfl)) ?_
    refine hx (xh_app 0 rfl rfl rfl Tryd.underlying32 Tryd.underlying32 (by exact .inl rfl) ti5 rfl (fun m => Src.of_rd (m.ord 1 rfl)) b8s_one (by unfold maxLen; omega) (by omega) (fun u => ?_))
    refine hfactL (fun m => (m.own 0 rfl).slice) ?_
    rintro ⟨A_b17, c_b17, rfl, hc_b17⟩
    refine hfactL (fun m => (m.ord 0 rfl).2.1) fun hA_b17 => ?_
    refine hy (fun _ => y_assign rfl) <| hend <| hsub (ρ' := [(6, _), (14, _), (5, _), (4, _), (3, _), (2, _), (0, _)]) ⟨rfl, rfl, rfl, rfl, rfl, rfl, rfl, trivial⟩ <| hmemQ (X' := [_, _, _]) (S' := [_]) (fun _ m => m) <| hthen <| hseq <| hreg <| hy (fun _ => y_move rfl) <| hy (fun _ => y_move rfl) <| ?_
    refine hx (xh_app 0 rfl rfl rfl Tryd.underlying32 Tryd.underlying32 (by exact .inl rfl) ti5 rfl (fun m => Src.of_rd (m.rd 0 rfl)) b8s_one (by unfold maxLen; omega) (by omega) (fun u2 => ?_))
    refine hfactL (fun m => (m.own 0 rfl).slice) ?_
    rintro ⟨A_b172, c_b172, rfl, hc_b17⟩
    refine hfactL (fun m => (m.ord 0 rfl).2.1) fun hA_b17 => ?_
    refine hy (fun _ => y_assign rfl) <| hend <| hsub (ρ' := [(6, _), (14, _), (5, _), (4, _), (3, _), (2, _), (0, _)]) ⟨rfl, rfl, rfl, rfl, rfl, rfl, rfl, trivial⟩ <| hmemQ (X' := [_, _, _]) (S' := [_]) (fun _ m => m) <| hthen <| hseq <| hreg <| hy (fun _ => y_move rfl) <| hy (fun _ => y_move rfl) <| ?_
    refine hx (xh_call rfl Tryd.call117 (crcSumC (by omega)) [] rfl [0] rfl ?_)
    rintro _ _ _ ⟨rfl, rfl, rfl⟩
    refine hx (xh_call rfl Tryd.call116 (fnumberC (by omega)) [] rfl [] rfl ?_)
    rintro _ _ _ ⟨v3, rfl, rfl, rfl⟩
    refine hfactL (fun m => (m.own 0 rfl).slice) ?_
    rintro ⟨A_x2, c_x2, rfl, hc_x2⟩
    refine hfactL (fun m => (m.ord 0 rfl).2.1) fun hA_x2 => ?_
    refine hx (xh_app 1 rfl rfl rfl Tryd.underlying32 Tryd.underlying32 (by exact .inl rfl) ti5 rfl (fun m => Src.of_rd (m.ord 0 rfl)) b8s_one (by unfold maxLen; omega) (by omega) (fun u3 => ?_))
    refine hfactL (fun m => (m.own 0 rfl).slice) ?_
    rintro ⟨A_b173, c_b173, rfl, hc_b17⟩
    refine hfactL (fun m => (m.ord 0 rfl).2.1) fun hA_b17 => ?_
    refine hy (fun _ => y_assign rfl) <| hend <| hsub (ρ' := [(2, _), (6, _), (14, _), (5, _), (4, _), (3, _), (0, _)]) ⟨rfl, rfl, rfl, rfl, rfl, rfl, rfl, trivial⟩ <| hmemQ (X' := [_, _, _, _]) (S' := [_]) (fun _ m => m) <| hthen <| hret <| ?_
    have hol : 2 + 4 + n + 4 = (sealL l).length := by rw [hq]; simp [le4_length, hl]; try omega
    rw [hol]
    have hsl : b8s [76, 0] ++ b8s (le4 n) ++ b8s l ++ b8s (le4 (crcSum l)) = b8s (sealL l) := by rw [hq, hl, b8s_append, b8s_append, b8s_append]
    rw [hsl]
    exact hret1 trivial rfl rfl [0] rfl [] rfl ⟨_, rfl, rfl, rfl⟩
theorem lenF_none {f : List UInt8} (h : f.length < 10 ∨ f.getD 0 0 ≠ 76 ∨ 1 < (f.getD 1 0).toNat) : lenF f = none := by unfold lenF; rw [if_pos h]
theorem lenF_some {f : List UInt8} (h : ¬ (f.length < 10 ∨ f.getD 0 0 ≠ 76 ∨ 1 < (f.getD 1 0).toNat)) : lenF f = some (num4 (f.drop 2)) := by unfold lenF; rw [if_neg h]
theorem lengthC {A : Option Addr} {n c : Nat} {f : List UInt8} (hc : n ≤ c) (hn : n ≤ 1000000000) (hl : f.length = n) : Con Tryd.prog 111 [.slice A n c] [] [RRd 1 A n (b8s f)] (fun v_ X_ S_ => v_ = (.tuple #[.int .i64 (((lenF f).getD 0 : Nat) : Int), .int .i64 (if (lenF f).isSome then 0 else 2)]) ∧ X_ = [] ∧ S_ = []) := by
  have b0 := (f.getD 0 0).toNat_lt
  have b1 := (f.getD 1 0).toNat_lt
  refine henter (N := 34) Tryd.func111 rfl rfl (by simp) fun b => ?_
  refine hfactC (fun m => rdB (m.rd 0 rfl)) ?_
  rintro ⟨hl_r, hA_r⟩
  refine hseq <| hreg <| hy (fun _ => y_assign rfl) <| hy (fun _ => y_assign rfl) <| hend <| hthen <| hseq <| hseq <| hreg <| hy (fun _ => y_move rfl) <| hy (fun _ => y_lenS rfl Tryd.underlying32) <| hy (fun _ => y_lss rfl rfl) <| hy (fun _ => y_move rfl) <| ?_
  refine hsplit 9 rfl (fun h1 => ?_) (fun h1 => ?_)
  · refine hskip rfl rfl rfl (by decide) <| hskip rfl rfl rfl (by decide) <| hskip rfl rfl rfl (by decide) <| hskip rfl rfl rfl (by decide) <| hy (fun _ => y_pickT rfl rfl) <| hy (fun _ => y_move rfl) <| ?_
    rw [lenF_none (.inl (by omega))]
    refine hskip rfl rfl rfl (by decide) <| hskip rfl rfl rfl (by decide) <| hskip rfl rfl rfl (by decide) <| hskip rfl rfl rfl (by decide) <| hy (fun _ => y_pickT rfl rfl) <| hend <| hsub (ρ' := [(20, _), (3, _), (2, _), (0, _)]) ⟨rfl, rfl, rfl, rfl, trivial⟩ <| hthen <| ?_
    refine hift rfl (rfl) ?_
    refine hseq <| hreg <| hy (fun _ => y_assign rfl) <| hy (fun _ => y_assign rfl) <| hend <| hthen <| hret <| hthen_ret <| ?_
    exact hret2 trivial rfl rfl rfl [] rfl [] rfl ⟨rfl, rfl, rfl⟩
  · refine hyg (o := _) rfl rfl rfl (fun _ => y_move rfl) <| hyg (o := _) rfl rfl rfl (fun _ => y_idxS1 rfl rfl Tryd.underlying32 sz5 hA_r (show ((0 : Nat) : Int) = 0 from rfl) (by omega)) <| hyg (o := _) rfl rfl rfl (fun m => y_ld1 rfl ag5 ((m.rd 0 rfl).cell (b8s_get (by omega)))) <| hyg (o := _) rfl rfl rfl (fun _ => y_neq rfl rfl) <| hy (fun _ => y_pickF rfl rfl) <| hy (fun _ => y_move rfl) <| ?_
    refine hsplit 15 rfl (fun h2 => ?_) (fun h2 => ?_)
    · rw [lenF_none (.inr (.inl (fun e => h2 (by rw [e]; rfl))))]
      refine hskip rfl rfl rfl (by decide) <| hskip rfl rfl rfl (by decide) <| hskip rfl rfl rfl (by decide) <| hskip rfl rfl rfl (by decide) <| hy (fun _ => y_pickT rfl rfl) <| hend <| hsub (ρ' := [(20, _), (3, _), (2, _), (0, _)]) ⟨rfl, rfl, rfl, rfl, trivial⟩ <| hthen <| ?_
      refine hift rfl (rfl) ?_
      refine hseq <| hreg <| hy (fun _ => y_assign rfl) <| hy (fun _ => y_assign rfl) <| hend <| hthen <| hret <| hthen_ret <| ?_
      exact hret2 trivial rfl rfl rfl [] rfl [] rfl ⟨rfl, rfl, rfl⟩
    · refine hyg (o := _) rfl rfl rfl (fun _ => y_move rfl) <| hyg (o := _) rfl rfl rfl (fun _ => y_idxS1 rfl rfl Tryd.underlying32 sz5 hA_r (show ((1 : Nat) : Int) = 1 from rfl) (by omega)) <| hyg (o := _) rfl rfl rfl (fun m => y_ld1 rfl ag5 ((m.rd 0 rfl).cell (b8s_get (by omega)))) <| hyg (o := _) rfl rfl rfl (fun _ => y_gtr rfl rfl) <| hy (fun _ => y_pickF rfl rfl) <| hend <| hsub (ρ' := [(20, _), (3, _), (2, _), (0, _)]) ⟨rfl, rfl, rfl, rfl, trivial⟩ <| hthen <| ?_
      refine hif rfl (fun h3 => ?_) (fun h3 => ?_)
      · rw [lenF_none (.inr (.inr (by omega)))]
        refine hseq <| hreg <| hy (fun _ => y_assign rfl) <| hy (fun _ => y_assign rfl) <| hend <| hthen <| hret <| hthen_ret <| ?_
        exact hret2 trivial rfl rfl rfl [] rfl [] rfl ⟨rfl, rfl, rfl⟩
      · have h2' : f.getD 0 0 = 76 := UInt8.toNat_inj.1 (by have := Decidable.not_not.1 h2; show _ = 76; omega)
        rw [lenF_some (by rintro (q | q | q); omega; exact q h2'; omega)]
        refine hcskip <| hthen <| hseq <| hreg <| hy (fun _ => y_assign rfl) <| hend <| hthen <| hseq <| hseq <| hreg <| hy (fun _ => y_assign rfl) <| hend <| hthen <| hblock <| ?_
        refine hloop1 (fun j => 4 - j) (fun j => [(4, .int .i64 ((acc ((f.drop 2).take 4) j : Nat) : Int)), (5, .int .i64 (5 - (j : Int)))]) (fun j => []) (fun j => []) (fun j => j ≤ 4) 0 [(20, _), (3, _), (2, _), (0, _)] ⟨rfl, rfl, rfl, rfl, trivial⟩ [] rfl [] rfl (Nat.zero_le _) ⟨rfl, rfl, trivial⟩ (fun j hI => ?_)
        refine hseq <| hseq <| hreg <| hy (fun _ => y_move rfl) <| hy (fun _ => y_gtr rfl rfl) <| hend <| hsub (ρ' := [(22, _), (4, _), (5, _), (20, _), (3, _), (2, _), (0, _)]) ⟨rfl, rfl, rfl, rfl, rfl, rfl, rfl, trivial⟩ <| hthen <| ?_
        refine hif rfl (fun hj => ?_) (fun hj => ?_)
        · have hl4 : ((f.drop 2).take 4).length = 4 := by rw [List.length_take, List.length_drop]; omega
          have hac := acc_le ((f.drop 2).take 4) (show j ≤ 4 by omega)
          have hby : (((f.drop 2).take 4).getD (3 - j) 0).toNat < 256 := UInt8.toNat_lt _
          have hget : f.getD (5 - j) 0 = ((f.drop 2).take 4).getD (3 - j) 0 := by
            simp only [List.getD, List.getElem?_take, List.getElem?_drop]
            rw [if_pos (by omega), show 2 + (3 - j) = 5 - j by omega]
          refine hcskip <| hthen <| hseq <| hblock <| hreg <| hy (fun _ => y_move rfl) <| hy (fun _ => y_shl (p := 256) rfl rfl (by decide) (by decide) (by decide) (w64 (by omega) (by omega))) <| hy (fun _ => y_move rfl) <| hy (fun _ => y_move rfl) <| hy (fun _ => y_idxS1 rfl rfl Tryd.underlying32 sz5 hA_r (show ((5 - j : Nat) : Int) = _ by omega) (by omega)) <| hy (fun m => yV (y_ld1 rfl ag5 ((m.rd 0 rfl).cell (b8s_get (by omega)))) ((show B8 (f.getD (5 - j) 0) = B8 (((f.drop 2).take 4).getD (3 - j) 0) by rw [hget]))) <| hy (fun _ => y_conv rfl Tryd.underlying5 Tryd.underlying3 (wb8 _)) <| hy (fun _ => y_bits (by simp) rfl rfl (or_byte _ _ hac hby)) <| hy (fun _ => y_assign rfl) <| hend <| hsub (ρ' := [(4, _), (22, _), (5, _), (20, _), (3, _), (2, _), (0, _)]) ⟨rfl, rfl, rfl, rfl, rfl, rfl, rfl, trivial⟩ <| hqblock <| hthen <| hreg <| hy (fun _ => y_move rfl) <| hy (fun _ => yV (y_sub rfl rfl (w64 (by omega) (by omega))) ((show Value.int .i64 ((5 - (j : Int)) - 1) = .int .i64 (5 - ((j + 1 : Nat) : Int)) by congr 1; omega))) <| hy (fun _ => y_assign rfl) <| hend <| hsub (ρ' := [(5, _), (4, _), (22, _), (20, _), (3, _), (2, _), (0, _)]) ⟨rfl, rfl, rfl, rfl, rfl, rfl, rfl, trivial⟩ <| ?_
          refine hnext1 (j + 1) ⟨rfl, rfl, rfl, rfl, rfl, rfl, trivial⟩ [] rfl [0] rfl (by omega) (by omega)
        · obtain rfl : j = 4 := by omega
          have e4 : acc ((f.drop 2).take 4) 4 = num4 (f.drop 2) := by
            rw [acc4]
            have hx : ∀ q : Nat, q < 4 → ((f.drop 2).take 4).getD q 0 = (f.drop 2).getD q 0 := fun q hq => by simp only [List.getD, List.getElem?_take, if_pos hq]
            unfold num4
            rw [hx 0 (by decide), hx 1 (by decide), hx 2 (by decide), hx 3 (by decide)]
          rw [e4]
          refine hexit <| hthen_exit <| hthen_exit <| hqblock_exit <| hthen <| hseq <| hreg <| hy (fun _ => y_move rfl) <| hy (fun _ => y_assign rfl) <| hy (fun _ => y_assign rfl) <| hend <| hsub (ρ' := [(3, _), (2, _), (22, _), (4, _), (5, _), (20, _), (0, _)]) ⟨rfl, rfl, rfl, rfl, rfl, rfl, rfl, trivial⟩ <| hthen <| hret <| ?_
          exact hret2 trivial rfl rfl rfl [] rfl [] rfl ⟨rfl, rfl, rfl⟩
theorem packedC {A : Option Addr} {n c : Nat} {f : List UInt8} (hc : n ≤ c) (hn : n ≤ 1000000000) (hl : f.length = n) : Con Tryd.prog 113 [.slice A n c] [] [RRd 1 A n (b8s f)] (fun v_ X_ S_ => v_ = (.bool (decide ((lenF f).isSome ∧ f.getD 1 0 = 1))) ∧ X_ = [] ∧ S_ = []) := by
  refine henter (N := 18) Tryd.func113 rfl rfl (by simp) fun b => ?_
  refine hfactC (fun m => rdB (m.rd 0 rfl)) ?_
  rintro ⟨hl_r, hA_r⟩
  refine hseq <| hreg <| hy (fun _ => y_assign rfl) <| hend <| hthen <| hseq <| hreg <| hy (fun _ => y_move rfl) <| ?_
  refine hx (xh_call rfl Tryd.call111 (lengthC (by omega) (by omega) (by omega)) [] rfl [0] rfl ?_)
  rintro _ _ _ ⟨rfl, rfl, rfl⟩
  refine hy (fun _ => y_move rfl) <| hy (fun _ => y_extract rfl rfl) <| hy (fun _ => y_extract rfl rfl) <| hy (fun _ => y_assign rfl) <| hy (fun _ => y_assign rfl) <| hend <| hsub (ρ' := [(4, _), (2, _), (0, _)]) ⟨rfl, rfl, rfl, trivial⟩ <| hmemQ (X' := []) (S' := [_]) (fun _ m => m) <| hthen <| hseq <| hreg <| hy (fun _ => y_move rfl) <| hy (fun _ => y_eql rfl rfl) <| hy (fun _ => y_move rfl) <| ?_
  refine hsplit 12 rfl (fun hs => ?_) (fun hs => ?_)
  · have hs1 : (lenF f).isSome = true := by
      cases h : (lenF f).isSome with
      | true => rfl
      | false => rw [h] at hs; exact absurd hs (by decide)
    have hn10 : ¬ n < 10 := fun h => by rw [lenF_none (.inl (by omega))] at hs1; cases hs1
    have hd : decide ((lenF f).isSome ∧ f.getD 1 0 = 1) = decide (((f.getD 1 0).toNat : Int) = 1) := decide_eq_decide.2 ⟨fun h => by rw [h.2]; rfl, fun h => ⟨hs1, UInt8.toNat_inj.1 (by show _ = 1; omega)⟩⟩
    rw [hd]
    refine hyg (o := _) rfl rfl rfl (fun _ => y_move rfl) <| hyg (o := _) rfl rfl rfl (fun _ => y_idxS1 rfl rfl Tryd.underlying32 sz5 hA_r (show ((1 : Nat) : Int) = 1 from rfl) (by omega)) <| hyg (o := _) rfl rfl rfl (fun m => y_ld1 rfl ag5 ((m.rd 0 rfl).cell (b8s_get (by omega)))) <| hyg (o := _) rfl rfl rfl (fun _ => y_eql rfl rfl) <| hy (fun _ => y_pickT rfl rfl) <| hy (fun _ => y_assign rfl) <| hend <| hsub (ρ' := [(2, _), (4, _), (0, _)]) ⟨rfl, rfl, rfl, trivial⟩ <| hthen <| hret <| ?_
    exact hret1 trivial rfl rfl [] rfl [] rfl ⟨rfl, rfl, rfl⟩
  · have hd : decide ((lenF f).isSome ∧ f.getD 1 0 = 1) = false := decide_eq_false fun h => hs (by rw [h.1]; rfl)
    rw [hd]
    refine hskip rfl rfl rfl (by decide) <| hskip rfl rfl rfl (by decide) <| hskip rfl rfl rfl (by decide) <| hskip rfl rfl rfl (by decide) <| hy (fun _ => y_pickF rfl rfl) <| hy (fun _ => y_assign rfl) <| hend <| hsub (ρ' := [(2, _), (4, _), (0, _)]) ⟨rfl, rfl, rfl, trivial⟩ <| hthen <| hret <| ?_
    exact hret1 trivial rfl rfl [] rfl [] rfl ⟨rfl, rfl, rfl⟩
end Go.Proofs.YtfikjheicjamhaaDoor
end
section
/- Contracts: the program's digest of bytes (layer 2): its state. -/
set_option linter.unusedVariables false
set_option linter.unusedSimpArgs false
set_option maxRecDepth 20000
namespace Go.Proofs.YtfikjheicjamhaaDoor
open Go.Eng Go.Hx
structure ShSt where
  h : List UInt32
  n : Nat
  A : Option Addr
  c : Nat
  rest : List UInt8
def stc (h : List UInt32) (n : Nat) (A : Option Addr) (m c : Nat) : List Value := wds h ++ [.int .i64 (n : Int), .slice A m c]
abbrev RSha (g : Nat) (s : ShSt) : Res := RPack [RBlk g 224 (stc s.h s.n s.A s.rest.length s.c), ROwn 5 1 (.slice s.A s.rest.length s.c) s.rest.length (b8s s.rest)]
/-- what a state has gone through -/
structure ShSt.ok (s : ShSt) (all : List UInt8) : Prop where
  len : s.h.length = 8
  n : s.n = all.length
  mid : ∃ d, d ++ s.rest = all ∧ d.length % 64 = 0 ∧ s.h = foldB h0L d
theorem stc_len {h : List UInt32} {n : Nat} {A : Option Addr} {m c : Nat} (hh : h.length = 8) : (stc h n A m c).length = 10 := by simp [stc, wds, hh]
theorem stc_8 {h : List UInt32} {n : Nat} {A : Option Addr} {m c : Nat} (hh : h.length = 8) : (stc h n A m c)[8]? = some (.int .i64 (n : Int)) := by
  rw [stc, List.getElem?_append_right (by rw [wds_length]; omega), wds_length, hh]; rfl
theorem stc_9 {h : List UInt32} {n : Nat} {A : Option Addr} {m c : Nat} (hh : h.length = 8) : (stc h n A m c)[9]? = some (.slice A m c) := by
  rw [stc, List.getElem?_append_right (by rw [wds_length]; omega), wds_length, hh]; rfl
theorem stc_h {h : List UInt32} {n : Nat} {A : Option Addr} {m c : Nat} {j : Nat} {u : Value} (hu : (wds h)[j]? = some u) : (stc h n A m c)[j]? = some u := by
  rw [stc, List.getElem?_append_left ((List.getElem?_eq_some_iff.1 hu).1)]; exact hu
theorem stc_set8 {h : List UInt32} {n n' : Nat} {A : Option Addr} {m c : Nat} (hh : h.length = 8) : (stc h n A m c).set 8 (.int .i64 (n' : Int)) = stc h n' A m c := by
  rw [stc, List.set_append_right _ _ (by rw [wds_length]; omega), wds_length, hh]; rfl
theorem stc_set9 {h : List UInt32} {n : Nat} {A A' : Option Addr} {m c m' c' : Nat} (hh : h.length = 8) : (stc h n A m c).set 9 (.slice A' m' c') = stc h n A' m' c' := by
  rw [stc, List.set_append_right _ _ (by rw [wds_length]; omega), wds_length, hh]; rfl
theorem stc_spl {h h' : List UInt32} {n : Nat} {A : Option Addr} {m c : Nat} (hh : h.length = 8) (hh' : h'.length = 8) : splice (stc h n A m c) 0 (wds h') = stc h' n A m c := by
  rw [splice, List.take_zero, List.nil_append, Nat.zero_add, wds_length, hh', stc, List.drop_append_of_le_length (by rw [wds_length]; omega), List.drop_of_length_le (by rw [wds_length]; omega)]; rfl
theorem newSC  : Con Tryd.prog 128 [] [] [] (fun v_ X_ S_ => ∃ g, v_ = (.pointer (some ⟨g, 0, none⟩)) ∧ X_ = [RSha g ⟨h0L, 0, none, 0, []⟩] ∧ S_ = []) := by
  refine henter (N := 4) Tryd.func128 rfl rfl (by simp) fun b => ?_
  refine hseq <| hreg <| hy (fun _ => y_assign rfl) <| hend <| hthen <| hseq <| hreg <| hy (fun _ => yV (y_buildA (n := 8) ti222 (by kernel_rfl) rfl (by kernel_rfl) rfl (by kernel_rfl) (by kernel_rfl) (wds_cells (l := [1779033703, 3144134277, 1013904242, 2773480762, 1359893119, 2600822924, 528734635, 1541459225]))) ((rfl : _ = Value.agg (wds h0L).toArray))) <| hy (fun _ => yV (y_build ti224 rfl rfl (by kernel_rfl) (.cons (o := 0) (sz := 8) (by kernel_rfl) rfl rfl (Nat.le_of_ble_eq_true rfl) .nil)) ((rfl : _ = Value.agg (stc h0L 0 none 0 0).toArray))) <| ?_
  refine hx (xh_box rfl (fun g3 => ?_))
  refine hy (fun _ => y_assign rfl) <| hend <| hsub (ρ' := [(0, _)]) ⟨rfl, trivial⟩ <| hmemQ (X' := [_]) (S' := []) (fun _ m => m) <| hthen <| hret <| ?_
  refine hmemQ (fun w m => m.eqX 0 rfl (show _ = RBlk g3 224 (stc h0L 0 none 0 0) from congrArg (RBlk _ _) (cells_agg _))) ?_
  refine hmemQ (fun w m => m.addX (r' := ROwn 5 1 (.slice none 0 0) 0 []) (.refl _ _) (Own.nil _ _ _ _) (fun k hk => hk.elim)) ?_
  refine hmemQ (X' := RSha g3 ⟨h0L, 0, none, 0, []⟩ :: _) (fun w m => (m.perm (takeR_perm [1, 0] _ [_, _] _ rfl)).pack) ?_
  exact hret1 trivial rfl rfl [0] rfl [] rfl ⟨_, rfl, rfl, rfl⟩
theorem ok_new : ShSt.ok ⟨h0L, 0, none, 0, []⟩ [] := ⟨rfl, rfl, [], rfl, rfl, rfl⟩
theorem writeSC {g : Nat} {s : ShSt} {B : Option Addr} {mb mc : Nat} {l : List UInt8} (hh : s.h.length = 8) (hn : s.n + mb ≤ 1000000000000000) (hr : s.rest.length + mb ≤ 140737488355328) : Con Tryd.prog 129 [.pointer (some ⟨g, 0, none⟩), .slice B mb mc] [RSha g s] [RRd 1 B mb (b8s l), RRoots] (fun v_ X_ S_ => ∃ s1, v_ = (.tuple #[]) ∧ X_ = [RSha g s1] ∧ S_ = [] ∧ (s1.rest.length < 64 ∧ ∀ all, s.ok all → s1.ok (all ++ l))) := by
  refine henter (N := 49) Tryd.func129 rfl rfl (by simp) fun b => ?_
  refine hfactC (fun m => rdB (m.rd 0 rfl)) ?_
  rintro ⟨hl_r, hA_r⟩
  have hlm : l.length = mb := hl_r
  have hl0 := stc_len (n := s.n) (A := s.A) (m := s.rest.length) (c := s.c) hh
  refine hmemC (fun w m => (m.perm (takeR_perm [0] _ [_] _ rfl)).unpack) ?_
  refine hseq <| hreg <| hy (fun _ => y_move rfl) <| hy (fun _ => y_nilp rfl) <| hy (fun _ => y_fld rfl fa224_1 (by decide)) <| hy (fun m => y_ld1 rfl ag3 ((m.blk 0 rfl).cells0 8 _ (stc_8 hh))) <| hy (fun _ => y_move rfl) <| hy (fun _ => y_lenS rfl Tryd.underlying32) <| hy (fun _ => y_add rfl rfl (w64 (by omega) (by omega))) <| hy (fun _ => y_nilp rfl) <| hy (fun _ => y_fld rfl fa224_1 (by decide)) <| ?_
  refine hx0 (xh_st1a 0 rfl rfl rfl sz3 rfl (by rw [hl0]; decide) ?_)
  refine hend <| hsub (ρ' := [(0, _), (1, _)]) ⟨rfl, rfl, trivial⟩ <| hmemQ (X' := [_, _]) (S' := [_, _]) (fun _ m => m) <| hthen <| hseq <| hreg <| ?_
  refine hmemL (fun w m => m.eqX 0 rfl (show _ = RBlk g 224 (stc s.h (s.n + mb) s.A s.rest.length s.c) from by rw [Nat.zero_add, ← Int.natCast_add, stc_set8 hh])) ?_
  refine hy (fun _ => y_move rfl) <| hy (fun _ => y_move rfl) <| hy (fun _ => y_nilp rfl) <| hy (fun _ => y_fld rfl fa224_2 (by decide)) <| hy (fun m => y_ld1 rfl ag32 ((m.blk 0 rfl).cells0 9 _ (stc_9 hh))) <| hy (fun _ => y_move rfl) <| ?_
  refine hx (xh_app 1 rfl rfl rfl Tryd.underlying32 Tryd.underlying32 (by exact .inl rfl) ti5 rfl (fun m => Src.of_rd (m.rd 0 rfl)) b8s_one (by unfold maxLen; omega) (by omega) (fun u => ?_))
  refine hfactL (fun m => (m.own 0 rfl).slice) ?_
  rintro ⟨A_d1, c_d1, rfl, hc_d1⟩
  refine hfactL (fun m => (m.ord 0 rfl).2.1) fun hA_d1 => ?_
  refine hmemL (fun w m => m.eqX 0 rfl (show _ = ROwn 5 1 (.slice A_d1 (s.rest ++ l).length c_d1) (s.rest ++ l).length (b8s (s.rest ++ l)) from by rw [List.length_append, hlm]; simp [b8s])) ?_
  have hls := stc_len (n := s.n + mb) (A := s.A) (m := s.rest.length) (c := s.c) hh
  refine hy (fun _ => y_nilp rfl) <| hy (fun _ => y_fld rfl fa224_2 (by decide)) <| ?_
  refine hx0 (xh_st1a 1 rfl rfl rfl sz32 rfl (by rw [hls]; decide) ?_)
  refine hend <| hsub (ρ' := [(0, _), (1, _)]) ⟨rfl, rfl, trivial⟩ <| hmemQ (X' := [_, _]) (S' := [_, _]) (fun _ m => m) <| hthen <| hblock <| ?_
  refine hmemC (fun w m => m.eqX 0 rfl (show _ = RBlk g 224 (stc s.h (s.n + mb) A_d1 (s.rest ++ l).length c_d1) from by rw [Nat.zero_add, stc_set9 hh, List.length_append, hlm])) ?_
  have hlen : (s.rest ++ l).length = s.rest.length + mb := by rw [List.length_append, hlm]
  refine hloop5 (fun h A1 c1 q dn => q.length) (fun h A1 c1 q dn => []) (fun h A1 c1 q dn => [RBlk g 224 (stc h (s.n + mb) A1 q.length c1), ROwn 5 1 (.slice A1 q.length c1) q.length (b8s q)]) (fun h A1 c1 q dn => []) (fun h A1 c1 q dn => h.length = 8 ∧ q.length ≤ c1 ∧ dn ++ q = s.rest ++ l ∧ dn.length % 64 = 0 ∧ ∀ D, D.length % 64 = 0 → s.h = foldB h0L D → h = foldB h0L (D ++ dn)) s.h A_d1 c_d1 (s.rest ++ l) [] [(0, _), (1, _)] ⟨rfl, rfl, trivial⟩ [0, 0] rfl [] rfl (⟨hh, (by omega), rfl, rfl, fun D _ e => by rw [List.append_nil]; exact e⟩) trivial (fun h A1 c1 q dn ⟨h8, hqc, hdq, hd64, hD⟩ => ?_)
  have hls := stc_len (n := s.n + mb) (A := A1) (m := q.length) (c := c1) h8
  refine hseq <| hseq <| hreg <| hy (fun _ => y_move rfl) <| hy (fun _ => y_nilp rfl) <| hy (fun _ => y_fld rfl fa224_2 (by decide)) <| hy (fun m => y_ld1 rfl ag32 ((m.blk 0 rfl).cells0 9 _ (stc_9 h8))) <| hy (fun _ => y_lenS rfl Tryd.underlying32) <| hy (fun _ => y_geq rfl rfl) <| hend <| hsub (ρ' := [(27, _), (0, _), (1, _)]) ⟨rfl, rfl, rfl, trivial⟩ <| hthen <| ?_
  refine hif rfl (fun hge => ?_) (fun hge => ?_)
  · have hq64 : 64 ≤ q.length := by omega
    refine hcskip <| hthen <| hblock <| hseq <| hdrw [10, 13] [(0, some 1), (1, some 0), (2, some 0), (3, some 0), (4, some 0), (5, some 1), (6, some 0), (7, some 0), (8, some 0), (9, some 0), (10, none), (11, some 1), (12, some 1), (13, none)] (by kernel_rfl) (by kernel_rfl) rfl 1 <| htyU (y_move rfl) <| htyU (y_move rfl) <| htyU (y_nilp rfl) <| htyU (y_fld rfl fa224_0 (by decide)) <| hty (fun m => yV (y_ldN rfl ag222 sz222 (by rw [wds_length, h8]) (fun j u hu => (m.blk 0 rfl).cells0 j u (stc_h hu))) ((rfl : _ = Value.agg (wds h).toArray))) <| htyU (y_move rfl) <| htyU (y_nilp rfl) <| htyU (y_fld rfl fa224_2 (by decide)) <| hty (fun m => y_ld1 rfl ag32 ((m.blk 0 rfl).cells0 9 _ (stc_9 h8))) <| htyU (y_slTo rfl rfl Tryd.underlying32 sz5 (show ((64 : Nat) : Int) = 64 from rfl) (by omega)) <| ?_
    refine htx (xh_calll rfl Tryd.call154 (mixC (by omega) h8 (l := (q.take 64))) [] rfl (.x 1 rfl (View.own.trans (View.take hq64)) (.s 1 rfl .nil)) ?_)
    rintro _ _ _ ⟨rfl, rfl, rfl⟩
    refine ⟨rfl, ?_⟩
    refine ⟨(fun _ => wk [0, 0] [0, 1] rfl rfl), ?_⟩
    refine htyU (y_nilp rfl) <| htyU (y_fld rfl fa224_0 (by decide)) <| ?_
    have hb8 := blockL_length h8 (q.take 64)
    refine htx0 (xh_stNa 0 rfl rfl rfl sz222 (by rw [wds_length, hb8]) wds_one (by rw [hls]; decide) ⟨(fun h => absurd h (by decide)), ?_⟩)
    refine htmem (fun w m => m.eqX 0 rfl (show _ = RBlk g 224 (stc (blockL h (q.take 64)) (s.n + mb) A1 q.length c1) from by rw [Nat.zero_add, stc_spl h8 hb8])) ?_
    have hls2 := stc_len (n := s.n + mb) (A := A1) (m := q.length) (c := c1) hb8
    refine htmem (X' := ROwn 5 1 (.slice (if c1 = 64 then A1 else A1.map (·.add (64 * 1))) (q.length - 64) (c1 - 64)) (q.length - 64) ((b8s q).drop (64 * 1)) :: _) (fun w m => (m.perm (takeR_perm [1] _ [_] _ rfl)).viewX (View.ownDrop hq64 hqc)) ?_
    refine htend <| hsub (ρ' := [(27, _), (0, _), (1, _)]) ⟨rfl, rfl, rfl, trivial⟩ <| hmemQ (X' := [_, _]) (S' := [_, _]) (fun _ m => m) <| hthen <| hreg <| hy (fun _ => y_move rfl) <| hy (fun _ => y_move rfl) <| hy (fun _ => y_nilp rfl) <| hy (fun _ => y_fld rfl fa224_2 (by decide)) <| hy (fun m => y_ld1 rfl ag32 ((m.blk 1 rfl).cells0 9 _ (stc_9 hb8))) <| hy (fun _ => y_slFrom rfl rfl Tryd.underlying32 sz5 (show ((64 : Nat) : Int) = 64 from rfl) (by omega)) <| hy (fun _ => y_nilp rfl) <| hy (fun _ => y_fld rfl fa224_2 (by decide)) <| ?_
    refine hx0 (xh_st1a 1 rfl rfl rfl sz32 rfl (by rw [hls2]; decide) ?_)
    refine hend <| hsub (ρ' := [(27, _), (0, _), (1, _)]) ⟨rfl, rfl, rfl, trivial⟩ <| hmemQ (X' := [_, _]) (S' := [_, _]) (fun _ m => m) <| hqblock <| ?_
    have hqd : (q.drop 64).length = q.length - 64 := List.length_drop
    have e9 : (b8s q).drop (64 * 1) = b8s (q.drop 64) := by simp [b8s, List.map_drop]
    generalize hA2 : (if c1 = 64 then A1 else A1.map (·.add (64 * 1))) = A2
    refine hmemQ (fun w m => m.eqX 0 rfl (show _ = RBlk g 224 (stc (blockL h (q.take 64)) (s.n + mb) A2 (q.drop 64).length (c1 - 64)) from by rw [Nat.zero_add, stc_set9 hb8, hqd])) ?_
    refine hmemQ (fun w m => m.eqX 1 rfl (show _ = ROwn 5 1 (.slice A2 (q.drop 64).length (c1 - 64)) (q.drop 64).length (b8s (q.drop 64)) from by rw [hqd, e9])) ?_
    refine hnext5 (blockL h (q.take 64)) A2 (c1 - 64) (q.drop 64) (dn ++ q.take 64) ⟨rfl, rfl, trivial⟩ [1, 0] rfl [0, 1] rfl (⟨hb8, by omega, by rw [List.append_assoc, List.take_append_drop]; exact hdq, by rw [List.length_append, List.length_take]; omega, fun D h1 h2 => by rw [← List.append_assoc, foldB_snoc (by rw [List.length_append]; omega) (by rw [List.length_take]; omega), ← hD D h1 h2]⟩) (by omega)
  · refine hexit <| hthen_exit <| hthen_exit <| hqblock_exit <| ?_
    have hok : ∀ all, s.ok all → ShSt.ok ⟨h, s.n + mb, A1, c1, q⟩ (all ++ l) := fun all ok => by
      obtain ⟨D, e1, e2, e3⟩ := ok.mid
      refine ⟨h8, ?_, D ++ dn, ?_, ?_, hD D e2 e3⟩
      · show s.n + mb = _
        rw [List.length_append, ok.n, hlm]
      · show (D ++ dn) ++ q = _
        rw [List.append_assoc, hdq, ← List.append_assoc, e1]
      · rw [List.length_append]; omega
    refine hmemQ (X' := RSha g ⟨h, s.n + mb, A1, c1, q⟩ :: _) (fun w m => (m.perm (takeR_perm [0, 0] _ [_, _] _ rfl)).pack) ?_
    exact hret0 trivial rfl [0] rfl [] rfl ⟨_, rfl, rfl, rfl, ⟨(by show q.length < 64; omega), hok⟩⟩
theorem stc_new {h : List UInt32} {n : Nat} {A : Option Addr} {m c : Nat} (hh : h.length = 8) {z : List Value} (hz : z.length = 10) : splice (splice (splice z 0 (wds h)) 8 [.int .i64 (n : Int)]) 9 [.slice A m c] = stc h n A m c := by
  have hw : (wds h).length = 8 := by rw [wds_length, hh]
  have e1 : splice z 0 (wds h) = wds h ++ z.drop 8 := by simp [splice, hw]
  match hq : z.drop 8, (show (z.drop 8).length = 2 by rw [List.length_drop, hz]) with
  | [x, y], _ =>
    rw [e1, hq]
    have e2 : splice (wds h ++ [x, y]) 8 [.int .i64 (n : Int)] = wds h ++ [.int .i64 (n : Int), y] := by
      rw [splice, List.take_append_of_le_length (by omega), List.take_of_length_le (by omega), List.drop_append, List.drop_of_length_le (by omega)]
      simp [hw]
    rw [e2, splice, List.take_append, List.take_of_length_le (by omega), List.drop_of_length_le (by simp [hw])]
    simp [hw, stc]
theorem bld_st {P : Program} {pl : Nat → Option (Nat × Nat)} {h : List UInt32} (hh : h.length = 8) {zs : List Value} (hz : zs.length = 10) (p0 : pl 0 = some (0, 8)) (p1 : pl 1 = some (8, 1)) (p2 : pl 2 = some (9, 1)) {n : Nat} {A : Option Addr} {m c : Nat} :
    Bld P pl zs [(0, .agg (wds h).toArray), (1, .int .i64 (n : Int)), (2, .slice A m c)] (stc h n A m c) := by
  have hw : (wds h).length = 8 := by rw [wds_length, hh]
  have l1 : (splice zs 0 (wds h)).length = 10 := by rw [splice_length (by omega), hz]
  have l2 : (splice (splice zs 0 (wds h)) 8 [Value.int .i64 (n : Int)]).length = 10 := by rw [splice_length (by rw [l1]; show 8 + 1 ≤ 10; decide), l1]
  refine .cons (vs := wds h) p0 rfl hw (by omega) (.cons (vs := [.int .i64 (n : Int)]) p1 rfl rfl (by omega) (.cons (vs := [.slice A m c]) p2 rfl rfl (by omega) ?_))
  have e := stc_new (n := n) (A := A) (m := m) (c := c) hh hz
  show Bld P pl (splice (splice (splice zs 0 (wds h)) 8 [.int .i64 (n : Int)]) 9 [.slice A m c]) [] _
  rw [e]
  exact .nil
theorem cloneSC {g : Nat} {s : ShSt} (hh : s.h.length = 8) (hr : s.rest.length ≤ 140737488351232) : Con Tryd.prog 155 [.pointer (some ⟨g, 0, none⟩)] [RSha g s] [] (fun v_ X_ S_ => ∃ g2 s2, v_ = (.pointer (some ⟨g2, 0, none⟩)) ∧ X_ = [RSha g s, RSha g2 s2] ∧ S_ = [] ∧ (s2.h = s.h ∧ s2.n = s.n ∧ s2.rest = s.rest)) := by
  refine henter (N := 18) Tryd.func155 rfl rfl (by simp) fun b => ?_
  refine hmemC (fun w m => (m.perm (takeR_perm [0] _ [_] _ rfl)).unpack) ?_
  have hl0 := stc_len (n := s.n) (A := s.A) (m := s.rest.length) (c := s.c) hh
  refine hseq <| hreg <| hy (fun _ => y_assign rfl) <| hend <| hthen <| hseq <| hdrw [12, 14] [(0, some 2), (1, some 1), (2, some 1), (3, some 1), (4, some 2), (5, some 1), (6, some 1), (7, some 1), (8, some 2), (9, some 2), (10, some 0), (11, some 0), (12, none), (13, some 1), (14, none), (15, some 2)] (by kernel_rfl) (by kernel_rfl) rfl 99 <| htyU (y_move rfl) <| htyU (y_nilp rfl) <| htyU (y_fld rfl fa224_0 (by decide)) <| hty (fun m => yV (y_ldN rfl ag222 sz222 (by rw [wds_length, hh]) (fun j u hu => (m.blk 0 rfl).cells0 j u (stc_h hu))) ((rfl : _ = Value.agg (wds s.h).toArray))) <| htyU (y_move rfl) <| htyU (y_nilp rfl) <| htyU (y_fld rfl fa224_1 (by decide)) <| hty (fun m => y_ld1 rfl ag3 ((m.blk 0 rfl).cells0 8 _ (stc_8 hh))) <| htyU (y_move rfl) <| htyU (y_nilp rfl) <| htyU (y_fld rfl fa224_2 (by decide)) <| hty (fun m => y_ld1 rfl ag32 ((m.blk 0 rfl).cells0 9 _ (stc_9 hh))) <| ?_
  refine htx (xh_calll rfl Tryd.call108 (cloneC (by omega)) [] rfl (.x 1 rfl .own .nil) ?_)
  rintro _ _ _ ⟨v, rfl, rfl, rfl⟩
  refine ⟨rfl, ?_⟩
  refine ⟨(fun _ => wk [1, 1] [] rfl rfl), ?_⟩
  refine htfact (fun m => (m.own 0 rfl).slice) ?_
  rintro ⟨A_x, c_x, rfl, hc_x⟩
  refine htfact (fun m => (m.ord 0 rfl).2.1) fun hA_x => ?_
  refine htyU (y_build ti224 rfl rfl (by kernel_rfl) (bld_st hh rfl (by kernel_rfl) (by kernel_rfl) (by kernel_rfl))) <| ?_
  refine htx (xh_box rfl (fun g17 => ⟨(fun _ => wk [2, 2] [] rfl rfl), ?_⟩))
  refine htyU (y_assign rfl) <| htend <| hsub (ρ' := [(2, _), (0, _)]) ⟨rfl, rfl, trivial⟩ <| hmemQ (X' := [_, _, _, _]) (S' := []) (fun _ m => m) <| hthen <| hret <| ?_
  refine hmemQ (fun w m => m.eqX 0 rfl (show _ = RBlk g17 224 (stc s.h s.n A_x s.rest.length c_x) from congrArg (RBlk _ _) (cells_agg _))) ?_
  refine hmemQ (X' := RSha g s :: _) (fun w m => (m.perm (takeR_perm [2, 2] _ [_, _] _ rfl)).pack) ?_
  refine hmemQ (X' := RSha g17 ⟨s.h, s.n, A_x, c_x, s.rest⟩ :: _) (fun w m => (m.perm (takeR_perm [1, 1] _ [_, _] _ rfl)).pack) ?_
  exact hret1 trivial rfl rfl [1, 0] rfl [] rfl ⟨_, _, rfl, rfl, rfl, ⟨rfl, rfl, rfl⟩⟩
end Go.Proofs.YtfikjheicjamhaaDoor
end
section
/- Contracts: the program's digest of bytes (layer 2): Sum. -/
set_option linter.unusedVariables false
set_option linter.unusedSimpArgs false
set_option maxRecDepth 20000
namespace Go.Proofs.YtfikjheicjamhaaDoor
open Go.Eng Go.Hx
theorem u64mod (n : Nat) (h : n < 18446744073709551616) : IntKind.u64.wrap (n : Int) = (n : Int) := by
  simp [IntKind.wrap, IntKind.signed, IntKind.bits]; omega
theorem be8_snoc {n i : Nat} (hi : i < 8) : (be8 n).take (i + 1) = (be8 n).take i ++ [UInt8.ofNat (n / 256 ^ (7 - i))] := by
  rw [be8, ← List.map_take, ← List.map_take, List.take_range, List.take_range, show min (i + 1) 8 = i + 1 by omega, show min i 8 = i by omega, List.range_succ, List.map_append]; rfl
theorem p56 {i : Nat} (hi : i < 8) : 2 ^ (56 - 8 * i) = 256 ^ (7 - i) := by
  rw [show (256 : Nat) = 2 ^ 8 from rfl, ← Nat.pow_mul]; congr 1; omega
theorem be4_get (h : List UInt32) (j : Nat) (hj : j < h.length) : digOf (h.take (j + 1)) = digOf (h.take j) ++ be4 (h.getD j 0) := by
  rw [List.take_succ_eq_append_getElem hj, digOf, digOf, List.flatMap_append]
  simp [List.getD, List.getElem?_eq_getElem hj]
theorem digOf_take (h : List UInt32) : ∀ j, j ≤ h.length → (digOf (h.take j)).length = 4 * j
  | 0, _ => rfl
  | j + 1, hj => by rw [be4_get h j (by omega), List.length_append, digOf_take h j (by omega)]; show 4 * j + 4 = _; omega
theorem set4 {p r : List UInt8} {k : Nat} {a b c d x y z u : UInt8} (hp : p.length = k) :
    ((((b8s (p ++ x :: y :: z :: u :: r)).set k (B8 a)).set (k + 1) (B8 b)).set (k + 2) (B8 c)).set (k + 3) (B8 d) = b8s (p ++ a :: b :: c :: d :: r) := by
  subst hp
  simp [b8s, List.set_append]
theorem sumSC {g : Nat} {s : ShSt} {all : List UInt8} (ok : s.ok all) (hr : s.rest.length < 64) (ha : all.length ≤ 140737488351232) : Con Tryd.prog 130 [.pointer (some ⟨g, 0, none⟩)] [RSha g s] [RRoots] (fun v_ X_ S_ => v_ = (.agg (b8s (shaL all)).toArray) ∧ X_ = [RSha g s] ∧ S_ = []) := by
  have hh := ok.len
  have hsn := ok.n
  have hl0 := stc_len (n := s.n) (A := s.A) (m := s.rest.length) (c := s.c) hh
  have hz64 : padZ s.n < 64 := Nat.mod_lt _ (by decide)
  have hzp : (s.n + (1 + padZ s.n)) % 64 = 56 := by unfold padZ; omega
  have hzm : ∀ j, j < padZ s.n → (s.n + (1 + j)) % 64 ≠ 56 := fun j hj => by unfold padZ at hj; omega
  refine henter (N := 83) Tryd.func130 rfl rfl (by simp) fun b => ?_
  refine hseq <| hreg <| ?_
  refine hx (xh_alloc ti23 (fun g2 => ?_))
  refine hend <| hmemQ (X' := [_, _]) (S' := [_]) (fun _ m => m) <| hthen <| hseq <| hreg <| hy (fun _ => y_move rfl) <| ?_
  refine hx (xh_call rfl Tryd.call155 (cloneSC (by omega) (by omega)) [1] rfl [] rfl ?_)
  rintro _ _ _ ⟨g22, s2, rfl, rfl, rfl, hp⟩
  refine hy (fun _ => y_assign rfl) <| hend <| hsub (ρ' := [(3, _), (2, _), (0, _)]) ⟨rfl, rfl, rfl, trivial⟩ <| hmemQ (X' := [_, _, _]) (S' := [_]) (fun _ m => m) <| hthen <| hseq <| hreg <| ?_
  refine hx (xh_bsl Tryd.underlying32 ti5 rfl rfl rfl (by simp [Value.cells, B8]) (by decide) (by decide) (fun g12 => ?_))
  have hA_b12 : 0 < 1 → (some (⟨g12, 0, none⟩ : Addr)) ≠ none := fun _ h => by cases h
  refine hy (fun _ => y_assign rfl) <| hend <| hsub (ρ' := [(4, _), (3, _), (2, _), (0, _)]) ⟨rfl, rfl, rfl, rfl, trivial⟩ <| hmemQ (X' := [_, _, _, _]) (S' := [_]) (fun _ m => m) <| hthen <| hseq <| hblock <| ?_
  obtain ⟨c1, c2, c3⟩ := hp
  refine hmemC (fun w m => m.eqX 0 rfl (show _ = ROwn 5 1 (.slice (some ⟨g12, 0, none⟩) 1 1) (1 + 0) (b8s (128 :: List.replicate 0 0)) from rfl)) ?_
  refine hloop3 (fun j A1 cc => padZ s.n - j) (fun j A1 cc => [(4, .slice A1 (1 + j) cc)]) (fun j A1 cc => [ROwn 5 1 (.slice A1 (1 + j) cc) (1 + j) (b8s (128 :: List.replicate j 0)), RSha g s]) (fun j A1 cc => []) (fun j A1 cc => j ≤ padZ s.n) 0 (some ⟨g12, 0, none⟩) 1 [(3, _), (2, _), (0, _)] ⟨rfl, rfl, rfl, trivial⟩ [0, 0] rfl [] rfl (Nat.zero_le _) ⟨rfl, trivial⟩ (fun j A1 cc hjz => ?_)
  refine hmemC (fun w m => (m.perm (takeR_perm [1] _ [_] _ rfl)).unpack) ?_
  refine hseq <| hseq <| hreg <| hy (fun _ => y_move rfl) <| hy (fun _ => y_nilp rfl) <| hy (fun _ => y_fld rfl fa224_1 (by decide)) <| hy (fun m => y_ld1 rfl ag3 ((m.blk 0 rfl).cells0 8 _ (stc_8 hh))) <| hy (fun _ => y_move rfl) <| hy (fun _ => y_lenS rfl Tryd.underlying32) <| hy (fun _ => y_add rfl rfl (w64 (by omega) (by omega))) <| hy (fun _ => y_rem rfl rfl (by omega) (by omega)) <| hy (fun _ => y_neq rfl rfl) <| hend <| hsub (ρ' := [(21, _), (4, _), (3, _), (2, _), (0, _)]) ⟨rfl, rfl, rfl, rfl, rfl, trivial⟩ <| hthen <| ?_
  refine hmemC (X' := RSha g s :: _) (fun w m => (m.perm (takeR_perm [0, 0] _ [_, _] _ rfl)).pack) ?_
  refine hif rfl (fun hne => ?_) (fun hne => ?_)
  · have hj : j < padZ s.n := by
      rcases Nat.lt_or_eq_of_le hjz with h | h
      · exact h
      · rw [← h] at hzp; omega
    refine hcskip <| hthen <| hblock <| hreg <| hy (fun _ => y_move rfl) <| ?_
    refine hx (xh_bsl Tryd.underlying32 ti5 rfl rfl rfl (by simp [Value.cells, B8]) (by decide) (by decide) (fun g23 => ?_))
    have hA_b23 : 0 < 1 → (some (⟨g23, 0, none⟩ : Addr)) ≠ none := fun _ h => by cases h
    refine hmemL (fun w m => m.eqX 0 rfl (show _ = ROwn 5 1 (.slice (some ⟨g23, 0, none⟩) 1 1) 1 (b8s [0]) from rfl)) ?_
    refine hx (xh_app 2 rfl rfl rfl Tryd.underlying32 Tryd.underlying32 (by exact .inl rfl) ti5 rfl (fun m => Src.of_rd (m.ord 0 rfl)) b8s_one (by unfold maxLen; omega) (by omega) (fun u => ?_))
    refine hfactL (fun m => (m.own 0 rfl).slice) ?_
    rintro ⟨A_b12, c_b12, rfl, hc_b12⟩
    refine hfactL (fun m => (m.ord 0 rfl).2.1) fun hA_b12 => ?_
    refine hy (fun _ => y_assign rfl) <| hend <| hsub (ρ' := [(4, _), (21, _), (3, _), (2, _), (0, _)]) ⟨rfl, rfl, rfl, rfl, rfl, trivial⟩ <| hmemQ (X' := [_, _, _, _, _]) (S' := [_]) (fun _ m => m) <| hqblock <| ?_
    refine hmemQ (fun w m => m.eqX 0 rfl (show _ = ROwn 5 1 (.slice A_b12 (1 + (j + 1)) c_b12) (1 + (j + 1)) (b8s (128 :: List.replicate (j + 1) 0)) from by rw [Nat.add_assoc, List.replicate_succ', b8s, b8s, b8s, ← List.map_append]; rfl)) ?_
    refine hnext3 (j + 1) A_b12 c_b12 ⟨rfl, rfl, rfl, rfl, trivial⟩ [0, 1, 1, 1] rfl [0] rfl (by omega) (by omega)
  · have hj : j = padZ s.n := by
      refine Decidable.byContradiction fun hn => ?_
      have := hzm j (by omega)
      omega
    subst hj
    have hsl : IntKind.u64.wrap ((s.n : Int) * 8) = ((8 * s.n : Nat) : Int) := by
      rw [show (s.n : Int) * 8 = ((8 * s.n : Nat) : Int) by omega]
      exact u64mod _ (by omega)
    refine hexit <| hthen_exit <| hthen_exit <| hqblock_exit <| hthen <| hseq <| hreg <| hy (fun _ => y_move rfl) <| hy (fun _ => y_nilp rfl) <| hy (fun _ => y_fld rfl fa224_1 (by decide)) <| hy (fun m => y_ld1 rfl ag3 ((show Blk _ _ _ _ from m.inP 0 rfl 0 rfl).cells0 8 _ (stc_8 hh))) <| hy (fun _ => y_conv rfl Tryd.underlying3 Tryd.underlying226 (u64mod s.n (by omega))) <| hy (fun _ => y_shl (p := 8) rfl rfl (by decide) (by decide) (by decide) hsl) <| hy (fun _ => y_assign rfl) <| hend <| hsub (ρ' := [(5, _), (21, _), (4, _), (3, _), (2, _), (0, _)]) ⟨rfl, rfl, rfl, rfl, rfl, rfl, trivial⟩ <| hthen <| hseq <| hseq <| hreg <| hy (fun _ => y_move rfl) <| hend <| hthen <| hblock <| ?_
    generalize hz : padZ s.n = z at hz64
    refine hmemC (fun w m => m.eqX 1 rfl (show _ = ROwn 5 1 (.slice A1 (1 + z + 0) cc) (1 + z + 0) (b8s (128 :: List.replicate z 0 ++ (be8 (8 * s.n)).take 0)) from by rw [List.take_zero, List.append_nil]; rfl)) ?_
    refine hloop3 (fun i A2 ce => 8 - i) (fun i A2 ce => [(4, .slice A2 (1 + z + i) ce), (31, .int .i64 (i : Nat))]) (fun i A2 ce => [ROwn 5 1 (.slice A2 (1 + z + i) ce) (1 + z + i) (b8s (128 :: List.replicate z 0 ++ (be8 (8 * s.n)).take i))]) (fun i A2 ce => []) (fun i A2 ce => i ≤ 8) 0 A1 cc [(5, _), (21, _), (3, _), (2, _), (0, _)] ⟨rfl, rfl, rfl, rfl, rfl, trivial⟩ [0] rfl [] rfl (Nat.zero_le _) ⟨rfl, rfl, trivial⟩ (fun i A2 ce hi8 => ?_)
    refine hseq <| hreg <| hy (fun _ => y_lss rfl rfl) <| hend <| hthen <| hseq <| ?_
    refine hif rfl (fun hi => ?_) (fun hi => ?_)
    · have hcv : IntKind.u8.wrap (((8 * s.n : Nat) : Int) / ((2 ^ (56 - 8 * i) : Nat) : Int)) = ((UInt8.ofNat (8 * s.n / 256 ^ (7 - i))).toNat : Int) := by
        rw [← Int.natCast_ediv, p56 (by omega)]
        exact u8mod _
      have hsb : (56 : Int) - 8 * (i : Int) = ((56 - 8 * i : Nat) : Int) := by omega
      refine hcskip <| hthen <| hseq <| hblock <| hseq <| hreg <| hy (fun _ => y_move rfl) <| hy (fun _ => y_assign rfl) <| hend <| hsub (ρ' := [(6, _), (32, _), (4, _), (31, _), (5, _), (21, _), (3, _), (2, _), (0, _)]) ⟨rfl, rfl, rfl, rfl, rfl, rfl, rfl, rfl, rfl, trivial⟩ <| hthen <| hreg <| hy (fun _ => y_move rfl) <| hy (fun _ => y_move rfl) <| hy (fun _ => y_move rfl) <| hy (fun _ => y_mul rfl rfl (w64 (by omega) (by omega))) <| hy (fun _ => y_sub rfl rfl (w64 (by omega) (by omega))) <| ?_
      rw [hsb]
      refine hy (fun _ => y_shr rfl rfl (by omega) (by simp [IntKind.bits]; omega) (show (2 : Int) ^ (((56 - 8 * i : Nat) : Int)).toNat = ((2 ^ (56 - 8 * i) : Nat) : Int) by rw [Int.toNat_natCast]; simp)) <| hy (fun _ => y_conv rfl Tryd.underlying226 Tryd.underlying5 hcv) <| ?_
      refine hx (xh_bsl Tryd.underlying32 ti5 rfl rfl rfl (by simp [Value.cells, B8]) (by decide) (by decide) (fun g41 => ?_))
      have hA_b41 : 0 < 1 → (some (⟨g41, 0, none⟩ : Addr)) ≠ none := fun _ h => by cases h
      refine hmemL (fun w m => m.eqX 0 rfl (show _ = ROwn 5 1 (.slice (some ⟨g41, 0, none⟩) 1 1) 1 (b8s [UInt8.ofNat (8 * s.n / 256 ^ (7 - i))]) from rfl)) ?_
      refine hx (xh_app 1 rfl rfl rfl Tryd.underlying32 Tryd.underlying32 (by exact .inl rfl) ti5 rfl (fun m => Src.of_rd (m.ord 0 rfl)) b8s_one (by unfold maxLen; omega) (by omega) (fun u => ?_))
      refine hfactL (fun m => (m.own 0 rfl).slice) ?_
      rintro ⟨A_b12, c_b12, rfl, hc_b12⟩
      refine hfactL (fun m => (m.ord 0 rfl).2.1) fun hA_b12 => ?_
      refine hy (fun _ => y_assign rfl) <| hend <| hsub (ρ' := [(4, _), (6, _), (32, _), (31, _), (5, _), (21, _), (3, _), (2, _), (0, _)]) ⟨rfl, rfl, rfl, rfl, rfl, rfl, rfl, rfl, rfl, trivial⟩ <| hmemQ (X' := [_, _, _, _, _]) (S' := [_]) (fun _ m => m) <| hqblock <| hthen <| hreg <| hy (fun _ => y_add rfl rfl (w64 (by omega) (by omega))) <| hy (fun _ => y_move rfl) <| hend <| hsub (ρ' := [(31, _), (4, _), (6, _), (32, _), (5, _), (21, _), (3, _), (2, _), (0, _)]) ⟨rfl, rfl, rfl, rfl, rfl, rfl, rfl, rfl, rfl, trivial⟩ <| ?_
      refine hmemQ (fun w m => m.eqX 0 rfl (show _ = ROwn 5 1 (.slice A_b12 (1 + z + (i + 1)) c_b12) (1 + z + (i + 1)) (b8s (128 :: List.replicate z 0 ++ (be8 (8 * s.n)).take (i + 1))) from by rw [be8_snoc (by omega), ← List.append_assoc]; simp [b8s, Nat.add_assoc])) ?_
      refine hnext3 (i + 1) A_b12 c_b12 ⟨rfl, rfl, rfl, rfl, rfl, rfl, rfl, trivial⟩ [0, 1, 1, 1] rfl [0] rfl (by omega) (by omega)
    · obtain rfl : i = 8 := by omega
      have hpad : all ++ (128 :: List.replicate z 0 ++ (be8 (8 * s.n)).take 8) = padL all := by
        rw [List.take_of_length_le (by simp [be8]), padL, ← hsn, hz, List.append_assoc]
      refine hexit <| hthen_exit <| hthen_exit <| hqblock_exit <| hthen <| hseq <| hreg <| hy (fun _ => y_move rfl) <| hy (fun _ => y_move rfl) <| ?_
      refine hx (xh_calll rfl Tryd.call129 (writeSC (by rw [c1]; exact hh) (by rw [c2]; omega) (by rw [c3]; omega) (s := s2) (l := (128 :: List.replicate z 0 ++ (be8 (8 * s.n)).take 8))) [2] rfl (.x 0 rfl .own (.s 0 rfl .nil)) ?_)
      rintro _ _ _ ⟨s1, rfl, rfl, rfl, hw⟩
      refine ⟨rfl, ?_⟩
      obtain ⟨hw1, hw2⟩ := hw
      have ok2 : s2.ok all := ⟨by rw [c1]; exact hh, by rw [c2]; exact hsn, by rw [c1, c3]; exact ok.mid⟩
      have ok3 := hw2 all ok2
      rw [hpad] at ok3
      have hh3 := ok3.len
      have hfin : s1.h = foldB h0L (padL all) := by
        obtain ⟨D, e1, e2, e3⟩ := ok3.mid
        have hl := congrArg List.length e1
        rw [List.length_append] at hl
        have hp := padL_length all
        have : s1.rest = [] := List.eq_nil_of_length_eq_zero (by omega)
        rw [this, List.append_nil] at e1
        rw [e3, e1]
      have hsha : digOf s1.h = shaL all := by rw [hfin]; rfl
      have hd32 := digOf_take s1.h
      have hl3 := stc_len (n := s1.n) (A := s1.A) (m := s1.rest.length) (c := s1.c) hh3
      refine hmemL (fun w m => (m.perm (takeR_perm [0] _ [_] _ rfl)).unpack) ?_
      refine hend <| hsub (ρ' := [(32, _), (4, _), (31, _), (5, _), (21, _), (3, _), (2, _), (0, _)]) ⟨rfl, rfl, rfl, rfl, rfl, rfl, rfl, rfl, trivial⟩ <| hmemQ (X' := [_, _, _, _, _]) (S' := [_]) (fun _ m => m) <| hthen <| hseq <| hreg <| ?_
      refine hx (xh_alloc ti23 (fun g7 => ?_))
      refine hmemL (fun w m => m.eqX 0 rfl (show _ = RBlk g7 23 (b8s (digOf (s1.h.take 0) ++ List.replicate (32 - 4 * 0) 0)) from rfl)) ?_
      refine hend <| hmemQ (X' := [_, _, _, _, _, _]) (S' := [_]) (fun _ m => m) <| hthen <| hseq <| hseq <| hreg <| hy (fun _ => y_move rfl) <| hy (fun _ => y_nilp rfl) <| hy (fun _ => y_fld rfl fa224_0 (by decide)) <| hy (fun m => yV (y_ldN rfl ag222 sz222 (by rw [wds_length, hh3]) (fun j u hu => (m.blk 1 rfl).cells0 j u (stc_h hu))) ((rfl : _ = Value.agg (wds s1.h).toArray))) <| hy (fun _ => y_move rfl) <| hend <| hsub (ρ' := [(51, _), (50, _), (7, _), (32, _), (4, _), (31, _), (5, _), (21, _), (3, _), (2, _), (0, _)]) ⟨rfl, rfl, rfl, rfl, rfl, rfl, rfl, rfl, rfl, rfl, rfl, trivial⟩ <| hthen <| hblock <| ?_
      refine hloop1 (fun k => 8 - k) (fun k => [(51, .int .i64 (k : Nat))]) (fun k => [RBlk g7 23 (b8s (digOf (s1.h.take k) ++ List.replicate (32 - 4 * k) 0))]) (fun k => []) (fun k => k ≤ 8) 0 [(50, _), (7, _), (32, _), (4, _), (31, _), (5, _), (21, _), (3, _), (2, _), (0, _)] ⟨rfl, rfl, rfl, rfl, rfl, rfl, rfl, rfl, rfl, rfl, trivial⟩ [0] rfl [] rfl (Nat.zero_le _) ⟨rfl, trivial⟩ (fun k hk8 => ?_)
      refine hseq <| hreg <| hy (fun _ => y_lss rfl rfl) <| hend <| hthen <| hseq <| ?_
      refine hif rfl (fun hk => ?_) (fun hk => ?_)
      · have hdk := hd32 k (by omega)
        have hr4 : List.replicate (32 - 4 * k) (0 : UInt8) = 0 :: 0 :: 0 :: 0 :: List.replicate (32 - 4 * (k + 1)) 0 := by
          rw [show 32 - 4 * k = (32 - 4 * (k + 1)) + 4 by omega]; rfl
        refine hcskip <| hthen <| hseq <| hblock <| hseq <| hreg <| hy (fun _ => y_move rfl) <| hy (fun _ => yV (y_idxV rfl rfl Tryd.underlying222 sz120 ag120 rfl (by omega) (wds_get (by omega))) ((rfl : _ = Wd (s1.h.getD k 0)))) <| hy (fun _ => y_assign rfl) <| hy (fun _ => y_assign rfl) <| hend <| hsub (ρ' := [(9, _), (8, _), (52, _), (51, _), (50, _), (7, _), (32, _), (4, _), (31, _), (5, _), (21, _), (3, _), (2, _), (0, _)]) ⟨rfl, rfl, rfl, rfl, rfl, rfl, rfl, rfl, rfl, rfl, rfl, rfl, rfl, rfl, trivial⟩ <| hthen <| hreg <| hy (fun _ => y_move rfl) <| hy (fun _ => y_mul rfl rfl (w64 (by omega) (by omega))) <| hy (fun _ => y_move rfl) <| hy (fun _ => y_mul rfl rfl (w64 (by omega) (by omega))) <| hy (fun _ => y_add rfl rfl (w64 (by omega) (by omega))) <| hy (fun _ => y_move rfl) <| hy (fun _ => y_mul rfl rfl (w64 (by omega) (by omega))) <| hy (fun _ => y_add rfl rfl (w64 (by omega) (by omega))) <| hy (fun _ => y_move rfl) <| hy (fun _ => y_mul rfl rfl (w64 (by omega) (by omega))) <| hy (fun _ => y_add rfl rfl (w64 (by omega) (by omega))) <| hy (fun _ => y_move rfl) <| hy (fun _ => y_wshrD (k := 24) (b := 16777216) (by decide) rfl rfl rfl) <| hy (fun _ => y_8w rfl Tryd.underlying120 Tryd.underlying5) <| hy (fun _ => y_move rfl) <| hy (fun _ => y_wshrD (k := 16) (b := 65536) (by decide) rfl rfl rfl) <| hy (fun _ => y_8w rfl Tryd.underlying120 Tryd.underlying5) <| hy (fun _ => y_move rfl) <| hy (fun _ => y_wshrD (k := 8) (b := 256) (by decide) rfl rfl rfl) <| hy (fun _ => y_8w rfl Tryd.underlying120 Tryd.underlying5) <| hy (fun _ => y_move rfl) <| hy (fun _ => y_8w rfl Tryd.underlying120 Tryd.underlying5) <| hy (fun _ => y_idxA1 rfl rfl Tryd.underlying23 sz5 (show ((4 * k : Nat) : Int) = _ by omega) (by omega)) <| ?_
        refine hx0 (xh_st1a 0 rfl rfl rfl sz5 rfl (by simp [b8s]; omega) ?_)
        refine hy (fun _ => y_idxA1 rfl rfl Tryd.underlying23 sz5 (show ((4 * k + 1 : Nat) : Int) = _ by omega) (by omega)) <| ?_
        refine hx0 (xh_st1a 0 rfl rfl rfl sz5 rfl (by simp [b8s]; omega) ?_)
        refine hy (fun _ => y_idxA1 rfl rfl Tryd.underlying23 sz5 (show ((4 * k + 2 : Nat) : Int) = _ by omega) (by omega)) <| ?_
        refine hx0 (xh_st1a 0 rfl rfl rfl sz5 rfl (by simp [b8s]; omega) ?_)
        refine hy (fun _ => y_idxA1 rfl rfl Tryd.underlying23 sz5 (show ((4 * k + 3 : Nat) : Int) = _ by omega) (by omega)) <| ?_
        refine hx0 (xh_st1a 0 rfl rfl rfl sz5 rfl (by simp [b8s]; omega) ?_)
        refine hend <| hsub (ρ' := [(9, _), (8, _), (52, _), (51, _), (50, _), (7, _), (32, _), (4, _), (31, _), (5, _), (21, _), (3, _), (2, _), (0, _)]) ⟨rfl, rfl, rfl, rfl, rfl, rfl, rfl, rfl, rfl, rfl, rfl, rfl, rfl, rfl, trivial⟩ <| hmemQ (X' := [_, _, _, _, _, _]) (S' := [_]) (fun _ m => m) <| hqblock <| hthen <| hreg <| hy (fun _ => y_add rfl rfl (w64 (by omega) (by omega))) <| hy (fun _ => y_move rfl) <| hend <| hsub (ρ' := [(51, _), (9, _), (8, _), (52, _), (50, _), (7, _), (32, _), (4, _), (31, _), (5, _), (21, _), (3, _), (2, _), (0, _)]) ⟨rfl, rfl, rfl, rfl, rfl, rfl, rfl, rfl, rfl, rfl, rfl, rfl, rfl, rfl, trivial⟩ <| ?_
        refine hmemQ (fun w m => m.eqX 0 rfl (show _ = RBlk g7 23 (b8s (digOf (s1.h.take (k + 1)) ++ List.replicate (32 - 4 * (k + 1)) 0)) from by rw [hr4, Nat.zero_add, Nat.zero_add, Nat.zero_add, Nat.zero_add, set4 hdk, be4_get _ _ (by omega)]; simp [be4])) ?_
        refine hnext1 (k + 1) ⟨rfl, rfl, rfl, rfl, rfl, rfl, rfl, rfl, rfl, rfl, rfl, trivial⟩ [0, 0, 0, 0, 0, 0] rfl [0] rfl (by omega) (by omega)
      · obtain rfl : k = 8 := by omega
        refine hmemC (fun w m => m.eqX 0 rfl (show _ = RBlk g7 23 (b8s (shaL all)) from by rw [List.take_of_length_le (by omega), hsha]; simp)) ?_
        refine hexit <| hthen_exit <| hthen_exit <| hqblock_exit <| hthen <| hseq <| hreg <| hy (fun m => yV (y_ldN rfl ag23 sz23 (by rw [b8s_length, shaL_length]) ((m.blk 0 rfl).cells0)) ((rfl : _ = Value.agg (b8s (shaL all)).toArray))) <| ?_
        refine hx0 (xh_stA 5 rfl rfl rfl sz23 (by rw [b8s_length, shaL_length]) b8s_one rfl ?_)
        refine hend <| hsub (ρ' := [(52, _), (51, _), (50, _), (7, _), (32, _), (4, _), (31, _), (5, _), (21, _), (3, _), (2, _), (0, _)]) ⟨rfl, rfl, rfl, rfl, rfl, rfl, rfl, rfl, rfl, rfl, rfl, rfl, trivial⟩ <| hmemQ (X' := [_, _, _, _, _, _]) (S' := [_]) (fun _ m => m) <| hthen <| hret <| ?_
        exact hretN trivial rfl rfl ag23 sz23 (by rw [b8s_length, shaL_length]) (fun m => (m.blk 0 rfl).cells0) [5] rfl [] rfl ⟨rfl, rfl, rfl⟩
theorem shaSumC {A : Option Addr} {n c : Nat} {l : List UInt8} (hn : n ≤ 140737488351232) : Con Tryd.prog 82 [.slice A n c] [] [RRd 1 A n (b8s l), RRoots] (fun v_ X_ S_ => v_ = (.agg (b8s (shaL l)).toArray) ∧ X_ = [] ∧ S_ = []) := by
  refine henter (N := 10) Tryd.func82 rfl rfl (by simp) fun b => ?_
  refine hfactC (fun m => rdB (m.rd 0 rfl)) ?_
  rintro ⟨hl_r, hA_r⟩
  have hln : l.length = n := hl_r
  refine hseq <| hreg <| ?_
  refine hx (xh_alloc ti23 (fun g2 => ?_))
  refine hend <| hmemQ (X' := [_]) (S' := [_, _]) (fun _ m => m) <| hthen <| hseq <| hreg <| ?_
  refine hx (xh_call rfl Tryd.call128 (newSC) [] rfl [] rfl ?_)
  rintro _ _ _ ⟨g, rfl, rfl, rfl⟩
  refine hy (fun _ => y_assign rfl) <| hend <| hsub (ρ' := [(3, _), (2, _), (0, _)]) ⟨rfl, rfl, rfl, trivial⟩ <| hmemQ (X' := [_, _]) (S' := [_, _]) (fun _ m => m) <| hthen <| hseq <| hreg <| hy (fun _ => y_move rfl) <| hy (fun _ => y_move rfl) <| ?_
  refine hx (xh_call rfl Tryd.call129 (writeSC rfl (by show 0 + n ≤ _; omega) (by show 0 + n ≤ _; omega) (s := ⟨h0L, 0, none, 0, []⟩)) [0] rfl [0, 1] rfl ?_)
  rintro _ _ _ ⟨s1, rfl, rfl, rfl, hw⟩
  refine hend <| hsub (ρ' := [(3, _), (2, _), (0, _)]) ⟨rfl, rfl, rfl, trivial⟩ <| hmemQ (X' := [_, _]) (S' := [_, _]) (fun _ m => m) <| hthen <| hseq <| hreg <| ?_
  obtain ⟨hw1, hw2⟩ := hw
  have ok1 := hw2 [] ok_new
  rw [List.nil_append] at ok1
  refine hy (fun _ => y_move rfl) <| ?_
  refine hx (xh_call rfl Tryd.call130 (sumSC ok1 hw1 (by omega) (all := l)) [0] rfl [1] rfl ?_)
  rintro _ _ _ ⟨rfl, rfl, rfl⟩
  refine hx0 (xh_stA 1 rfl rfl rfl sz23 (by rw [b8s_length, shaL_length]) b8s_one rfl ?_)
  refine hend <| hsub (ρ' := [(3, _), (2, _), (0, _)]) ⟨rfl, rfl, rfl, trivial⟩ <| hmemQ (X' := [_, _]) (S' := [_, _]) (fun _ m => m) <| hthen <| hret <| ?_
  exact hretN trivial rfl rfl ag23 sz23 (by rw [b8s_length, shaL_length]) (fun m => (m.blk 0 rfl).cells0) [] rfl [] rfl ⟨rfl, rfl, rfl⟩
end Go.Proofs.YtfikjheicjamhaaDoor
end
section
/- Contracts: who has all (server): chunks come and go. -/
set_option linter.unusedVariables false
set_option linter.unusedSimpArgs false
set_option maxRecDepth 20000
set_option maxHeartbeats 2000000
namespace Go.Proofs.YtfikjheicjamhaaDoor
open Go.Eng Go.Hx
theorem frs_put (k : Dg) (r : BRow) : ∀ l : Frames, aput (frs l) k r.val = frs (aput l k r)
  | [] => rfl
  | (q, x) :: t => by
    have ih := frs_put k r t
    unfold frs at ih ⊢
    simp only [List.map_cons, aput]
    split
    · rfl
    · rw [ih]; rfl
theorem aput_rows {k : Dg} {r : BRow} : ∀ {l : Frames}, ∀ x ∈ (aput l k r).map (·.2), x ∈ l.map (·.2) ∨ x = r
  | [], x, h => .inr (by simpa [aput] using h)
  | (q, y) :: t, x, h => by
    simp only [aput] at h
    split at h
    · rw [List.map_cons] at h
      rcases List.mem_cons.1 h with h | h
      · exact .inr h
      · exact .inl (List.mem_cons_of_mem _ h)
    · rw [List.map_cons] at h
      rcases List.mem_cons.1 h with h | h
      · exact .inl (by rw [h]; simp)
      · rcases aput_rows x h with h | h
        · exact .inl (List.mem_cons_of_mem _ h)
        · exact .inr h
theorem slenC {g gm : Nat} {l : Frames} : Con Tryd.prog 56 [.pointer (some ⟨g, 0, none⟩)] [RSrv g gm l] [] (fun v_ X_ S_ => v_ = (.int .i64 (l.length : Nat)) ∧ X_ = [RSrv g gm l] ∧ S_ = []) := by
  refine henterD (N := 15) Tryd.func56 rfl rfl (by simp) fun b => ?_
  refine hmemC (fun w m => (m.perm (takeR_perm [0] _ [_] _ rfl)).unpack) ?_
  refine hseq <| hreg <| hy (fun _ => y_assign rfl) <| hend <| hthen <| hseq <| hreg <| hy (fun _ => y_move rfl) <| hy (fun _ => y_nilp rfl) <| hy (fun _ => y_fld rfl fa165_0 (by decide)) <| ?_
  refine hx (xh_call rfl Tryd.call100 (muLockC) [0] rfl [] rfl ?_)
  rintro _ _ _ ⟨rfl, rfl, rfl⟩
  refine hend <| hsub (ρ' := [(2, _), (0, _)]) ⟨rfl, rfl, trivial⟩ <| hmemQ (X' := [_, _, _]) (S' := []) (fun _ m => m) <| hthen <| hseq <| hreg <| hy (fun _ => y_move rfl) <| hy (fun _ => y_nilp rfl) <| hy (fun _ => y_fld rfl fa165_0 (by decide)) <| hdefer rfl <| hend <| hsub (ρ' := [(2, _), (0, _)]) ⟨rfl, rfl, trivial⟩ <| hthen <| hseq <| hreg <| hy (fun _ => y_move rfl) <| hy (fun _ => y_nilp rfl) <| hy (fun _ => y_fld rfl fa165_1 (by decide)) <| hy (fun m => y_ld1 rfl ag157 (ld_blk (m.blk 0 rfl) rfl)) <| hy (fun m => y_lenM rfl Tryd.underlying157 (m.mapX 1 rfl)) <| hy (fun _ => y_assign rfl) <| hend <| hsub (ρ' := [(2, _), (0, _)]) ⟨rfl, rfl, trivial⟩ <| hthen <| hret <| ?_
  refine hleave trivial ?_
  refine hunlock muLib 0 rfl rfl Tryd.call101 ?_
  refine hmemE (fun w m => m.eqX 0 rfl (show _ = RBlk g 165 (scells 0 gm) from rfl)) ?_
  refine hmemE (X' := RSrv g gm l :: _) (fun w m => (m.perm (takeR_perm [0, 0, 0] _ [_, _, _] _ rfl)).pack) ?_
  have hfl : (frs l).length = l.length := by simp [frs]
  rw [hfl]
  exact hlast1 rfl rfl [0] rfl [] rfl ⟨rfl, rfl, rfl⟩
theorem z32b : (b8s (List.replicate 32 0)).length = 32 := by rw [b8s_length, List.length_replicate]
theorem saddNoC {g gm : Nat} {A : Option Addr} {n c : Nat} {l : Frames} (hn : 4096 < n) : Con Tryd.prog 47 [.pointer (some ⟨g, 0, none⟩), .slice A n c] [RSrv g gm l] [] (fun v_ X_ S_ => v_ = (.tuple #[.agg (b8s (List.replicate 32 0)).toArray, .int .i64 3]) ∧ X_ = [RSrv g gm l] ∧ S_ = []) := by
  refine henterD (N := 28) Tryd.func47 rfl rfl (by simp) fun b => ?_
  refine hseq <| hreg <| ?_
  refine hx (xh_alloc ti23 (fun g4 => ?_))
  refine hy (fun _ => y_assign rfl) <| hend <| hmemQ (X' := [_, _]) (S' := []) (fun _ m => m) <| hthen <| hseq <| hseq <| hreg <| hy (fun _ => y_move rfl) <| hy (fun _ => y_lenS rfl Tryd.underlying32) <| hy (fun _ => y_gtr rfl rfl) <| hend <| hsub (ρ' := [(9, _), (5, _), (4, _), (0, _), (1, _)]) ⟨rfl, rfl, rfl, rfl, rfl, trivial⟩ <| hthen <| ?_
  refine hift rfl ((decide_eq_true (by omega))) ?_
  refine hseq <| hreg <| hy (fun _ => yV (y_build0 ti23 rfl (by kernel_rfl)) ((rfl : _ = Value.agg (b8s (List.replicate 32 0)).toArray))) <| ?_
  refine hx0 (xh_stA 0 rfl rfl rfl sz23 z32b b8s_one rfl ?_)
  refine hy (fun _ => y_assign rfl) <| hend <| hsub (ρ' := [(5, _), (9, _), (4, _), (0, _), (1, _)]) ⟨rfl, rfl, rfl, rfl, rfl, trivial⟩ <| hmemQ (X' := [_, _]) (S' := []) (fun _ m => m) <| hthen <| hret <| hthen_ret <| ?_
  refine hleave trivial ?_
  exact hlastN1 rfl rfl rfl ag23 sz23 z32b (fun m => (m.blk 0 rfl).cells0) [1] rfl [] rfl ⟨rfl, rfl, rfl⟩
theorem saddC {g gm : Nat} {A : Option Addr} {n c : Nat} {bb : List UInt8} {l : Frames} (hc : n ≤ c) (hn : n ≤ 4096) (hl : bb.length = n) : Con Tryd.prog 47 [.pointer (some ⟨g, 0, none⟩), .slice A n c] [RSrv g gm l] [RRd 1 A n (b8s bb), RRoots] (fun v_ X_ S_ => ∃ row, v_ = (.tuple #[.agg (b8s (shaL bb)).toArray, .int .i64 0]) ∧ X_ = [RSrv g gm (aput l ⟨shaL bb, shaL_length bb⟩ row)] ∧ S_ = [] ∧ (row.l = sealL bb ∧ row.n = (sealL bb).length)) := by
  have h32 : (b8s (shaL bb)).length = 32 := by rw [b8s_length, shaL_length]
  refine henterD (N := 28) Tryd.func47 rfl rfl (by simp) fun b => ?_
  refine hfactC (fun m => rdB (m.rd 0 rfl)) ?_
  rintro ⟨hl_r, hA_r⟩
  refine hseq <| hreg <| ?_
  refine hx (xh_alloc ti23 (fun g4 => ?_))
  refine hy (fun _ => y_assign rfl) <| hend <| hmemQ (X' := [_, _]) (S' := [_, _]) (fun _ m => m) <| hthen <| hseq <| hseq <| hreg <| hy (fun _ => y_move rfl) <| hy (fun _ => y_lenS rfl Tryd.underlying32) <| hy (fun _ => y_gtr rfl rfl) <| hend <| hsub (ρ' := [(9, _), (5, _), (4, _), (0, _), (1, _)]) ⟨rfl, rfl, rfl, rfl, rfl, trivial⟩ <| hthen <| ?_
  refine hiff rfl ((decide_eq_false (by omega))) ?_
  refine hmemC (fun w m => (m.perm (takeR_perm [1] _ [_] _ rfl)).unpack) ?_
  refine hcskip <| hthen <| hseq <| hreg <| hy (fun _ => y_move rfl) <| hy (fun _ => y_nilp rfl) <| hy (fun _ => y_fld rfl fa165_0 (by decide)) <| ?_
  refine hx (xh_call rfl Tryd.call100 (muLockC) [0] rfl [] rfl ?_)
  rintro _ _ _ ⟨rfl, rfl, rfl⟩
  refine hend <| hsub (ρ' := [(9, _), (5, _), (4, _), (0, _), (1, _)]) ⟨rfl, rfl, rfl, rfl, rfl, trivial⟩ <| hmemQ (X' := [_, _, _, _]) (S' := [_, _]) (fun _ m => m) <| hthen <| hseq <| hreg <| hy (fun _ => y_move rfl) <| hy (fun _ => y_nilp rfl) <| hy (fun _ => y_fld rfl fa165_0 (by decide)) <| hdefer rfl <| hend <| hsub (ρ' := [(9, _), (5, _), (4, _), (0, _), (1, _)]) ⟨rfl, rfl, rfl, rfl, rfl, trivial⟩ <| hthen <| hseq <| hreg <| hy (fun _ => y_move rfl) <| ?_
  refine hx (xh_call rfl Tryd.call82 (shaSumC (by omega)) [] rfl [0, 1] rfl ?_)
  rintro _ _ _ ⟨rfl, rfl, rfl⟩
  refine hx (xh_alloc ti23 (fun g6 => ?_))
  refine hx0 (xh_stA 0 rfl rfl rfl sz23 h32 b8s_one rfl ?_)
  refine hend <| hsub (ρ' := [(6, _), (9, _), (5, _), (4, _), (0, _), (1, _)]) ⟨rfl, rfl, rfl, rfl, rfl, rfl, trivial⟩ <| hmemQ (X' := [_, _, _, _, _]) (S' := [_, _]) (fun _ m => m) <| hthen <| hseq <| hdrw [6, 7] [(0, some 1), (1, some 1), (2, some 1), (3, some 1), (4, some 1), (5, some 0), (6, none), (7, none)] (by kernel_rfl) (by kernel_rfl) rfl 1 <| htyU (y_move rfl) <| htyU (y_nilp rfl) <| htyU (y_fld rfl fa165_1 (by decide)) <| hty (fun m => y_ld1 rfl ag157 (ld_blk (m.blk 1 rfl) rfl)) <| hty (fun m => yV (y_ldN rfl ag23 sz23 h32 ((m.blk 0 rfl).cells0)) ((rfl : Value.agg _ = DK ⟨shaL bb, shaL_length bb⟩))) <| htyU (y_move rfl) <| ?_
  refine htx (xh_call rfl Tryd.call95 (sealC (by omega) (by omega) hl) [] rfl [0] rfl ?_)
  rintro _ _ _ ⟨v, rfl, rfl, rfl⟩
  refine ⟨(fun _ => wk [1, 1, 1, 1, 1] [0, 1] rfl rfl), ?_⟩
  refine htfact (fun m => (m.own 0 rfl).slice) ?_
  rintro ⟨A_x, c_x, rfl, hc_x⟩
  refine htfact (fun m => (m.ord 0 rfl).2.1) fun hA_x => ?_
  refine htx0 (xh_mapup (enc := DK) (k := ⟨shaL bb, shaL_length bb⟩) 3 rfl rfl rfl rfl Tryd.underlying157 (digKey rfl Tryd.underlying23 Tryd.underlying5 (by kernel_rfl) (by kernel_rfl) (by kernel_rfl)) ⟨(fun h => absurd h (by decide)), ?_⟩)
  refine htend <| hsub (ρ' := [(6, _), (9, _), (5, _), (4, _), (0, _), (1, _)]) ⟨rfl, rfl, rfl, rfl, rfl, rfl, trivial⟩ <| hmemQ (X' := [_, _, _, _, _, _]) (S' := [_, _]) (fun _ m => m) <| hthen <| hseq <| hreg <| hy (fun m => y_ldN rfl ag23 sz23 h32 ((m.blk 2 rfl).cells0)) <| ?_
  refine hx0 (xh_stA 5 rfl rfl rfl sz23 h32 b8s_one rfl ?_)
  refine hy (fun _ => y_assign rfl) <| hend <| hsub (ρ' := [(5, _), (6, _), (9, _), (4, _), (0, _), (1, _)]) ⟨rfl, rfl, rfl, rfl, rfl, rfl, trivial⟩ <| hmemQ (X' := [_, _, _, _, _, _]) (S' := [_, _]) (fun _ m => m) <| hthen <| hret <| ?_
  refine hleave trivial ?_
  refine hunlock muLib 4 rfl rfl Tryd.call101 ?_
  refine hmemE (fun w m => m.eqX 0 rfl (show _ = RBlk g 165 (scells 0 gm) from rfl)) ?_
  refine hmemE (fun w m => m.eqX 2 rfl (show _ = RMap DK gm (frs (aput l ⟨shaL bb, shaL_length bb⟩ ⟨A_x, (sealL bb).length, c_x, sealL bb⟩)) from congrArg (RMap DK gm) (frs_put _ ⟨A_x, (sealL bb).length, c_x, sealL bb⟩ l))) ?_
  refine hmemE (X' := RRows ((aput l ⟨shaL bb, shaL_length bb⟩ ⟨A_x, (sealL bb).length, c_x, sealL bb⟩).map (·.2)) :: _) (fun w m => (m.perm (takeR_perm [5, 3] _ [_, _] _ rfl)).rowAdd (aput_rows)) ?_
  refine hmemE (X' := RSrv g gm (aput l ⟨shaL bb, shaL_length bb⟩ ⟨A_x, (sealL bb).length, c_x, sealL bb⟩) :: _) (fun w m => (m.perm (takeR_perm [2, 1, 0] _ [_, _, _] _ rfl)).pack) ?_
  exact hlastN1 rfl rfl rfl ag23 sz23 h32 (fun m => (m.blk 1 rfl).cells0) [0] rfl [] rfl ⟨_, rfl, rfl, rfl, ⟨rfl, rfl⟩⟩
end Go.Proofs.YtfikjheicjamhaaDoor
end
section
/- From a row's readings to what my contracts ask. No statement is proved here. -/
set_option linter.unusedVariables false
set_option linter.unusedSimpArgs false
namespace Go.Eng
open Go.RowKit Go.ChangeShapes Go.WideShapes
theorem open_i64 {H : Type} {enc : TypeId × Value → H} {P : Program} {w : World} {base : Nat} {spare : Nat → Bool} {held : Bool} {r : Reach} {b0 : Nat} {t : TypeId} {v : Value} {d : DataW H} {ps : List MemPlace} (ht : P.underlying t = some (.int .i64)) (hval : Value.okWide P w r b0 t v) (hd : DataW.Trod enc P w base spare held t v d ps) :
    ∃ n : Int, v = .int .i64 n ∧ (-9223372036854775808 ≤ n ∧ n ≤ 9223372036854775807) ∧ ps = [] := by
  obtain ⟨n, rfl, _, rfl, hw⟩ := open_int ht hval hd
  refine ⟨n, rfl, ?_, rfl⟩
  simp only [Lit.wf, IntKind.min, IntKind.max, IntKind.signed, IntKind.bits] at hw
  simp at hw
  omega
end Go.Eng
end
section
/- Values that came in, with all that is read through them: cells. No statement is proved here. -/
set_option linter.unusedVariables false
set_option linter.unusedSimpArgs false
namespace Go.Eng
open Go.RowKit Go.ChangeShapes Go.WideShapes
inductive Cell
  | v (x : Value)
  | s (sz : Nat) (A : Option Addr) (n c : Nat) (xs : List Cell)
def Cell.val : Cell → Value
  | .v x => x
  | .s _ A n c _ => .slice A n c
mutual
def Cell.foot : Cell → Nat → Prop
  | .v _ => fun _ => False
  | .s _ A _ _ xs => fun k => (xs ≠ [] ∧ ∃ a, A = some a ∧ k = a.block) ∨ feetC xs k
def feetC : List Cell → Nat → Prop
  | [] => fun _ => False
  | x :: r => fun k => x.foot k ∨ feetC r k
end
mutual
def Cell.holds (w : World) : Cell → Prop
  | .v _ => True
  | .s sz A n c xs => Rd w sz A n (xs.map Cell.val) ∧ n ≤ c ∧ holdC w xs
def holdC (w : World) : List Cell → Prop
  | [] => True
  | x :: r => x.holds w ∧ holdC w r
end
theorem feetC_iff {k : Nat} : ∀ {xs : List Cell}, feetC xs k ↔ ∃ x ∈ xs, x.foot k
  | [] => by simp [feetC]
  | x :: r => by simp only [feetC, feetC_iff (xs := r), List.mem_cons, exists_eq_or_imp]
theorem holdC_iff {w : World} : ∀ {xs : List Cell}, holdC w xs ↔ ∀ x ∈ xs, x.holds w
  | [] => by simp [holdC]
  | x :: r => by simp only [holdC, holdC_iff (xs := r), List.mem_cons, forall_eq_or_imp]
mutual
theorem Cell.keep {S : Nat → Prop} {w w' : World} (f : Fr S w w') : ∀ (c : Cell), (∀ k, c.foot k → ¬ S k) → c.holds w → c.holds w'
  | .v _, _, _ => trivial
  | .s sz A n c xs, h, hh => by
    obtain ⟨h1, h2, h3⟩ := hh
    refine ⟨Rd.keep h1 f (fun k hk => h k ?_), h2, keepC f xs (fun k hk => h k (.inr hk)) h3⟩
    obtain ⟨hne, a, ha, hk⟩ := hk
    exact .inl ⟨fun e => hne (by rw [e]; rfl), a, ha, hk⟩
theorem keepC {S : Nat → Prop} {w w' : World} (f : Fr S w w') : ∀ (xs : List Cell), (∀ k, feetC xs k → ¬ S k) → holdC w xs → holdC w' xs
  | [], _, _ => trivial
  | x :: r, h, hh => ⟨Cell.keep f x (fun k hk => h k (.inl hk)) hh.1, keepC f r (fun k hk => h k (.inr hk)) hh.2⟩
end
mutual
theorem Cell.low {w : World} : ∀ (c : Cell) {k : Nat}, c.holds w → c.foot k → k < w.heap.size
  | .v _, _, _, h => h.elim
  | .s sz A n c xs, k, hh, hk => by
    obtain ⟨h1, h2, h3⟩ := hh
    rcases hk with ⟨hne, a, ha, hk⟩ | hk
    · exact (RRd sz A n (xs.map Cell.val)).low h1 ⟨fun e => hne (List.map_eq_nil_iff.1 e), a, ha, hk⟩
    · exact lowC xs h3 hk
theorem lowC {w : World} : ∀ (xs : List Cell) {k : Nat}, holdC w xs → feetC xs k → k < w.heap.size
  | [], _, _, h => h.elim
  | x :: r, k, hh, hk => by
    rcases hk with hk | hk
    · exact Cell.low x hh.1 hk
    · exact lowC r hh.2 hk
end
def RCell (c : Cell) : Res := ⟨c.foot, fun w => c.holds w, fun f h x => c.keep f h x, fun x hk => c.low x hk⟩
/-- what is read through one of its cells -/
theorem View.cell {sz n c j : Nat} {A : Option Addr} {xs : List Cell} {y : Cell} (h : xs[j]? = some y) : View (RCell (.s sz A n c xs)) (RCell y) :=
  .of (fun w hh => holdC_iff.1 hh.2.2 y (List.mem_of_getElem? h)) (fun k hk => .inr (feetC_iff.2 ⟨y, List.mem_of_getElem? h, hk⟩))
/-- fields one behind the other -/
def contig (P : Program) : List Field → Nat → Nat → Bool
  | [], o, e => o == e
  | f :: r, o, e => f.offset == o && contig P r (o + P.cellsOf f.type) e
/-- types of whole numbers, bools, texts, slices, arrays, structs, all the way down -/
def parts (P : Program) : Nat → TypeId → Bool
  | 0, _ => false
  | n + 1, t => match P.underlying t with
    | some (.int _) | some .bool | some .string => true
    | some (.slice e) => parts P n e && decide (0 < P.cellsOf e)
    | some (.array m e) => parts P n e && (P.cellsOf t == m * P.cellsOf e)
    | some (.struct fs) => fs.toList.all (fun f => parts P n f.type) && contig P fs.toList 0 (P.cellsOf t)
    | _ => false
section
variable {H : Type} {enc : TypeId × Value → H} {P : Program} {w : World} {base : Nat} {spare : Nat → Bool} {held : Bool}
end
/-! ### what a type says, read back -/
section
variable {P : Program} {t e : TypeId} {xs : List Cell}
end
section
variable {H : Type} {enc : TypeId × Value → H} {P : Program} {W : World} {spare : Nat → Bool} {held : Bool} {tss : List TypeId} {dss : List (DataW H)}
end
end Go.Eng
end
section
/- The law ServerOthers, computed. -/
set_option linter.unusedVariables false
set_option linter.unusedSimpArgs false
set_option maxRecDepth 20000
namespace Go.Proofs.YtfikjheicjamhaaDoor
open Go.Eng Go.Hx
theorem put_takeE (b : List UInt8) : takeE (putL b) = 0 ∧ takeB (putL b) = b := by
  have hl := putL_length b
  have ht : (putL b).take ((putL b).length - 4) = b := by rw [hl, Nat.add_sub_cancel, putL]; simp
  have he : takeE (putL b) = 0 := by unfold takeE; rw [if_neg (by omega), ht, if_pos rfl]
  exact ⟨he, by rw [takeB, if_pos he, ht]⟩
theorem wb_k {k s : Nat} {nm body : List UInt8} (hk : k < 256) : wkd (wbody k s nm body) = k := by
  have : (wbody k s nm body).getD 0 0 = UInt8.ofNat k := by simp [wbody]
  unfold wkd
  rw [this, UInt8.toNat_ofNat', Nat.mod_eq_of_lt (by omega)]
theorem wb_s {k s : Nat} {nm body : List UInt8} (hs : s < 4294967296) : ws (wbody k s nm body) = s := by
  have : ((wbody k s nm body).drop 1).take 4 = le4 s := by
    simp only [wbody, List.cons_append, List.nil_append, List.drop_succ_cons, List.drop_zero]
    rw [List.append_assoc, List.take_append_of_le_length (by rw [le4_length]; exact Nat.le_refl _), List.take_of_length_le (by rw [le4_length]; exact Nat.le_refl _)]
  unfold ws
  rw [this, num4_le4 hs]
theorem wb_nm {k s : Nat} {nm body : List UInt8} (hm : nm.length = 32) : nmOf (wbody k s nm body) = nm := by
  have : (wbody k s nm body).drop 5 = nm ++ body := by simp [wbody, le4]
  unfold nmOf
  rw [this, List.take_append_of_le_length (by omega), List.take_of_length_le (by omega)]
theorem ask_iff {k s : Nat} {nm body : List UInt8} (hk : k < 256) (hs : s < 4294967296) (hm : nm.length = 32) (hM : WMay k s body.length) : AskOk [] (putL (wbody k s nm body)) ↔ k = 1 := by
  obtain ⟨h1, h2⟩ := put_takeE (wbody k s nm body)
  unfold AskOk
  rw [h1, h2, wb_k hk]
  constructor
  · intro h; have := h.2.2.1; omega
  · intro h
    refine ⟨rfl, ⟨by rw [wbody_len hm]; omega, ?_⟩, by omega, fun r e => by cases e⟩
    rw [wb_k hk, wb_s hs, wbody_len hm, Nat.add_sub_cancel_left]
    exact hM
theorem frOk_nil : FrOk [] := fun x h => by cases h
theorem z32z : zm.length = 32 := by simp [zm]
theorem lives20C  : Con Tryd.prog 57 [] [] [] (fun v_ X_ S_ => v_ = (.bool true) ∧ X_ = [] ∧ S_ = []) := by
  refine henter (N := 36) Tryd.func57 rfl rfl (by simp) fun b => ?_
  refine hseq <| hreg <| hy (fun _ => y_assign rfl) <| hend <| hthen <| hseq <| hreg <| ?_
  refine hx (xh_call rfl Tryd.call43 (newSrvC) [] rfl [] rfl ?_)
  rintro _ _ _ ⟨g, gm, rfl, rfl, rfl⟩
  refine hy (fun _ => y_assign rfl) <| hend <| hsub (ρ' := [(1, _), (0, _)]) ⟨rfl, rfl, trivial⟩ <| hmemQ (X' := [_]) (S' := []) (fun _ m => m) <| hthen <| hseq <| hseq <| hreg <| hy (fun _ => y_move rfl) <| hy (fun _ => y_eqPn rfl rfl (by kernel_rfl)) <| hend <| hsub (ρ' := [(8, _), (1, _), (0, _)]) ⟨rfl, rfl, rfl, trivial⟩ <| hthen <| ?_
  refine hiff rfl (rfl) ?_
  have e0 : ([] : List UInt8).length = 0 := rfl
  have hM7 : WMay ((1 : Nat) : Int) ((7 : Nat) : Int) ([] : List UInt8).length := ⟨by omega, .inl rfl⟩
  have hi7 := ask_iff (k := 1) (s := 7) (nm := zm) (body := []) (by decide) (by decide) z32z hM7
  refine hcskip <| hthen <| hseq <| hreg <| hy (fun _ => y_move rfl) <| hy (fun _ => yV (y_build ti94 rfl rfl (by kernel_rfl) (.cons (o := 0) (sz := 1) (by kernel_rfl) rfl rfl (Nat.le_of_ble_eq_true rfl) (.cons (o := 1) (sz := 1) (by kernel_rfl) rfl rfl (Nat.le_of_ble_eq_true rfl) .nil))) ((rfl : _ = Value.agg (mc ((1 : Nat) : Int) ((7 : Nat) : Int) zm (.string (strOf []))).toArray))) <| ?_
  refine hx (xh_call rfl Tryd.call53 (rwbytesC (by omega) (by omega) z32z (by omega) (body := [])) [] rfl [] rfl ?_)
  rintro _ _ _ ⟨v, rfl, rfl, rfl⟩
  refine hfactL (fun m => (m.own 0 rfl).slice) ?_
  rintro ⟨A_x, c_x, rfl, hc_x⟩
  refine hfactL (fun m => (m.ord 0 rfl).2.1) fun hA_x => ?_
  refine hx (xh_calll rfl Tryd.call52 (sanswerC (by omega) (by omega) frOk_nil) [1] rfl (.x 0 rfl .own .nil) ?_)
  rintro _ _ _ ⟨v2, bn, body, is, rfl, rfl, rfl, hp⟩
  refine ⟨rfl, ?_⟩
  refine hfactL (fun m => (m.own 1 rfl).slice) ?_
  rintro ⟨A_x2, c_x2, rfl, hc_x2⟩
  refine hfactL (fun m => (m.ord 1 rfl).2.1) fun hA_x2 => ?_
  obtain ⟨hbl, hS⟩ := hp
  have hS' : is = true ∧ body = putL (wbody 3 7 zm []) := by
    rcases hS with h | h
    · refine ⟨h.2.1, h.2.2.trans ?_⟩
      rw [(put_takeE _).2, wb_nm z32z, wb_s (by decide)]; rfl
    · exact absurd (hi7.2 rfl) h.1
  obtain ⟨rfl, rfl⟩ := hS'
  rw [putL_length, wbody_len z32z] at hbl
  refine hy (fun _ => y_move rfl) <| hy (fun _ => y_extract rfl rfl) <| hy (fun _ => y_extract rfl rfl) <| hy (fun _ => y_assign rfl) <| hy (fun _ => y_assign rfl) <| hend <| hsub (ρ' := [(3, _), (2, _), (8, _), (1, _), (0, _)]) ⟨rfl, rfl, rfl, rfl, rfl, trivial⟩ <| hmemQ (X' := [_, _, _]) (S' := []) (fun _ m => m) <| hthen <| hseq <| hreg <| hy (fun _ => y_move rfl) <| ?_
  refine hx (xh_calll rfl Tryd.call58 (wreadC (by omega) (by omega)) [] rfl (.x 1 rfl .own .nil) ?_)
  rintro _ _ _ ⟨k, s, nm, body2, v3, err, bn2, rfl, rfl, rfl, hp2⟩
  refine ⟨rfl, ?_⟩
  refine hfactL (fun m => (m.own 0 rfl).slice) ?_
  rintro ⟨A_x3, c_x3, rfl, hc_x3⟩
  refine hfactL (fun m => (m.ord 0 rfl).2.1) fun hA_x3 => ?_
  obtain ⟨hnm, hbl2, hR⟩ := hp2
  have h9 := put_takeE (wbody 3 7 zm [])
  have hM9 : OkW (wbody 3 7 zm []) := ⟨by rw [wbody_len z32z]; omega, by rw [wb_k (by decide), wb_s (by decide), wbody_len z32z]; exact ⟨by omega, .inl rfl⟩⟩
  have hR' : k = 3 ∧ s = 7 ∧ err = 0 := by
    rcases hR with h | h | h
    · exact absurd h9.1 h.1
    · rw [h9.2] at h
      exact ⟨h.2.2.1.trans (wb_k (by decide)), h.2.2.2.1.trans (congrArg _ (wb_s (by decide))), h.2.2.2.2.2.2⟩
    · rw [h9.2] at h; exact absurd hM9 h.2.1
  obtain ⟨rfl, rfl, rfl⟩ := hR'
  refine hy (fun _ => y_move rfl) <| hy (fun _ => y_extract rfl rfl) <| hy (fun _ => y_extract rfl rfl) <| ?_
  refine hx (xh_alloc ti111 (fun g4 => ?_))
  refine hx0 (xh_stA 0 rfl rfl rfl sz111 (mc_len hnm) (mc_one rfl) rfl ?_)
  refine hy (fun _ => y_assign rfl) <| hend <| hsub (ρ' := [(5, _), (4, _), (3, _), (2, _), (8, _), (1, _), (0, _)]) ⟨rfl, rfl, rfl, rfl, rfl, rfl, rfl, trivial⟩ <| hmemQ (X' := [_, _, _, _, _]) (S' := []) (fun _ m => m) <| hthen <| hseq <| hreg <| hy (fun _ => y_move rfl) <| hy (fun _ => y_move rfl) <| hyg (o := _) rfl rfl rfl (fun _ => y_move rfl) <| hyg (o := _) rfl rfl rfl (fun _ => yT (y_eql rfl rfl) ((decide_eq_true rfl))) <| hy (fun _ => y_pickT rfl rfl) <| hy (fun _ => y_move rfl) <| hyg (o := _) rfl rfl rfl (fun _ => y_fld rfl fa111_0 (by decide)) <| hyg (o := _) rfl rfl rfl (fun m => y_ld1 rfl ag3 (ld_blk (m.blk 0 rfl) rfl)) <| hyg (o := _) rfl rfl rfl (fun _ => yT (y_eql rfl rfl) ((decide_eq_true rfl))) <| hy (fun _ => y_pickT rfl rfl) <| hy (fun _ => y_move rfl) <| hyg (o := _) rfl rfl rfl (fun _ => y_fld rfl fa111_1 (by decide)) <| hyg (o := _) rfl rfl rfl (fun m => y_ld1 rfl ag3 (ld_blk (m.blk 0 rfl) rfl)) <| hyg (o := _) rfl rfl rfl (fun _ => yT (y_eql rfl rfl) ((decide_eq_true rfl))) <| hy (fun _ => y_pickT rfl rfl) <| hy (fun _ => y_assign rfl) <| hend <| hsub (ρ' := [(0, _), (5, _), (4, _), (3, _), (2, _), (8, _), (1, _)]) ⟨rfl, rfl, rfl, rfl, rfl, rfl, rfl, trivial⟩ <| hthen <| hret <| ?_
  exact hret1 trivial rfl rfl [] rfl [] rfl ⟨rfl, rfl, rfl⟩
end Go.Proofs.YtfikjheicjamhaaDoor
end
section
/- Contracts: frames (layer 6): what gives a frame up, and what recovers it. -/
set_option linter.unusedVariables false
set_option linter.unusedSimpArgs false
set_option maxRecDepth 20000
set_option maxHeartbeats 2000000
namespace Go.Proofs.YtfikjheicjamhaaDoor
open Go.Eng Go.Hx
theorem one1 {v : Value} (h : v.oneCell' = true := by rfl) : ∀ u ∈ [v], u.oneCell' = true := fun u hu => by rw [List.mem_singleton.1 hu]; exact h
theorem mustE {q : Bool} {e : Int} : ConE Tryd.prog 112 [.bool q, .int .i64 e] [] [] (fun v_ X_ S_ => v_ = (.tuple #[]) ∧ X_ = [] ∧ S_ = [] ∧ (q = true)) (fun v_ X_ S_ => v_ = (.iface 177 (.agg #[.int .i64 e])) ∧ X_ = [] ∧ S_ = [] ∧ (q = false)) := by
  refine henterE (N := 9) Tryd.func112 rfl rfl (by simp) fun b => ?_
  refine hseq <| hreg <| hy (fun _ => y_move rfl) <| hy (fun _ => (y_not rfl)) <| hend <| hsub (ρ' := [(5, _), (0, _), (1, _)]) ⟨rfl, rfl, rfl, trivial⟩ <| hthen <| ?_
  refine hifb rfl (fun hq => ?_) (fun hq => ?_)
  · refine hreg <| hy (fun _ => y_move rfl) <| hy (fun _ => y_build ti177 rfl rfl (by kernel_rfl) (.cons (o := 0) (sz := 1) (by kernel_rfl) rfl rfl (Nat.le_of_ble_eq_true rfl) .nil)) <| hy (fun _ => y_mki rfl Tryd.underlying177 (fun _ h => by cases h)) <| ?_
    refine hx0 (xh_panic rfl ?_)
    exact hpanE [] rfl [] rfl ⟨rfl, rfl, rfl, (by simpa using hq)⟩
  · refine hcskip <| ?_
    refine hretE ?_
    exact hret0 trivial rfl [] rfl [] rfl ⟨rfl, rfl, rfl, (by simpa using hq)⟩
theorem openCatch {g4 g5 : Nat} {v : Value} {e0 e : Int} : ConD Tryd.prog 110 [.pointer (some ⟨g4, 0, none⟩), .pointer (some ⟨g5, 0, none⟩)] (.panicking (pan (.iface 177 (.agg #[.int .i64 e])))) [RBlk g4 32 [v], RBlk g5 33 [.int .i64 e0]] [] (fun u_ X_ S_ => u_ = .returning ∧ X_ = [RBlk g4 32 [.slice none 0 0], RBlk g5 33 [.int .i64 e]] ∧ S_ = []) := by
  refine henterS (N := 12) Tryd.func110 rfl rfl (by simp) fun b c_0 cs_ hu_ => ?_
  show HSL _ _ _ _ _ [0, 1, 2, 3, 4, 5, 6, 7] _ _ _ _ _
  refine hsl_rec rfl hu_ ?_
  refine hsl_y rfl (fun _ => y_tas rfl (run_tasS Tryd.underlying177)) <| hsl_y rfl (fun _ => y_move rfl) <| hsl_y rfl (fun _ => y_extract rfl rfl) <| hsl_y rfl (fun _ => y_extract rfl rfl) <| ?_
  refine hsl_x rfl (xh_alloc ti177 (fun g2 => ?_))
  refine hsl_x0 rfl (xh_stA 0 rfl rfl rfl sz177 rfl one1 rfl ?_)
  refine hslmem (fun w m => m.eqX 0 rfl (show _ = RBlk g2 177 [.int .i64 e] from rfl)) ?_
  refine hsl_y rfl (fun _ => y_assign rfl) <| hsl_done <| hmemC (X' := [_, _, _]) (S' := []) (fun _ m => m) <| hseq <| hreg <| hy (fun _ => y_move rfl) <| hend <| hsub (ρ' := [(9, _), (3, _), (2, _), (0, _), (1, _)]) ⟨rfl, rfl, rfl, rfl, rfl, trivial⟩ <| hthen <| ?_
  refine hift rfl (rfl) ?_
  refine hdrwB [0] [] rfl rfl [2, 3] [(0, some 1), (1, some 1), (2, none), (3, none)] (by kernel_rfl) (by kernel_rfl) rfl 99 <| htyU (y_fld rfl fa177_0 (by decide)) <| hty (fun m => y_ld1 rfl ag33 (ld_blk (m.blk 0 rfl) (i := 0) rfl)) <| ?_
  refine htx0 (xh_st1 1 rfl rfl rfl sz32 rfl (by first | exact Nat.le_of_ble_eq_true rfl | simp) ⟨(fun _ => wk [1] [] rfl rfl), ?_⟩)
  refine htx0 (xh_st1 2 rfl rfl rfl sz33 rfl (by first | exact Nat.le_of_ble_eq_true rfl | simp) ⟨(fun _ => wk [2] [] rfl rfl), ?_⟩)
  refine htend <| hsub (ρ' := [(9, _), (3, _), (2, _), (0, _), (1, _)]) ⟨rfl, rfl, rfl, rfl, rfl, trivial⟩ <| hmemQ (X' := [_, _, _]) (S' := []) (fun _ m => m) <| ?_
  exact hret0 trivial rfl [1, 0] rfl [] rfl ⟨rfl, rfl, rfl, rfl⟩
theorem openIdle {g4 g5 : Nat} {v : Value} {e : Int} : ConD Tryd.prog 110 [.pointer (some ⟨g4, 0, none⟩), .pointer (some ⟨g5, 0, none⟩)] .returning [RBlk g4 32 [v], RBlk g5 33 [.int .i64 e]] [] (fun u_ X_ S_ => u_ = .returning ∧ X_ = [RBlk g4 32 [v], RBlk g5 33 [.int .i64 e]] ∧ S_ = []) := by
  refine henterS (N := 12) Tryd.func110 rfl rfl (by simp) fun b c_0 cs_ hu_ => ?_
  show HSL _ _ _ _ _ [0, 1, 2, 3, 4, 5, 6, 7] _ _ _ _ _
  refine hsl_rec0 rfl hu_ ?_
  refine hsl_y rfl (fun _ => y_tas rfl (run_tas0 Tryd.underlying177 ti177)) <| hsl_y rfl (fun _ => y_move rfl) <| hsl_y rfl (fun _ => y_extract rfl rfl) <| hsl_y rfl (fun _ => y_extract rfl rfl) <| ?_
  refine hsl_x rfl (xh_alloc ti177 (fun g2 => ?_))
  refine hsl_x0 rfl (xh_stA 0 rfl rfl rfl sz177 rfl one1 rfl ?_)
  refine hsl_y rfl (fun _ => y_assign rfl) <| hsl_done <| hmemC (X' := [_, _, _]) (S' := []) (fun _ m => m) <| hseq <| hreg <| hy (fun _ => y_move rfl) <| hend <| hsub (ρ' := [(9, _), (3, _), (2, _), (0, _), (1, _)]) ⟨rfl, rfl, rfl, rfl, rfl, trivial⟩ <| hthen <| ?_
  refine hiff rfl (rfl) ?_
  refine hcskip <| ?_
  exact hret0 trivial rfl [1, 1] rfl [] rfl ⟨rfl, rfl, rfl, rfl⟩
end Go.Proofs.YtfikjheicjamhaaDoor
end
section
/- Contracts: lz.token, lz.Unpack (layer 5). -/
set_option linter.unusedVariables false
set_option linter.unusedSimpArgs false
set_option maxRecDepth 20000
set_option maxHeartbeats 2000000
namespace Go.Proofs.YtfikjheicjamhaaDoor
open Go.Eng Go.Hx
theorem tokenC {A : Option Addr} {n c : Nat} {l : List UInt8} (h0 : 0 < n) (hn : n ≤ 140737488351232) : Con Tryd.prog 145 [.slice A n c] [] [RRd 1 A n (b8s l)] (fun v_ X_ S_ => v_ = (.tuple #[.int .i64 ((tokL l).1 : Nat), .int .i64 ((tokL l).2.1 : Nat), .int .i64 ((tokL l).2.2.1 : Nat), .bool (tokL l).2.2.2]) ∧ X_ = [] ∧ S_ = []) := by
  have b0 := (l.getD 0 0).toNat_lt
  have b1 := (l.getD 1 0).toNat_lt
  have b2 := (l.getD 2 0).toNat_lt
  refine henter (N := 39) Tryd.func145 rfl rfl (by simp) fun b => ?_
  refine hfactC (fun m => rdB (m.rd 0 rfl)) ?_
  rintro ⟨hl_r, hA_r⟩
  refine hseq <| hreg <| hy (fun _ => y_assign rfl) <| hy (fun _ => y_assign rfl) <| hy (fun _ => y_assign rfl) <| hy (fun _ => y_assign rfl) <| hend <| hthen <| hseq <| hreg <| hy (fun _ => y_move rfl) <| hy (fun _ => y_idxS1 rfl rfl Tryd.underlying32 sz5 hA_r (show ((0 : Nat) : Int) = 0 from rfl) (by omega)) <| hy (fun m => y_ld1 rfl ag5 ((m.rd 0 rfl).cell (b8s_get (by omega)))) <| hy (fun _ => y_conv rfl Tryd.underlying5 Tryd.underlying3 (w64 (by omega) (by omega))) <| hy (fun _ => y_assign rfl) <| hend <| hsub (ρ' := [(6, _), (5, _), (4, _), (3, _), (2, _), (0, _)]) ⟨rfl, rfl, rfl, rfl, rfl, rfl, trivial⟩ <| hthen <| hseq <| hseq <| hreg <| hy (fun _ => y_move rfl) <| hy (fun _ => y_lss rfl rfl) <| hend <| hsub (ρ' := [(12, _), (6, _), (5, _), (4, _), (3, _), (2, _), (0, _)]) ⟨rfl, rfl, rfl, rfl, rfl, rfl, rfl, trivial⟩ <| hthen <| ?_
  refine hif rfl (fun h1 => ?_) (fun h1 => ?_)
  · have e : tokL l = ((l.getD 0 0).toNat + 2, (l.getD 0 0).toNat + 1, 0, decide ((l.getD 0 0).toNat + 2 ≤ l.length)) := by rw [tokL, if_pos (by omega)]
    rw [e]
    refine hseq <| hreg <| hy (fun _ => y_move rfl) <| hy (fun _ => y_add rfl rfl (w64 (by omega) (by omega))) <| hy (fun _ => y_move rfl) <| hy (fun _ => y_add rfl rfl (w64 (by omega) (by omega))) <| hy (fun _ => y_move rfl) <| hy (fun _ => y_lenS rfl Tryd.underlying32) <| hy (fun _ => y_move rfl) <| hy (fun _ => y_add rfl rfl (w64 (by omega) (by omega))) <| hy (fun _ => yV (y_geq rfl rfl) ((congrArg Value.bool (decide_eq_decide.2 (by omega)) : Value.bool (decide ((n : Int) ≥ ((l.getD 0 0).toNat : Int) + 2)) = .bool (decide ((l.getD 0 0).toNat + 2 ≤ l.length))))) <| hy (fun _ => y_assign rfl) <| hy (fun _ => y_assign rfl) <| hy (fun _ => y_assign rfl) <| hy (fun _ => y_assign rfl) <| hend <| hsub (ρ' := [(5, _), (4, _), (3, _), (2, _), (12, _), (6, _), (0, _)]) ⟨rfl, rfl, rfl, rfl, rfl, rfl, rfl, trivial⟩ <| hthen <| hret <| hthen_ret <| ?_
    exact hret4 trivial rfl rfl rfl rfl rfl [] rfl [] rfl ⟨rfl, rfl, rfl⟩
  · refine hcskip <| hthen <| hseq <| hseq <| hreg <| hy (fun _ => y_move rfl) <| hy (fun _ => y_lenS rfl Tryd.underlying32) <| hy (fun _ => y_lss rfl rfl) <| hend <| hsub (ρ' := [(24, _), (12, _), (6, _), (5, _), (4, _), (3, _), (2, _), (0, _)]) ⟨rfl, rfl, rfl, rfl, rfl, rfl, rfl, rfl, trivial⟩ <| hthen <| ?_
    refine hif rfl (fun h3 => ?_) (fun h3 => ?_)
    · have e : tokL l = (0, 0, 0, false) := by rw [tokL, if_neg (by omega), if_pos (by omega)]
      rw [e]
      refine hseq <| hreg <| hy (fun _ => y_assign rfl) <| hy (fun _ => y_assign rfl) <| hy (fun _ => y_assign rfl) <| hy (fun _ => y_assign rfl) <| hend <| hthen <| hret <| hthen_ret <| ?_
      exact hret4 trivial rfl rfl rfl rfl rfl [] rfl [] rfl ⟨rfl, rfl, rfl⟩
    · have e : tokL l = (3, (l.getD 0 0).toNat - 124, 1 + (l.getD 1 0).toNat + 256 * (l.getD 2 0).toNat, true) := by rw [tokL, if_neg (by omega), if_neg (by omega)]
      rw [e]
      refine hcskip <| hthen <| hseq <| hdrw [] [(0, some 0), (1, some 0), (2, some 0), (3, some 0), (4, some 0), (5, some 0), (6, some 0), (7, some 0), (8, some 0), (9, some 0), (10, some 0), (11, some 0), (12, some 0), (13, some 0), (14, some 0), (15, some 0), (16, some 0), (17, some 0)] (by kernel_rfl) (by kernel_rfl) rfl 99 <| htyU (y_move rfl) <| htyU (y_sub rfl rfl (w64 (by omega) (by omega))) <| htyU (yV (y_add rfl rfl (w64 (by omega) (by omega))) ((show Value.int .i64 (((l.getD 0 0).toNat : Int) - 128 + 4) = .int .i64 (((l.getD 0 0).toNat - 124 : Nat) : Int) by congr 1; omega))) <| htyU (y_move rfl) <| htyU (y_idxS1 rfl rfl Tryd.underlying32 sz5 hA_r (show ((1 : Nat) : Int) = 1 from rfl) (by omega)) <| hty (fun m => y_ld1 rfl ag5 ((m.rd 0 rfl).cell (b8s_get (by omega)))) <| htyU (y_conv rfl Tryd.underlying5 Tryd.underlying3 (w64 (by omega) (by omega))) <| htyU (y_add rfl rfl (w64 (by omega) (by omega))) <| htyU (y_move rfl) <| htyU (y_idxS1 rfl rfl Tryd.underlying32 sz5 hA_r (show ((2 : Nat) : Int) = 2 from rfl) (by omega)) <| hty (fun m => y_ld1 rfl ag5 ((m.rd 0 rfl).cell (b8s_get (by omega)))) <| htyU (y_conv rfl Tryd.underlying5 Tryd.underlying3 (w64 (by omega) (by omega))) <| htyU (y_shl (p := 256) rfl rfl (by decide) (by decide) (by decide) (w64 (by omega) (by omega))) <| htyU (yV (y_add rfl rfl (w64 (by omega) (by omega))) ((show Value.int .i64 (1 + ((l.getD 1 0).toNat : Int) + ((l.getD 2 0).toNat : Int) * 256) = .int .i64 ((1 + (l.getD 1 0).toNat + 256 * (l.getD 2 0).toNat : Nat) : Int) by congr 1; omega))) <| htyU (y_assign rfl) <| htyU (y_assign rfl) <| htyU (y_assign rfl) <| htyU (y_assign rfl) <| htend <| hsub (ρ' := [(5, _), (4, _), (3, _), (2, _), (24, _), (12, _), (6, _), (0, _)]) ⟨rfl, rfl, rfl, rfl, rfl, rfl, rfl, rfl, trivial⟩ <| hthen <| hret <| ?_
      exact hret4 trivial rfl rfl rfl rfl rfl [] rfl [] rfl ⟨rfl, rfl, rfl⟩
theorem unpackC {A : Option Addr} {c : Nat} {l : List UInt8} {z : Int} (hc : l.length ≤ c) (hn : l.length ≤ 1000000) (hz : z ≤ 1000000) : Con Tryd.prog 114 [.slice A l.length c, .int .i64 z] [] [RRd 1 A l.length (b8s l)] (fun v_ X_ S_ => ∃ v, v_ = (.tuple #[v, .int .i64 (unp z l []).2]) ∧ X_ = [ROwn 5 1 v (unp z l []).1.length (b8s (unp z l []).1)] ∧ S_ = []) := by
  refine henter (N := 66) Tryd.func114 rfl rfl (by simp) fun b => ?_
  refine hfactC (fun m => rdB (m.rd 0 rfl)) ?_
  rintro ⟨hl_r, hA_r⟩
  refine hseq <| hreg <| hy (fun _ => y_assign rfl) <| hy (fun _ => y_assign rfl) <| hend <| hthen <| hseq <| hreg <| hy (fun _ => y_assign rfl) <| hend <| hthen <| hseq <| hblock <| ?_
  refine hmemC (fun w m => m.addX (r' := ROwn 5 1 (.slice none 0 0) 0 []) (.refl _ _) (Own.nil _ _ _ _) (fun k hk => hk.elim)) ?_
  refine hloop6 (fun p o A2 c2 A3 c3 => p.length) (fun p o A2 c2 A3 c3 => [(0, .slice A2 p.length c2), (6, .slice A3 o.length c3)]) (fun p o A2 c2 A3 c3 => [ROwn 5 1 (.slice A3 o.length c3) o.length (b8s o)]) (fun p o A2 c2 A3 c3 => [RRd 1 A2 p.length (b8s p)]) (fun p o A2 c2 A3 c3 => p.length ≤ c2 ∧ p.length ≤ 1000000 ∧ o.length ≤ 1000000 ∧ unp z p o = unp z l []) l [] A c none 0 [(1, _)] ⟨rfl, trivial⟩ [0] rfl [0] rfl (⟨hc, hn, by decide, rfl⟩) ⟨rfl, rfl, trivial⟩ (fun p o A2 c2 A3 c3 ⟨hpc, hpn, hon, hU⟩ => ?_)
  refine hseq <| hseq <| hreg <| hy (fun _ => y_move rfl) <| hy (fun _ => y_lenS rfl Tryd.underlying32) <| hy (fun _ => y_gtr rfl rfl) <| hend <| hsub (ρ' := [(14, _), (0, _), (6, _), (1, _)]) ⟨rfl, rfl, rfl, rfl, trivial⟩ <| hthen <| ?_
  refine hif rfl (fun hlt => ?_) (fun hlt => ?_)
  · have hp0 : p ≠ [] := fun e => by rw [e] at hlt; exact absurd hlt (by decide)
    obtain ⟨ht1, ht2⟩ := tokL_n p
    refine hcskip <| hthen <| hblock <| hseq <| hreg <| hy (fun _ => y_move rfl) <| ?_
    refine hx (xh_call rfl Tryd.call145 (tokenC (by omega) (by omega)) [] rfl [0] rfl ?_)
    rintro _ _ _ ⟨rfl, rfl, rfl⟩
    refine hy (fun _ => y_move rfl) <| hy (fun _ => y_extract rfl rfl) <| hy (fun _ => y_extract rfl rfl) <| hy (fun _ => y_extract rfl rfl) <| hy (fun _ => y_extract rfl rfl) <| hy (fun _ => y_assign rfl) <| hy (fun _ => y_assign rfl) <| hy (fun _ => y_assign rfl) <| hy (fun _ => y_assign rfl) <| hend <| hsub (ρ' := [(10, _), (9, _), (8, _), (7, _), (14, _), (0, _), (6, _), (1, _)]) ⟨rfl, rfl, rfl, rfl, rfl, rfl, rfl, rfl, trivial⟩ <| hmemQ (X' := [_]) (S' := [_, _]) (fun _ m => m) <| hthen <| hseq <| hseq <| hreg <| hy (fun _ => y_move rfl) <| hy (fun _ => (y_not rfl)) <| hy (fun _ => y_move rfl) <| ?_
    refine hsplitb 24 rfl (fun hw => ?_) (fun hw => ?_)
    · rw [unp_bad hp0 (fun h => by rw [h.1] at hw; cases hw)] at hU
      rw [← hU]
      refine hskip rfl rfl rfl (by decide) <| hskip rfl rfl rfl (by decide) <| hskip rfl rfl rfl (by decide) <| hskip rfl rfl rfl (by decide) <| hy (fun _ => y_pickT rfl rfl) <| hend <| hsub (ρ' := [(29, _), (10, _), (9, _), (8, _), (7, _), (14, _), (0, _), (6, _), (1, _)]) ⟨rfl, rfl, rfl, rfl, rfl, rfl, rfl, rfl, rfl, trivial⟩ <| hthen <| ?_
      refine hift rfl (rfl) ?_
      refine hseq <| hreg <| hy (fun _ => y_assign rfl) <| hy (fun _ => y_assign rfl) <| hend <| hthen <| hret <| hthen_ret <| hqblock_ret <| hthen_ret <| hqblock_ret <| hthen_ret <| ?_
      refine hmemQ (fun w m => m.addX (r' := ROwn 5 1 (.slice none 0 0) 0 []) (.refl _ _) (Own.nil _ _ _ _) (fun k hk => hk.elim)) ?_
      exact hret2 trivial rfl rfl rfl [0] rfl [] rfl ⟨_, rfl, rfl, rfl⟩
    · have hw1 : (tokL p).2.2.2 = true := by simpa using hw
      refine hyg (o := _) rfl rfl rfl (fun _ => y_move rfl) <| hyg (o := _) rfl rfl rfl (fun _ => y_move rfl) <| hyg (o := _) rfl rfl rfl (fun _ => y_lenS rfl Tryd.underlying32) <| hyg (o := _) rfl rfl rfl (fun _ => y_gtr rfl rfl) <| hy (fun _ => y_pickF rfl rfl) <| hend <| hsub (ρ' := [(29, _), (10, _), (9, _), (8, _), (7, _), (14, _), (0, _), (6, _), (1, _)]) ⟨rfl, rfl, rfl, rfl, rfl, rfl, rfl, rfl, rfl, trivial⟩ <| hthen <| ?_
      refine hif rfl (fun hd => ?_) (fun hd => ?_)
      · rw [unp_bad hp0 (fun h => by omega)] at hU
        rw [← hU]
        refine hseq <| hreg <| hy (fun _ => y_assign rfl) <| hy (fun _ => y_assign rfl) <| hend <| hthen <| hret <| hthen_ret <| hqblock_ret <| hthen_ret <| hqblock_ret <| hthen_ret <| ?_
        refine hmemQ (fun w m => m.addX (r' := ROwn 5 1 (.slice none 0 0) 0 []) (.refl _ _) (Own.nil _ _ _ _) (fun k hk => hk.elim)) ?_
        exact hret2 trivial rfl rfl rfl [0] rfl [] rfl ⟨_, rfl, rfl, rfl⟩
      · have hd1 : (tokL p).2.2.1 ≤ o.length := by omega
        refine hcskip <| hthen <| hseq <| hseq <| hreg <| hy (fun _ => y_move rfl) <| hy (fun _ => y_lenS rfl Tryd.underlying32) <| hy (fun _ => y_move rfl) <| hy (fun _ => y_add rfl rfl (w64 (by omega) (by omega))) <| hy (fun _ => y_move rfl) <| hy (fun _ => y_gtr rfl rfl) <| hend <| hsub (ρ' := [(35, _), (29, _), (10, _), (9, _), (8, _), (7, _), (14, _), (0, _), (6, _), (1, _)]) ⟨rfl, rfl, rfl, rfl, rfl, rfl, rfl, rfl, rfl, rfl, trivial⟩ <| hthen <| ?_
        refine hif rfl (fun hm => ?_) (fun hm => ?_)
        · rw [unp_far hp0 hw1 hd1 (by omega)] at hU
          rw [← hU]
          refine hseq <| hreg <| hy (fun _ => y_assign rfl) <| hy (fun _ => y_assign rfl) <| hend <| hthen <| hret <| hthen_ret <| hqblock_ret <| hthen_ret <| hqblock_ret <| hthen_ret <| ?_
          refine hmemQ (fun w m => m.addX (r' := ROwn 5 1 (.slice none 0 0) 0 []) (.refl _ _) (Own.nil _ _ _ _) (fun k hk => hk.elim)) ?_
          exact hret2 trivial rfl rfl rfl [0] rfl [] rfl ⟨_, rfl, rfl, rfl⟩
        · rw [unp_go hp0 hw1 hd1 (by omega)] at hU
          obtain ⟨hs2, hs3⟩ := tokL_size hw1
          have hml := made_length (o := o) hw1
          have hmn : (made p o).length ≤ 1000000 := by omega
          have hdl : p.length - (tokL p).1 = (p.drop (tokL p).1).length := by rw [List.length_drop]
          generalize hsz : (tokL p).1 = sz at hs2 hs3 hU hdl ⊢
          refine hcskip <| hthen <| hseq <| hseq <| hreg <| hy (fun _ => y_move rfl) <| hy (fun _ => y_eql rfl rfl) <| hend <| hsub (ρ' := [(37, _), (35, _), (29, _), (10, _), (9, _), (8, _), (7, _), (14, _), (0, _), (6, _), (1, _)]) ⟨rfl, rfl, rfl, rfl, rfl, rfl, rfl, rfl, rfl, rfl, rfl, trivial⟩ <| hthen <| ?_
          refine hif rfl (fun hz0 => ?_) (fun hz0 => ?_)
          · have hd0 : (tokL p).2.2.1 = 0 := by omega
            have hma : made p o = o ++ (p.drop 1).take (sz - 1) := by rw [made, if_pos hd0, hsz]
            refine hmemC (fun w m => m.asV 0 rfl (View.sub (n := p.length) (c := c2) (k := 1) (m := sz - 1) (by omega) (by omega))) ?_
            refine hfactC (fun m => rdB (m.rd 0 rfl)) ?_
            rintro ⟨hl_q, hA_q⟩
            refine hreg <| hy (fun _ => y_move rfl) <| hy (fun _ => y_move rfl) <| hy (fun _ => y_move rfl) <| hy (fun _ => y_slBoth rfl rfl rfl Tryd.underlying32 sz5 (show ((1 : Nat) : Int) = 1 from rfl) (rfl : ((sz : Nat) : Int) = _) (by omega) (by omega)) <| ?_
            refine hx (xh_app 0 rfl rfl rfl Tryd.underlying32 Tryd.underlying32 (by exact .inl rfl) ti5 rfl (fun m => Src.of_rd (m.rd 0 rfl)) b8s_one (by unfold maxLen; omega) (by omega) (fun u => ?_))
            refine hfactL (fun m => (m.own 0 rfl).slice) ?_
            rintro ⟨A_x, c_x, rfl, hc_x⟩
            refine hfactL (fun m => (m.ord 0 rfl).2.1) fun hA_x => ?_
            have hlm : o.length + (sz - 1) = (made p o).length := by rw [hma, List.length_append, List.length_take, List.length_drop]; omega
            rw [hlm] at hc_x hA_x ⊢
            refine hmemL (fun w m => m.eqX 0 rfl (show _ = ROwn 5 1 (.slice A_x (made p o).length c_x) (made p o).length (b8s (made p o)) from congrArg (ROwn _ _ _ _) (by rw [hma, b8s_append]))) ?_
            refine hy (fun _ => y_assign rfl) <| hend <| hsub (ρ' := [(6, _), (37, _), (35, _), (29, _), (10, _), (9, _), (8, _), (7, _), (14, _), (0, _), (1, _)]) ⟨rfl, rfl, rfl, rfl, rfl, rfl, rfl, rfl, rfl, rfl, rfl, trivial⟩ <| hmemQ (X' := [_]) (S' := [_, _, _]) (fun _ m => m) <| hthen <| hseq <| hseq <| hreg <| hy (fun _ => y_assign rfl) <| hend <| hthen <| hblock <| ?_
            refine hloop1 (fun k2 => 1) (fun k2 => [(11, .int .i64 (k2 : Nat)), (6, .slice A_x (made p o).length c_x)]) (fun k2 => [ROwn 5 1 (.slice A_x (made p o).length c_x) (made p o).length (b8s (made p o))]) (fun k2 => []) (fun k2 => True) 0 [(37, _), (35, _), (29, _), (10, _), (9, _), (8, _), (7, _), (14, _), (0, _), (1, _)] ⟨rfl, rfl, rfl, rfl, rfl, rfl, rfl, rfl, rfl, rfl, trivial⟩ [0] rfl [] rfl (trivial) ⟨rfl, rfl, trivial⟩ (fun k2 _ => ?_)
            refine hseq <| hseq <| hreg <| hy (fun _ => y_move rfl) <| hy (fun _ => yF (y_gtr rfl rfl) ((decide_eq_false (by omega)))) <| hy (fun _ => y_move rfl) <| hskip rfl rfl rfl (by decide) <| hskip rfl rfl rfl (by decide) <| hskip rfl rfl rfl (by decide) <| hy (fun _ => y_pickF rfl rfl) <| hend <| hsub (ρ' := [(49, _), (11, _), (6, _), (37, _), (35, _), (29, _), (10, _), (9, _), (8, _), (7, _), (14, _), (0, _), (1, _)]) ⟨rfl, rfl, rfl, rfl, rfl, rfl, rfl, rfl, rfl, rfl, rfl, rfl, rfl, trivial⟩ <| hthen <| ?_
            refine hiff rfl (rfl) ?_
            refine hmemC (fun w m => m.asV 1 rfl (View.drop (n := p.length) (c := c2) (k := sz) (by omega) (by omega))) ?_
            refine hfactC (fun m => rdB (m.rd 0 rfl)) ?_
            rintro ⟨hl_p2, hA_p2⟩
            refine hexit <| hthen_exit <| hthen_exit <| hqblock_exit <| hthen <| hreg <| hy (fun _ => y_move rfl) <| hy (fun _ => y_move rfl) <| hy (fun _ => y_slFrom rfl rfl Tryd.underlying32 sz5 rfl (by omega)) <| hy (fun _ => y_assign rfl) <| hend <| hsub (ρ' := [(0, _), (49, _), (11, _), (6, _), (37, _), (35, _), (29, _), (10, _), (9, _), (8, _), (7, _), (14, _), (1, _)]) ⟨rfl, rfl, rfl, rfl, rfl, rfl, rfl, rfl, rfl, rfl, rfl, rfl, rfl, trivial⟩ <| hqblock <| ?_
            rw [hdl]
            refine hnext6 (p.drop sz) (made p o) _ (c2 - sz) A_x c_x ⟨rfl, rfl, rfl, trivial⟩ [0] rfl [0, 3] rfl (⟨by rw [← hdl]; omega, by rw [← hdl]; omega, hmn, hU⟩) (by rw [← hdl]; omega)
          · have hd0 : 0 < (tokL p).2.2.1 := by omega
            have hma : made p o = again (tokL p).2.2.1 (tokL p).2.1 o := by rw [made, if_neg (by omega)]
            generalize hdd : (tokL p).2.2.1 = dd at *
            generalize hnn : (tokL p).2.1 = nn at *
            refine hcskip <| hthen <| hseq <| hseq <| hreg <| hy (fun _ => y_assign rfl) <| hend <| hthen <| hblock <| ?_
            refine hloop4 (fun k2 o2 A4 c4 => nn - k2) (fun k2 o2 A4 c4 => [(11, .int .i64 (k2 : Nat)), (6, .slice A4 o2.length c4)]) (fun k2 o2 A4 c4 => [ROwn 5 1 (.slice A4 o2.length c4) o2.length (b8s o2)]) (fun k2 o2 A4 c4 => []) (fun k2 o2 A4 c4 => k2 ≤ nn ∧ o2.length = o.length + k2 ∧ again dd (nn - k2) o2 = made p o) 0 o A3 c3 [(37, _), (35, _), (29, _), (10, _), (9, _), (8, _), (7, _), (14, _), (0, _), (1, _)] ⟨rfl, rfl, rfl, rfl, rfl, rfl, rfl, rfl, rfl, rfl, trivial⟩ [0] rfl [] rfl (⟨Nat.zero_le _, rfl, hma.symm⟩) ⟨rfl, rfl, trivial⟩ (fun k2 o2 A4 c4 ⟨hk2, ho2, hag⟩ => ?_)
            refine hseq <| hseq <| hreg <| hy (fun _ => y_move rfl) <| hy (fun _ => yT (y_gtr rfl rfl) ((decide_eq_true (by omega)))) <| hy (fun _ => y_move rfl) <| hyg (o := _) rfl rfl rfl (fun _ => y_move rfl) <| hyg (o := _) rfl rfl rfl (fun _ => y_move rfl) <| hyg (o := _) rfl rfl rfl (fun _ => y_lss rfl rfl) <| hy (fun _ => y_pickT rfl rfl) <| hend <| hsub (ρ' := [(49, _), (11, _), (6, _), (37, _), (35, _), (29, _), (10, _), (9, _), (8, _), (7, _), (14, _), (0, _), (1, _)]) ⟨rfl, rfl, rfl, rfl, rfl, rfl, rfl, rfl, rfl, rfl, rfl, rfl, rfl, trivial⟩ <| hthen <| ?_
            refine hif rfl (fun hkn => ?_) (fun hkn => ?_)
            · have hag2 : again dd (nn - (k2 + 1)) (o2 ++ [o2.getD (o2.length - dd) 0]) = made p o := by
                rw [← hag, show nn - k2 = (nn - (k2 + 1)) + 1 by omega]
                rfl
              refine hfactC (fun m => (m.ord 0 rfl).2.1) fun hA4 => ?_
              refine hcskip <| hthen <| hseq <| hblock <| hreg <| hy (fun _ => y_move rfl) <| hy (fun _ => y_move rfl) <| hy (fun _ => y_move rfl) <| hy (fun _ => y_lenS rfl Tryd.underlying32) <| hy (fun _ => y_move rfl) <| hy (fun _ => y_sub rfl rfl (w64 (by omega) (by omega))) <| hy (fun _ => y_idxS1 rfl rfl Tryd.underlying32 sz5 hA4 (show ((o2.length - dd : Nat) : Int) = _ by omega) (by omega)) <| hy (fun m => y_ld1 rfl ag5 ((m.ord 0 rfl).cell (b8s_get (by omega)))) <| ?_
              refine hx (xh_bsl Tryd.underlying32 ti5 rfl rfl rfl (by simp [Value.cells, B8]) (by decide) (by decide) (fun g60 => ?_))
              have hA_b60 : 0 < 1 → (some (⟨g60, 0, none⟩ : Addr)) ≠ none := fun _ h => by cases h
              refine hmemL (fun w m => m.eqX 0 rfl (show _ = ROwn 5 1 (.slice (some ⟨g60, 0, none⟩) 1 1) 1 (b8s [o2.getD (o2.length - dd) 0]) from rfl)) ?_
              refine hx (xh_app 1 rfl rfl rfl Tryd.underlying32 Tryd.underlying32 (by exact .inl rfl) ti5 rfl (fun m => Src.of_rd (m.ord 0 rfl)) b8s_one (by unfold maxLen; omega) (by omega) (fun u => ?_))
              refine hfactL (fun m => (m.own 0 rfl).slice) ?_
              rintro ⟨A_x, c_x, rfl, hc_x⟩
              refine hfactL (fun m => (m.ord 0 rfl).2.1) fun hA_x => ?_
              refine hmemL (fun w m => m.eqX 0 rfl (show _ = ROwn 5 1 (.slice A_x (o2.length + 1) c_x) (o2.length + 1) (b8s (o2 ++ [o2.getD (o2.length - dd) 0])) from congrArg (ROwn _ _ _ _) (b8s_append _ _).symm)) ?_
              have hl1 : o2.length + 1 = (o2 ++ [o2.getD (o2.length - dd) 0]).length := by simp
              rw [hl1] at hc_x hA_x ⊢
              refine hy (fun _ => y_assign rfl) <| hend <| hsub (ρ' := [(6, _), (49, _), (11, _), (37, _), (35, _), (29, _), (10, _), (9, _), (8, _), (7, _), (14, _), (0, _), (1, _)]) ⟨rfl, rfl, rfl, rfl, rfl, rfl, rfl, rfl, rfl, rfl, rfl, rfl, rfl, trivial⟩ <| hmemQ (X' := [_, _]) (S' := [_, _]) (fun _ m => m) <| hqblock <| hthen <| hreg <| hy (fun _ => y_move rfl) <| hy (fun _ => y_add rfl rfl (w64 (by omega) (by omega))) <| hy (fun _ => y_assign rfl) <| hend <| hsub (ρ' := [(11, _), (6, _), (49, _), (37, _), (35, _), (29, _), (10, _), (9, _), (8, _), (7, _), (14, _), (0, _), (1, _)]) ⟨rfl, rfl, rfl, rfl, rfl, rfl, rfl, rfl, rfl, rfl, rfl, rfl, rfl, trivial⟩ <| ?_
              refine hnext4 (k2 + 1) (o2 ++ [o2.getD (o2.length - dd) 0]) A_x c_x ⟨rfl, rfl, rfl, rfl, rfl, rfl, rfl, rfl, rfl, rfl, rfl, rfl, trivial⟩ [0] rfl [0, 1] rfl (⟨by omega, by rw [← hl1]; omega, hag2⟩) (by omega)
            · obtain rfl : k2 = nn := by omega
              have hag2 : o2 = made p o := by rw [← hag, Nat.sub_self]; rfl
              rw [hag2]
              refine hmemC (fun w m => m.asV 0 rfl (View.drop (n := p.length) (c := c2) (k := sz) (by omega) (by omega))) ?_
              refine hfactC (fun m => rdB (m.rd 0 rfl)) ?_
              rintro ⟨hl_p2, hA_p2⟩
              refine hexit <| hthen_exit <| hthen_exit <| hqblock_exit <| hthen <| hreg <| hy (fun _ => y_move rfl) <| hy (fun _ => y_move rfl) <| hy (fun _ => y_slFrom rfl rfl Tryd.underlying32 sz5 rfl (by omega)) <| hy (fun _ => y_assign rfl) <| hend <| hsub (ρ' := [(0, _), (49, _), (11, _), (6, _), (37, _), (35, _), (29, _), (10, _), (9, _), (8, _), (7, _), (14, _), (1, _)]) ⟨rfl, rfl, rfl, rfl, rfl, rfl, rfl, rfl, rfl, rfl, rfl, rfl, rfl, trivial⟩ <| hqblock <| ?_
              rw [hdl]
              refine hnext6 (p.drop sz) (made p o) _ (c2 - sz) A4 c4 ⟨rfl, rfl, rfl, trivial⟩ [0] rfl [0, 2] rfl (⟨by rw [← hdl]; omega, by rw [← hdl]; omega, hmn, hU⟩) (by rw [← hdl]; omega)
  · have hp0 : p = [] := List.eq_nil_of_length_eq_zero (by omega)
    rw [hp0, unp_nil] at hU
    rw [← hU]
    refine hexit <| hthen_exit <| hthen_exit <| hqblock_exit <| hthen <| hseq <| hreg <| hy (fun _ => y_move rfl) <| hy (fun _ => y_assign rfl) <| hy (fun _ => y_assign rfl) <| hend <| hsub (ρ' := [(5, _), (4, _), (14, _), (0, _), (6, _), (1, _)]) ⟨rfl, rfl, rfl, rfl, rfl, rfl, trivial⟩ <| hthen <| hret <| ?_
    exact hret2 trivial rfl rfl rfl [0] rfl [] rfl ⟨_, rfl, rfl, rfl⟩
end Go.Proofs.YtfikjheicjamhaaDoor
end
section
/- Contracts: frames (layer 6): opening. -/
set_option linter.unusedVariables false
set_option linter.unusedSimpArgs false
set_option maxRecDepth 20000
set_option maxHeartbeats 4000000
namespace Go.Proofs.YtfikjheicjamhaaDoor
open Go.Eng Go.Hx
theorem openL_none {f : List UInt8} {most : Int} (h : lenF f = none) : openL f most = ([], 2) := by unfold openL; rw [h]
theorem openL_far {f : List UInt8} {most : Int} {k : Nat} (h : lenF f = some k) (hm : most < (k : Int)) : openL f most = ([], 3) := by unfold openL; rw [h]; simp only; rw [if_pos hm]
theorem openL_in {f : List UInt8} {most : Int} {k : Nat} (h : lenF f = some k) (hm : ¬ most < (k : Int)) : openL f most = openN f k := by unfold openL; rw [h]; simp only; rw [if_neg hm]
theorem lenF_ten {f : List UInt8} {k : Nat} (h : lenF f = some k) : 10 ≤ f.length ∧ k < 4294967296 := by
  unfold lenF at h
  split at h
  · cases h
  · rename_i hq
    cases h
    exact ⟨by have : ¬ f.length < 10 := fun e => hq (.inl e); omega, num4_lt _⟩
theorem openC {A : Option Addr} {c : Nat} {f : List UInt8} {most : Int} (hc : f.length ≤ c) (hn : f.length ≤ 1000000) (hm : most ≤ 1000000) : Con Tryd.prog 59 [.slice A f.length c, .int .i64 most] [] [RRd 1 A f.length (b8s f)] (fun v_ X_ S_ => ∃ v, v_ = (.tuple #[v, .int .i64 (openL f most).2]) ∧ X_ = [ROwn 5 1 v (openL f most).1.length (b8s (openL f most).1)] ∧ S_ = []) := by
  refine henterD (N := 54) Tryd.func59 rfl rfl (by simp) fun b => ?_
  refine hfactC (fun m => rdB (m.rd 0 rfl)) ?_
  rintro ⟨hl_r, hA_r⟩
  refine hseq <| hreg <| ?_
  refine hx (xh_alloc ti32 (fun g4 => ?_))
  refine hmemL (fun w m => m.eqX 0 rfl (show _ = RBlk g4 32 [.slice none 0 0] from rfl)) ?_
  refine hx (xh_alloc ti33 (fun g5 => ?_))
  refine hmemL (fun w m => m.eqX 0 rfl (show _ = RBlk g5 33 [.int .i64 0] from rfl)) ?_
  rcases hL : lenF f with _ | k
  · refine hend <| hmemQ (X' := [_, _]) (S' := [_]) (fun _ m => m) <| hthen <| hseq <| hreg <| hy (fun _ => y_mkf rfl rfl) <| hdeferv rfl rfl <| hend <| hsub (ρ' := [(5, _), (4, _), (0, _), (1, _)]) ⟨rfl, rfl, rfl, rfl, trivial⟩ <| hthen <| hseq <| hreg <| hy (fun _ => y_move rfl) <| ?_
    refine hx (xh_call rfl Tryd.call111 (lengthC (by omega) (by omega) rfl) [] rfl [0] rfl ?_)
    rintro _ _ _ ⟨rfl, rfl, rfl⟩
    refine hy (fun _ => y_move rfl) <| hy (fun _ => y_extract rfl rfl) <| hy (fun _ => y_extract rfl rfl) <| hy (fun _ => y_assign rfl) <| ?_
    refine hx0 (xh_st1 0 rfl rfl rfl sz33 rfl (by first | exact Nat.le_of_ble_eq_true rfl | simp) ?_)
    refine hend <| hsub (ρ' := [(6, _), (5, _), (4, _), (0, _), (1, _)]) ⟨rfl, rfl, rfl, rfl, rfl, trivial⟩ <| hmemQ (X' := [_, _]) (S' := [_]) (fun _ m => m) <| hthen <| hseq <| hreg <| hy (fun m => y_ld1 rfl ag33 (ld_blk (m.blk 0 rfl) rfl)) <| hy (fun _ => y_eql rfl rfl) <| hy (fun m => y_ld1 rfl ag33 (ld_blk (m.blk 0 rfl) rfl)) <| ?_
    refine hx (xh_callE rfl Tryd.call112 (mustE) [] rfl [] rfl ?_ ?_)
    · rintro _ _ _ ⟨rfl, rfl, rfl, q1⟩
      refine hthen_panic <| hleaveP <| ?_
      rw [hL]
      rw [(openL_none hL)]
      refine hdone (by simp) Tryd.call110 (openCatch) [1, 0] rfl [] rfl ?_
      rintro _ _ _ ⟨rfl, rfl, rfl⟩
      refine humem (fun w m => m.addX (r' := ROwn 5 1 (.slice none 0 0) 0 []) (.refl _ _) (Own.nil _ _ _ _) (fun k hk => hk.elim)) ?_
      exact hlastCC rfl rfl rfl ag32 ag33 (fun m => ld_blk (m.blk 1 rfl) (i := 0) rfl) (fun m => ld_blk (m.blk 2 rfl) (i := 0) rfl) [0] rfl [] rfl ⟨_, rfl, rfl, rfl⟩
    · rintro _ _ _ ⟨rfl, rfl, rfl, q1⟩
      exact absurd q1 (by rw [hL]; simp)
  · refine hend <| hmemQ (X' := [_, _]) (S' := [_]) (fun _ m => m) <| hthen <| hseq <| hreg <| hy (fun _ => y_mkf rfl rfl) <| hdeferv rfl rfl <| hend <| hsub (ρ' := [(5, _), (4, _), (0, _), (1, _)]) ⟨rfl, rfl, rfl, rfl, trivial⟩ <| hthen <| hseq <| hreg <| hy (fun _ => y_move rfl) <| ?_
    refine hx (xh_call rfl Tryd.call111 (lengthC (by omega) (by omega) (by omega)) [] rfl [0] rfl ?_)
    rintro _ _ _ ⟨rfl, rfl, rfl⟩
    refine hy (fun _ => y_move rfl) <| hy (fun _ => y_extract rfl rfl) <| hy (fun _ => y_extract rfl rfl) <| hy (fun _ => y_assign rfl) <| ?_
    refine hx0 (xh_st1 0 rfl rfl rfl sz33 rfl (by first | exact Nat.le_of_ble_eq_true rfl | simp) ?_)
    refine hend <| hsub (ρ' := [(6, _), (5, _), (4, _), (0, _), (1, _)]) ⟨rfl, rfl, rfl, rfl, rfl, trivial⟩ <| hmemQ (X' := [_, _]) (S' := [_]) (fun _ m => m) <| hthen <| hseq <| hreg <| hy (fun m => y_ld1 rfl ag33 (ld_blk (m.blk 0 rfl) rfl)) <| hy (fun _ => y_eql rfl rfl) <| hy (fun m => y_ld1 rfl ag33 (ld_blk (m.blk 0 rfl) rfl)) <| ?_
    refine hx (xh_callE rfl Tryd.call112 (mustE) [] rfl [] rfl ?_ ?_)
    · rintro _ _ _ ⟨rfl, rfl, rfl, q1⟩
      refine hthen_panic <| hleaveP <| ?_
      exact absurd q1 (by rw [hL]; simp)
    · rintro _ _ _ ⟨rfl, rfl, rfl, q1⟩
      rw [hL, Option.getD_some]
      refine hend <| hsub (ρ' := [(6, _), (5, _), (4, _), (0, _), (1, _)]) ⟨rfl, rfl, rfl, rfl, rfl, trivial⟩ <| hmemQ (X' := [_, _]) (S' := [_]) (fun _ m => m) <| hthen <| hseq <| hreg <| hy (fun _ => y_move rfl) <| hy (fun _ => y_move rfl) <| hy (fun _ => y_leq rfl rfl) <| ?_
      refine hx (xh_callE rfl Tryd.call112 (mustE) [] rfl [] rfl ?_ ?_)
      · rintro _ _ _ ⟨rfl, rfl, rfl, q2⟩
        refine hthen_panic <| hleaveP <| ?_
        rw [(openL_far hL (Int.not_le.1 (of_decide_eq_false q2)))]
        refine hdone (by simp) Tryd.call110 (openCatch) [1, 0] rfl [] rfl ?_
        rintro _ _ _ ⟨rfl, rfl, rfl⟩
        refine humem (fun w m => m.addX (r' := ROwn 5 1 (.slice none 0 0) 0 []) (.refl _ _) (Own.nil _ _ _ _) (fun k hk => hk.elim)) ?_
        exact hlastCC rfl rfl rfl ag32 ag33 (fun m => ld_blk (m.blk 1 rfl) (i := 0) rfl) (fun m => ld_blk (m.blk 2 rfl) (i := 0) rfl) [0] rfl [] rfl ⟨_, rfl, rfl, rfl⟩
      · rintro _ _ _ ⟨rfl, rfl, rfl, q2⟩
        obtain ⟨h10, hk32⟩ := lenF_ten hL
        have hkm : (k : Int) ≤ most := of_decide_eq_true q2
        have hopen := openL_in hL (Int.not_lt.2 hkm)
        refine hmemL (fun w m => m.asV 0 rfl (View.sub (n := f.length) (c := c) (k := 6) (m := f.length - 10) (by omega) (by omega))) ?_
        refine hfactL (fun m => rdB (m.rd 0 rfl)) ?_
        rintro ⟨hl_p, hA_p⟩
        refine hend <| hsub (ρ' := [(6, _), (5, _), (4, _), (0, _), (1, _)]) ⟨rfl, rfl, rfl, rfl, rfl, trivial⟩ <| hmemQ (X' := [_, _]) (S' := [_, _]) (fun _ m => m) <| hthen <| hseq <| hreg <| hy (fun _ => y_move rfl) <| hy (fun _ => y_move rfl) <| hy (fun _ => y_lenS rfl Tryd.underlying32) <| hy (fun _ => yV (y_sub rfl rfl (w64 (by omega) (by omega))) ((show Value.int .i64 ((f.length : Int) - 4) = .int .i64 ((f.length - 4 : Nat) : Int) by congr 1; omega))) <| hy (fun _ => yV (y_slBoth rfl rfl rfl Tryd.underlying32 sz5 (show ((6 : Nat) : Int) = 6 from rfl) rfl (by omega) (by omega)) ((show Value.slice (if c = 6 then A else A.map (·.add (6 * 1))) (f.length - 4 - 6) (c - 6) = .slice (if c = 6 then A else A.map (·.add (6 * 1))) (f.length - 10) (c - 6) by congr 1))) <| ?_
        refine hx (xh_call rfl Tryd.call108 (cloneC (by omega)) [] rfl [0] rfl ?_)
        rintro _ _ _ ⟨v, rfl, rfl, rfl⟩
        refine hfactL (fun m => (m.own 0 rfl).slice) ?_
        rintro ⟨A_x, c_x, rfl, hc_x⟩
        refine hfactL (fun m => (m.ord 0 rfl).2.1) fun hA_x => ?_
        have hbl : f.length - 10 = (bodyF f).length := by unfold bodyF; rw [List.length_take, List.length_drop]; omega
        have hb2 : (f.drop 6).take (bodyF f).length = bodyF f := by rw [← hbl]; rfl
        rw [hbl, hb2]
        rw [hbl] at hc_x
        refine hx0 (xh_st1 2 rfl rfl rfl sz32 rfl (by first | exact Nat.le_of_ble_eq_true rfl | simp) ?_)
        refine hend <| hsub (ρ' := [(6, _), (5, _), (4, _), (0, _), (1, _)]) ⟨rfl, rfl, rfl, rfl, rfl, trivial⟩ <| hmemQ (X' := [_, _, _]) (S' := [_, _]) (fun _ m => m) <| hthen <| hseq <| hseq <| hreg <| hy (fun _ => y_move rfl) <| ?_
        refine hx (xh_call rfl Tryd.call113 (packedC (by omega) (by omega) rfl) [] rfl [1] rfl ?_)
        rintro _ _ _ ⟨rfl, rfl, rfl⟩
        refine hend <| hsub (ρ' := [(28, _), (6, _), (5, _), (4, _), (0, _), (1, _)]) ⟨rfl, rfl, rfl, rfl, rfl, rfl, trivial⟩ <| hmemQ (X' := [_, _, _]) (S' := [_, _]) (fun _ m => m) <| hthen <| ?_
        refine hif rfl (fun hpk => ?_) (fun hpk => ?_)
        · have hu : unF f k = unp (k : Int) (bodyF f) [] := by
            unfold unF
            exact if_pos hpk.2
          have hkz : (k : Int) ≤ 1000000 := by omega
          have hul := unp_length (most := (k : Int)) (bodyF f) [] (by simp)
          have hbn : (bodyF f).length ≤ 1000000 := by omega
          refine hseq <| hreg <| hy (fun m => y_ld1 rfl ag32 (ld_blk (m.blk 0 rfl) rfl)) <| hy (fun _ => y_move rfl) <| ?_
          refine hx (xh_calll rfl Tryd.call114 (unpackC hc_x hbn hkz) [] rfl (.x 1 rfl .own .nil) ?_)
          rintro _ _ _ ⟨v2, rfl, rfl, rfl⟩
          refine ⟨rfl, ?_⟩
          refine hfactL (fun m => (m.own 0 rfl).slice) ?_
          rintro ⟨A_x2, c_x2, rfl, hc_x2⟩
          refine hfactL (fun m => (m.ord 0 rfl).2.1) fun hA_x2 => ?_
          refine hy (fun _ => y_move rfl) <| hy (fun _ => y_extract rfl rfl) <| hy (fun _ => y_extract rfl rfl) <| ?_
          refine hx0 (xh_st1 1 rfl rfl rfl sz32 rfl (by first | exact Nat.le_of_ble_eq_true rfl | simp) ?_)
          refine hx0 (xh_st1 3 rfl rfl rfl sz33 rfl (by first | exact Nat.le_of_ble_eq_true rfl | simp) ?_)
          refine hend <| hsub (ρ' := [(28, _), (6, _), (5, _), (4, _), (0, _), (1, _)]) ⟨rfl, rfl, rfl, rfl, rfl, rfl, trivial⟩ <| hmemQ (X' := [_, _, _, _]) (S' := [_, _]) (fun _ m => m) <| hthen <| hreg <| hy (fun m => y_ld1 rfl ag33 (ld_blk (m.blk 0 rfl) rfl)) <| hy (fun _ => y_eql rfl rfl) <| ?_
          refine hx (xh_callE rfl Tryd.call112 (mustE) [] rfl [] rfl ?_ ?_)
          · rintro _ _ _ ⟨rfl, rfl, rfl, q3⟩
            refine hthen_panic <| hleaveP <| ?_
            have hno : openL f most = ([], 2) := by
              rw [hopen]
              unfold openN
              rw [hu]
              exact if_pos (of_decide_eq_false q3)
            rw [hno]
            refine hdone (by simp) Tryd.call110 (openCatch) [1, 0] rfl [] rfl ?_
            rintro _ _ _ ⟨rfl, rfl, rfl⟩
            refine humem (fun w m => m.addX (r' := ROwn 5 1 (.slice none 0 0) 0 []) (.refl _ _) (Own.nil _ _ _ _) (fun k hk => hk.elim)) ?_
            exact hlastCC rfl rfl rfl ag32 ag33 (fun m => ld_blk (m.blk 1 rfl) (i := 0) rfl) (fun m => ld_blk (m.blk 2 rfl) (i := 0) rfl) [0] rfl [] rfl ⟨_, rfl, rfl, rfl⟩
          · rintro _ _ _ ⟨rfl, rfl, rfl, q3⟩
            have hE0 : (unp (k : Int) (bodyF f) []).2 = 0 := of_decide_eq_true q3
            obtain ⟨u, hu2⟩ : ∃ u, unp (k : Int) (bodyF f) [] = (u, 0) := ⟨_, Prod.ext rfl hE0⟩
            rw [hu2] at hu hul
            rw [hu2]
            dsimp only
            have hun : u.length ≤ 1000000 := by
              rcases hul.1 with h | h
              · have h : (u.length : Int) ≤ k := h
                omega
              · have h : u = [] := h
                rw [h]; exact Nat.zero_le _
            refine hend <| hsub (ρ' := [(28, _), (6, _), (5, _), (4, _), (0, _), (1, _)]) ⟨rfl, rfl, rfl, rfl, rfl, rfl, trivial⟩ <| hmemQ (X' := [_, _, _, _]) (S' := [_, _]) (fun _ m => m) <| hthen <| hseq <| hreg <| hy (fun m => y_ld1 rfl ag32 (ld_blk (m.blk 1 rfl) rfl)) <| hy (fun _ => y_lenS rfl Tryd.underlying32) <| hy (fun _ => y_move rfl) <| hy (fun _ => y_eql rfl rfl) <| ?_
            refine hx (xh_callE rfl Tryd.call112 (mustE) [] rfl [] rfl ?_ ?_)
            · rintro _ _ _ ⟨rfl, rfl, rfl, q4⟩
              refine hthen_panic <| hleaveP <| ?_
              have hno : openL f most = ([], 2) := by
                rw [hopen]
                unfold openN
                rw [hu]
                exact (if_neg (by simp)).trans (if_pos (by have := of_decide_eq_false q4; simp only; omega))
              rw [hno]
              refine hdone (by simp) Tryd.call110 (openCatch) [1, 0] rfl [] rfl ?_
              rintro _ _ _ ⟨rfl, rfl, rfl⟩
              refine humem (fun w m => m.addX (r' := ROwn 5 1 (.slice none 0 0) 0 []) (.refl _ _) (Own.nil _ _ _ _) (fun k hk => hk.elim)) ?_
              exact hlastCC rfl rfl rfl ag32 ag33 (fun m => ld_blk (m.blk 1 rfl) (i := 0) rfl) (fun m => ld_blk (m.blk 2 rfl) (i := 0) rfl) [0] rfl [] rfl ⟨_, rfl, rfl, rfl⟩
            · rintro _ _ _ ⟨rfl, rfl, rfl, q4⟩
              have hlen : (u).length = k := by have := of_decide_eq_true q4; omega
              have hgo : openL f most = if le4 (crcSum u) ≠ f.drop (f.length - 4) then ([], 7) else (u, 0) := by
                rw [hopen]
                unfold openN
                rw [hu]
                exact (if_neg (by simp)).trans (if_neg (by simp only; omega))
              refine hmemL (fun w m => m.asV 1 rfl (View.drop (n := f.length) (c := c) (k := f.length - 4) (by omega) (by omega))) ?_
              refine hfactL (fun m => rdB (m.rd 0 rfl)) ?_
              rintro ⟨hl_t, hA_t⟩
              have hcl := crcSum_lt u
              refine hend <| hsub (ρ' := [(28, _), (6, _), (5, _), (4, _), (0, _), (1, _)]) ⟨rfl, rfl, rfl, rfl, rfl, rfl, trivial⟩ <| hmemQ (X' := [_, _, _, _]) (S' := [_, _, _]) (fun _ m => m) <| hthen <| hseq <| hdrwBE [43, 44, 45, 46, 47, 48, 49, 50, 51, 52] [0, 0, 0, 0] [0, 1, 2] rfl rfl [1, 2, 8, 9] [(0, some 0), (3, some 2), (4, some 4), (5, some 2), (6, some 2), (7, some 2), (1, none), (2, none), (8, none), (9, none)] (by kernel_rfl) (by kernel_rfl) (by kernel_rfl) rfl 99 <| hty (fun m => y_ld1 rfl ag32 (ld_blk (m.blk 1 rfl) rfl)) <| htyU (y_move rfl) <| htyU (y_move rfl) <| htyU (y_lenS rfl Tryd.underlying32) <| htyU (yV (y_sub rfl rfl (w64 (by omega) (by omega))) ((show Value.int .i64 ((f.length : Int) - 4) = .int .i64 ((f.length - 4 : Nat) : Int) by congr 1; omega))) <| htyU (y_slFrom rfl rfl Tryd.underlying32 sz5 rfl (by omega)) <| ?_
              refine htx (xh_calll rfl Tryd.call117 (crcSumC (by omega)) [] rfl (.x 2 rfl .own .nil) ?_)
              rintro _ _ _ ⟨rfl, rfl, rfl⟩
              refine ⟨rfl, ?_⟩
              refine ⟨(fun _ => wk [0, 0, 0, 0] [0, 1, 2] rfl rfl), ?_⟩
              refine htx (xh_call rfl Tryd.call116 (fnumberC (by omega)) [] rfl [] rfl ?_)
              rintro _ _ _ ⟨v3, rfl, rfl, rfl⟩
              refine ⟨(fun _ => wk [1, 1, 1, 1] [0, 1, 2] rfl rfl), ?_⟩
              refine htfact (fun m => (m.own 0 rfl).slice) ?_
              rintro ⟨A_x3, c_x3, rfl, hc_x3⟩
              refine htfact (fun m => (m.ord 0 rfl).2.1) fun hA_x3 => ?_
              refine htx (xh_calll rfl Tryd.call115 (bytesEqualC) [] rfl (.x 0 rfl .own (.s 0 rfl .nil)) ?_)
              rintro _ _ _ ⟨rfl, rfl, rfl⟩
              refine ⟨rfl, ?_⟩
              refine ⟨(fun _ => wk [1, 1, 1, 1] [0, 1, 2] rfl rfl), ?_⟩
              refine htx (xh_callE rfl Tryd.call112 (mustE) [] rfl [] rfl ?_ ?_)
              · rintro _ _ _ ⟨rfl, rfl, rfl, q5⟩
                refine hpanq <| hthen_panic <| hleaveP <| ?_
                rw [(hgo.trans (if_pos (of_decide_eq_false q5)))]
                refine hdone (by simp) Tryd.call110 (openCatch) [2, 1] rfl [] rfl ?_
                rintro _ _ _ ⟨rfl, rfl, rfl⟩
                refine humem (fun w m => m.addX (r' := ROwn 5 1 (.slice none 0 0) 0 []) (.refl _ _) (Own.nil _ _ _ _) (fun k hk => hk.elim)) ?_
                exact hlastCC rfl rfl rfl ag32 ag33 (fun m => ld_blk (m.blk 1 rfl) (i := 0) rfl) (fun m => ld_blk (m.blk 2 rfl) (i := 0) rfl) [0] rfl [] rfl ⟨_, rfl, rfl, rfl⟩
              · rintro _ _ _ ⟨rfl, rfl, rfl, q5⟩
                refine ⟨(fun _ => wk [1, 1, 1, 1] [0, 1, 2] rfl rfl), ?_⟩
                rw [hgo.trans (if_neg (fun h => h (of_decide_eq_true q5)))]
                refine htendE <| hsub (ρ' := [(28, _), (6, _), (5, _), (4, _), (0, _), (1, _)]) ⟨rfl, rfl, rfl, rfl, rfl, rfl, trivial⟩ <| hmemQ (X' := [_, _, _, _, _]) (S' := [_, _, _]) (fun _ m => m) <| hthen <| hseq <| hreg <| hy (fun m => y_ld1 rfl ag32 (ld_blk (m.blk 2 rfl) rfl)) <| ?_
                refine hx0 (xh_st1 2 rfl rfl rfl sz32 rfl (by first | exact Nat.le_of_ble_eq_true rfl | simp) ?_)
                refine hx0 (xh_st1 2 rfl rfl rfl sz33 rfl (by first | exact Nat.le_of_ble_eq_true rfl | simp) ?_)
                refine hend <| hsub (ρ' := [(28, _), (6, _), (5, _), (4, _), (0, _), (1, _)]) ⟨rfl, rfl, rfl, rfl, rfl, rfl, trivial⟩ <| hmemQ (X' := [_, _, _, _, _]) (S' := [_, _, _]) (fun _ m => m) <| hthen <| hret <| ?_
                refine hleaveN trivial ?_
                refine hdone (by simp) Tryd.call110 (openIdle) [1, 0] rfl [] rfl ?_
                rintro _ _ _ ⟨rfl, rfl, rfl⟩
                exact hlastCC rfl rfl rfl ag32 ag33 (fun m => ld_blk (m.blk 0 rfl) (i := 0) rfl) (fun m => ld_blk (m.blk 1 rfl) (i := 0) rfl) [3] rfl [] rfl ⟨_, rfl, rfl, rfl⟩
        · have hu : unF f k = (bodyF f, 0) := by
            unfold unF
            exact if_neg fun e => hpk ⟨by rw [hL]; rfl, e⟩
          refine hcskip <| hthen <| hseq <| hreg <| hy (fun m => y_ld1 rfl ag32 (ld_blk (m.blk 0 rfl) rfl)) <| hy (fun _ => y_lenS rfl Tryd.underlying32) <| hy (fun _ => y_move rfl) <| hy (fun _ => y_eql rfl rfl) <| ?_
          refine hx (xh_callE rfl Tryd.call112 (mustE) [] rfl [] rfl ?_ ?_)
          · rintro _ _ _ ⟨rfl, rfl, rfl, q4⟩
            refine hthen_panic <| hleaveP <| ?_
            have hno : openL f most = ([], 2) := by
              rw [hopen]
              unfold openN
              rw [hu]
              exact (if_neg (by simp)).trans (if_pos (by have := of_decide_eq_false q4; simp only; omega))
            rw [hno]
            refine hdone (by simp) Tryd.call110 (openCatch) [0, 1] rfl [] rfl ?_
            rintro _ _ _ ⟨rfl, rfl, rfl⟩
            refine humem (fun w m => m.addX (r' := ROwn 5 1 (.slice none 0 0) 0 []) (.refl _ _) (Own.nil _ _ _ _) (fun k hk => hk.elim)) ?_
            exact hlastCC rfl rfl rfl ag32 ag33 (fun m => ld_blk (m.blk 1 rfl) (i := 0) rfl) (fun m => ld_blk (m.blk 2 rfl) (i := 0) rfl) [0] rfl [] rfl ⟨_, rfl, rfl, rfl⟩
          · rintro _ _ _ ⟨rfl, rfl, rfl, q4⟩
            have hlen : ((bodyF f)).length = k := by have := of_decide_eq_true q4; omega
            have hgo : openL f most = if le4 (crcSum (bodyF f)) ≠ f.drop (f.length - 4) then ([], 7) else ((bodyF f), 0) := by
              rw [hopen]
              unfold openN
              rw [hu]
              exact (if_neg (by simp)).trans (if_neg (by simp only; omega))
            refine hmemL (fun w m => m.asV 1 rfl (View.drop (n := f.length) (c := c) (k := f.length - 4) (by omega) (by omega))) ?_
            refine hfactL (fun m => rdB (m.rd 0 rfl)) ?_
            rintro ⟨hl_t, hA_t⟩
            have hcl := crcSum_lt (bodyF f)
            refine hend <| hsub (ρ' := [(28, _), (6, _), (5, _), (4, _), (0, _), (1, _)]) ⟨rfl, rfl, rfl, rfl, rfl, rfl, trivial⟩ <| hmemQ (X' := [_, _, _]) (S' := [_, _, _]) (fun _ m => m) <| hthen <| hseq <| hdrwBE [43, 44, 45, 46, 47, 48, 49, 50, 51, 52] [0, 0, 0] [0, 1, 2] rfl rfl [1, 2, 8, 9] [(0, some 0), (3, some 2), (4, some 4), (5, some 2), (6, some 2), (7, some 2), (1, none), (2, none), (8, none), (9, none)] (by kernel_rfl) (by kernel_rfl) (by kernel_rfl) rfl 99 <| hty (fun m => y_ld1 rfl ag32 (ld_blk (m.blk 0 rfl) rfl)) <| htyU (y_move rfl) <| htyU (y_move rfl) <| htyU (y_lenS rfl Tryd.underlying32) <| htyU (yV (y_sub rfl rfl (w64 (by omega) (by omega))) ((show Value.int .i64 ((f.length : Int) - 4) = .int .i64 ((f.length - 4 : Nat) : Int) by congr 1; omega))) <| htyU (y_slFrom rfl rfl Tryd.underlying32 sz5 rfl (by omega)) <| ?_
            refine htx (xh_calll rfl Tryd.call117 (crcSumC (by omega)) [] rfl (.x 1 rfl .own .nil) ?_)
            rintro _ _ _ ⟨rfl, rfl, rfl⟩
            refine ⟨rfl, ?_⟩
            refine ⟨(fun _ => wk [0, 0, 0] [0, 1, 2] rfl rfl), ?_⟩
            refine htx (xh_call rfl Tryd.call116 (fnumberC (by omega)) [] rfl [] rfl ?_)
            rintro _ _ _ ⟨v2, rfl, rfl, rfl⟩
            refine ⟨(fun _ => wk [1, 1, 1] [0, 1, 2] rfl rfl), ?_⟩
            refine htfact (fun m => (m.own 0 rfl).slice) ?_
            rintro ⟨A_x2, c_x2, rfl, hc_x2⟩
            refine htfact (fun m => (m.ord 0 rfl).2.1) fun hA_x2 => ?_
            refine htx (xh_calll rfl Tryd.call115 (bytesEqualC) [] rfl (.x 0 rfl .own (.s 0 rfl .nil)) ?_)
            rintro _ _ _ ⟨rfl, rfl, rfl⟩
            refine ⟨rfl, ?_⟩
            refine ⟨(fun _ => wk [1, 1, 1] [0, 1, 2] rfl rfl), ?_⟩
            refine htx (xh_callE rfl Tryd.call112 (mustE) [] rfl [] rfl ?_ ?_)
            · rintro _ _ _ ⟨rfl, rfl, rfl, q5⟩
              refine hpanq <| hthen_panic <| hleaveP <| ?_
              rw [(hgo.trans (if_pos (of_decide_eq_false q5)))]
              refine hdone (by simp) Tryd.call110 (openCatch) [1, 2] rfl [] rfl ?_
              rintro _ _ _ ⟨rfl, rfl, rfl⟩
              refine humem (fun w m => m.addX (r' := ROwn 5 1 (.slice none 0 0) 0 []) (.refl _ _) (Own.nil _ _ _ _) (fun k hk => hk.elim)) ?_
              exact hlastCC rfl rfl rfl ag32 ag33 (fun m => ld_blk (m.blk 1 rfl) (i := 0) rfl) (fun m => ld_blk (m.blk 2 rfl) (i := 0) rfl) [0] rfl [] rfl ⟨_, rfl, rfl, rfl⟩
            · rintro _ _ _ ⟨rfl, rfl, rfl, q5⟩
              refine ⟨(fun _ => wk [1, 1, 1] [0, 1, 2] rfl rfl), ?_⟩
              rw [hgo.trans (if_neg (fun h => h (of_decide_eq_true q5)))]
              refine htendE <| hsub (ρ' := [(28, _), (6, _), (5, _), (4, _), (0, _), (1, _)]) ⟨rfl, rfl, rfl, rfl, rfl, rfl, trivial⟩ <| hmemQ (X' := [_, _, _, _]) (S' := [_, _, _]) (fun _ m => m) <| hthen <| hseq <| hreg <| hy (fun m => y_ld1 rfl ag32 (ld_blk (m.blk 1 rfl) rfl)) <| ?_
              refine hx0 (xh_st1 1 rfl rfl rfl sz32 rfl (by first | exact Nat.le_of_ble_eq_true rfl | simp) ?_)
              refine hx0 (xh_st1 3 rfl rfl rfl sz33 rfl (by first | exact Nat.le_of_ble_eq_true rfl | simp) ?_)
              refine hend <| hsub (ρ' := [(28, _), (6, _), (5, _), (4, _), (0, _), (1, _)]) ⟨rfl, rfl, rfl, rfl, rfl, rfl, trivial⟩ <| hmemQ (X' := [_, _, _, _]) (S' := [_, _, _]) (fun _ m => m) <| hthen <| hret <| ?_
              refine hleaveN trivial ?_
              refine hdone (by simp) Tryd.call110 (openIdle) [1, 0] rfl [] rfl ?_
              rintro _ _ _ ⟨rfl, rfl, rfl⟩
              exact hlastCC rfl rfl rfl ag32 ag33 (fun m => ld_blk (m.blk 0 rfl) (i := 0) rfl) (fun m => ld_blk (m.blk 1 rfl) (i := 0) rfl) [3] rfl [] rfl ⟨_, rfl, rfl, rfl⟩
end Go.Proofs.YtfikjheicjamhaaDoor
end
section
/- The law ServerGives, computed. -/
set_option linter.unusedVariables false
set_option linter.unusedSimpArgs false
set_option maxRecDepth 20000
set_option maxHeartbeats 4000000
namespace Go.Proofs.YtfikjheicjamhaaDoor
open Go.Eng Go.Hx
theorem askOk_of {fr : Frames} {K : Nat} {nm : List UInt8} (hK : K < 4294967296) (hm : nm.length = 32) (hr : ∀ r, getF fr nm = some r → r.n ≤ 4106) : AskOk fr (putL (wbody 1 K nm [])) := by
  obtain ⟨h1, h2⟩ := put_takeE (wbody 1 K nm [])
  unfold AskOk
  rw [h1, h2, wb_k (by decide), wb_nm hm]
  refine ⟨rfl, ⟨by rw [wbody_len hm]; omega, ?_⟩, rfl, hr⟩
  rw [wb_k (by decide), wb_s hK, wbody_len hm, Nat.add_sub_cancel_left]
  exact ⟨by omega, .inl rfl⟩
theorem says_of {fr : Frames} {K : Nat} {nm : List UInt8} {is : Bool} {body : List UInt8} (hK : K < 4294967296) (hm : nm.length = 32) (hr : ∀ r, getF fr nm = some r → r.n ≤ 4106) (h : SaysS fr (putL (wbody 1 K nm [])) is body) :
    is = true ∧ body = putL (wbody (if (getF fr nm).isSome then 2 else 3) K nm (((getF fr nm).map (·.l)).getD [])) := by
  rcases h with h | h
  · refine ⟨h.2.1, h.2.2.trans ?_⟩
    rw [(put_takeE _).2, wb_nm hm, wb_s hK]
  · exact absurd (askOk_of hK hm hr) h.1
theorem reads_of {k K : Nat} {nm bd : List UInt8} {k1 s1 : Int} {nm1 body : List UInt8} {err : Int} (hk : k < 256) (hK : K < 4294967296) (hm : nm.length = 32) (hM : WMay k K bd.length) (h : ReadW (putL (wbody k K nm bd)) k1 s1 nm1 body err) :
    k1 = k ∧ s1 = K ∧ nm1 = nm ∧ body = bd ∧ err = 0 := by
  have h9 := put_takeE (wbody k K nm bd)
  have hO : OkW (wbody k K nm bd) := ⟨by rw [wbody_len hm]; omega, by rw [wb_k hk, wb_s hK, wbody_len hm, Nat.add_sub_cancel_left]; exact hM⟩
  rcases h with h | h | h
  · exact absurd h9.1 h.1
  · rw [h9.2] at h
    refine ⟨h.2.2.1.trans (wb_k hk), h.2.2.2.1.trans (congrArg _ (wb_s hK)), h.2.2.2.2.1.trans (wb_nm hm), h.2.2.2.2.2.1.trans ?_, h.2.2.2.2.2.2⟩
    have : (wbody k K nm bd).drop 5 = nm ++ bd := by simp [wbody, le4]
    rw [show (37 : Nat) = 5 + 32 from rfl, ← List.drop_drop, this, ← hm, List.drop_left]
  · rw [h9.2] at h; exact absurd hO h.2.1
theorem get1 (o nm : List UInt8) (ho : o.length = 32) (row : BRow) : getF (aput [] (⟨o, ho⟩ : Dg) row) nm = if nm = o then some row else none := by
  by_cases h : nm = o
  · simp [getF, aput, h]
  · rw [if_neg h]
    have : ¬ o = nm := fun e => h e.symm
    simp [getF, aput, this]
end Go.Proofs.YtfikjheicjamhaaDoor
end
section
/- The law ServerSizes, computed. -/
set_option linter.unusedVariables false
set_option linter.unusedSimpArgs false
set_option maxRecDepth 20000
set_option maxHeartbeats 4000000
namespace Go.Proofs.YtfikjheicjamhaaDoor
open Go.Eng Go.Hx
theorem rep_b8s (k : Nat) : List.replicate k (Value.int .u8 0) = b8s (List.replicate k 0) := by simp [b8s, B8]
theorem serverSizesC {z : Int} (hz : -9223372036854775808 ≤ z ∧ z ≤ 9223372036854775807) : Con Tryd.prog 12 [.int .i64 z] [] [RRoots] (fun v_ X_ S_ => v_ = (.bool true) ∧ X_ = [] ∧ S_ = []) := by
  obtain ⟨K, hK, hK3⟩ : ∃ K : Nat, around z 12 = (K : Int) ∧ K < 12 := by
    have := around_lt z 12 (by decide)
    exact ⟨(around z 12).toNat, by omega, by omega⟩
  obtain ⟨k, hk⟩ : ∃ k, k = 4090 + K := ⟨_, rfl⟩
  have hks : (4090 : Int) + (K : Int) = (k : Int) := by omega
  have hrep : (List.replicate k (0 : UInt8)).length = k := List.length_replicate
  refine henter (N := 84) Tryd.func12 rfl rfl (by simp) fun b => ?_
  refine hseq <| hreg <| hy (fun _ => y_assign rfl) <| hend <| hthen <| hseq <| hreg <| ?_
  refine hx (xh_call rfl Tryd.call43 (newSrvC) [] rfl [] rfl ?_)
  rintro _ _ _ ⟨g, gm, rfl, rfl, rfl⟩
  refine hy (fun _ => y_assign rfl) <| hend <| hsub (ρ' := [(3, _), (2, _), (0, _)]) ⟨rfl, rfl, rfl, trivial⟩ <| hmemQ (X' := [_]) (S' := [_]) (fun _ m => m) <| hthen <| hseq <| hseq <| hreg <| hy (fun _ => y_move rfl) <| hy (fun _ => y_eqPn rfl rfl (by kernel_rfl)) <| hend <| hsub (ρ' := [(15, _), (3, _), (2, _), (0, _)]) ⟨rfl, rfl, rfl, rfl, trivial⟩ <| hthen <| ?_
  refine hiff rfl (rfl) ?_
  refine hcskip <| hthen <| hseq <| hreg <| hy (fun _ => y_move rfl) <| ?_
  refine hx (xh_call rfl Tryd.call14 (aroundC (by omega) (by omega) (by omega)) [] rfl [] rfl ?_)
  rintro _ _ _ ⟨rfl, rfl, rfl⟩
  rw [hK]
  refine hy (fun _ => yV (y_add rfl rfl (w64 (by omega) (by omega))) ((show Value.int .i64 ((4090 : Int) + (K : Int)) = .int .i64 (k : Int) by rw [hks]))) <| hy (fun _ => y_assign rfl) <| hend <| hsub (ρ' := [(4, _), (15, _), (3, _), (2, _), (0, _)]) ⟨rfl, rfl, rfl, rfl, rfl, trivial⟩ <| hmemQ (X' := [_]) (S' := [_]) (fun _ m => m) <| hthen <| hseq <| hreg <| hy (fun _ => y_move rfl) <| hy (fun _ => y_move rfl) <| ?_
  refine hx (xh_mksl (n := k) Tryd.underlying32 ti5 rfl rfl rfl (by omega) (by omega) (fun g22 => ?_))
  have hA_b22 : ∀ {n : Nat}, 0 < n → (some (⟨g22, 0, none⟩ : Addr)) ≠ none := fun _ h => by cases h
  refine hmemL (fun w m => m.eqX 0 rfl (show _ = RBlk g22 5 (b8s (List.replicate k 0)) from congrArg (RBlk _ _) (rep_b8s k))) ?_
  by_cases h4 : 4096 < k
  · refine hx (xh_call rfl Tryd.call47 (saddNoC (by omega)) [1] rfl [] rfl ?_)
    rintro _ _ _ ⟨rfl, rfl, rfl⟩
    refine hy (fun _ => y_move rfl) <| hy (fun _ => y_extract rfl rfl) <| hy (fun _ => y_extract rfl rfl) <| ?_
    refine hx (xh_alloc ti23 (fun g5 => ?_))
    refine hx0 (xh_stA 0 rfl rfl rfl sz23 z32b b8s_one rfl ?_)
    refine hy (fun _ => y_assign rfl) <| hend <| hsub (ρ' := [(6, _), (5, _), (4, _), (15, _), (3, _), (2, _), (0, _)]) ⟨rfl, rfl, rfl, rfl, rfl, rfl, rfl, trivial⟩ <| hmemQ (X' := [_, _, _]) (S' := [_]) (fun _ m => m) <| hthen <| hseq <| hseq <| hreg <| hy (fun _ => y_move rfl) <| hy (fun _ => y_gtr rfl rfl) <| hend <| hsub (ρ' := [(27, _), (6, _), (5, _), (4, _), (15, _), (3, _), (2, _), (0, _)]) ⟨rfl, rfl, rfl, rfl, rfl, rfl, rfl, rfl, trivial⟩ <| hthen <| ?_
    refine hift rfl ((decide_eq_true (by omega))) ?_
    refine hseq <| hreg <| hy (fun _ => y_move rfl) <| hy (fun _ => yT (y_eql rfl rfl) ((decide_eq_true rfl))) <| hy (fun _ => y_move rfl) <| hyg (o := _) rfl rfl rfl (fun m => y_ldN rfl ag23 sz23 z32b ((m.blk 0 rfl).cells0)) <| hyg (o := _) rfl rfl rfl (fun _ => yV (y_build0 ti23 rfl (by kernel_rfl)) ((rfl : _ = Value.agg (b8s (List.replicate 32 0)).toArray))) <| hyg (o := _) rfl rfl rfl (fun _ => yT (y_eqD23 rfl rfl List.length_replicate List.length_replicate) ((decide_eq_true rfl))) <| hy (fun _ => y_pickT rfl rfl) <| hy (fun _ => y_move rfl) <| hyg (o := _) rfl rfl rfl (fun _ => y_move rfl) <| ?_
    refine hxg (o := _) rfl rfl rfl (xh_call rfl Tryd.call56 (slenC) [1] rfl [] rfl ?_)
    rintro _ _ _ ⟨rfl, rfl, rfl⟩
    refine hyg (o := _) rfl rfl rfl (fun _ => yT (y_eql rfl rfl) ((decide_eq_true rfl))) <| hy (fun _ => y_pickT rfl rfl) <| hy (fun _ => y_move rfl) <| ?_
    refine hxg (o := _) rfl rfl rfl (xh_call rfl Tryd.call57 (lives20C) [] rfl [] rfl ?_)
    rintro _ _ _ ⟨rfl, rfl, rfl⟩
    refine hy (fun _ => y_pickT rfl rfl) <| hy (fun _ => y_assign rfl) <| hend <| hsub (ρ' := [(2, _), (27, _), (6, _), (5, _), (4, _), (15, _), (3, _), (0, _)]) ⟨rfl, rfl, rfl, rfl, rfl, rfl, rfl, rfl, trivial⟩ <| hmemQ (X' := [_, _, _]) (S' := [_]) (fun _ m => m) <| hthen <| hret <| hthen_ret <| ?_
    exact hret1 trivial rfl rfl [] rfl [] rfl ⟨rfl, rfl, rfl⟩
  · have hk5 : k ≤ 4096 := by omega
    obtain ⟨h10, hsl⟩ := sealL_le (List.replicate k 0)
    rw [hrep] at hsl
    generalize hbb : List.replicate k (0 : UInt8) = bb at hrep h10 hsl ⊢
    have hm := shaL_length bb
    have h32 : (b8s (shaL bb)).length = 32 := by rw [b8s_length, hm]
    have e0 : ([] : List UInt8).length = 0 := rfl
    refine hx (xh_calll rfl Tryd.call47 (saddC (Nat.le_refl k) hk5 hrep) [1] rfl (.x 0 rfl (.blk (by rw [b8s_length]; omega)) (.s 0 rfl .nil)) ?_)
    rintro _ _ _ ⟨row, rfl, rfl, rfl, hrow⟩
    refine ⟨rfl, ?_⟩
    obtain ⟨hrl, hrn⟩ := hrow
    have hget := fun nm => get1 (shaL bb) nm hm row
    have hsm : ∀ (nm : List UInt8) r, getF (aput [] (⟨shaL bb, hm⟩ : Dg) row) nm = some r → r.n ≤ 4106 := fun nm r h => by
      rw [hget] at h
      split at h
      · cases h; omega
      · cases h
    have hfr : FrOk (aput [] (⟨shaL bb, hm⟩ : Dg) row) := fun x hx => by
      have : x = (⟨shaL bb, hm⟩, row) := by simpa [aput] using hx
      subst this
      exact ⟨by show row.n ≤ _; omega, by show row.l.length = row.n; rw [hrl, hrn]⟩
    generalize hfrs : aput [] (⟨shaL bb, hm⟩ : Dg) row = fr at hget hsm hfr ⊢
    refine hy (fun _ => y_move rfl) <| hy (fun _ => y_extract rfl rfl) <| hy (fun _ => y_extract rfl rfl) <| ?_
    refine hx (xh_alloc ti23 (fun g5 => ?_))
    refine hx0 (xh_stA 0 rfl rfl rfl sz23 h32 b8s_one rfl ?_)
    refine hy (fun _ => y_assign rfl) <| hend <| hsub (ρ' := [(6, _), (5, _), (4, _), (15, _), (3, _), (2, _), (0, _)]) ⟨rfl, rfl, rfl, rfl, rfl, rfl, rfl, trivial⟩ <| hmemQ (X' := [_, _, _]) (S' := [_]) (fun _ m => m) <| hthen <| hseq <| hseq <| hreg <| hy (fun _ => y_move rfl) <| hy (fun _ => y_gtr rfl rfl) <| hend <| hsub (ρ' := [(27, _), (6, _), (5, _), (4, _), (15, _), (3, _), (2, _), (0, _)]) ⟨rfl, rfl, rfl, rfl, rfl, rfl, rfl, rfl, trivial⟩ <| hthen <| ?_
    refine hiff rfl ((decide_eq_false (by omega))) ?_
    refine hcskip <| hthen <| hseq <| hreg <| hy (fun _ => y_move rfl) <| hy (fun m => y_ldN rfl ag23 sz23 h32 ((m.blk 0 rfl).cells0)) <| hy (fun _ => yV (y_build ti94 rfl rfl (by kernel_rfl) (bldM (k0 := 0) (s := 0) (zi := zm) (z := .string ⟨#[]⟩) pl94_0 pl94_2 z32z hm)) ((rfl : _ = Value.agg (mc ((1 : Nat) : Int) ((0 : Nat) : Int) (shaL bb) (.string (strOf []))).toArray))) <| ?_
    refine hx (xh_call rfl Tryd.call53 (rwbytesC (by omega) (by omega) hm (by omega) (body := [])) [] rfl [] rfl ?_)
    rintro _ _ _ ⟨v, rfl, rfl, rfl⟩
    refine hfactL (fun m => (m.own 0 rfl).slice) ?_
    rintro ⟨A_x, c_x, rfl, hc_x⟩
    refine hfactL (fun m => (m.ord 0 rfl).2.1) fun hA_x => ?_
    have hpl : (putL (wbody 1 0 (shaL bb) [])).length = 41 := by rw [putL_length, wbody_len hm]; rfl
    refine hx (xh_calll rfl Tryd.call52 (sanswerC (by omega) (by omega) hfr) [2] rfl (.x 0 rfl .own .nil) ?_)
    rintro _ _ _ ⟨v2, bn, body, is, rfl, rfl, rfl, hp1⟩
    refine ⟨rfl, ?_⟩
    refine hfactL (fun m => (m.own 1 rfl).slice) ?_
    rintro ⟨A_x2, c_x2, rfl, hc_x2⟩
    refine hfactL (fun m => (m.ord 1 rfl).2.1) fun hA_x2 => ?_
    obtain ⟨hbl1, hS1⟩ := hp1
    obtain ⟨rfl, hb1⟩ := says_of (K := 0) (by decide) hm (hsm _) hS1
    rw [hget, if_pos rfl] at hb1
    have hb1 : body = putL (wbody 2 0 (shaL bb) (sealL bb)) := by rw [← hrl]; exact hb1
    subst hb1
    have hwl : (wbody 2 0 (shaL bb) (sealL bb)).length = 37 + (sealL bb).length := wbody_len hm
    rw [putL_length, hwl] at hbl1
    refine hy (fun _ => y_move rfl) <| hy (fun _ => y_extract rfl rfl) <| hy (fun _ => y_extract rfl rfl) <| hy (fun _ => y_assign rfl) <| hy (fun _ => y_assign rfl) <| hend <| hsub (ρ' := [(8, _), (7, _), (27, _), (6, _), (5, _), (4, _), (15, _), (3, _), (2, _), (0, _)]) ⟨rfl, rfl, rfl, rfl, rfl, rfl, rfl, rfl, rfl, rfl, trivial⟩ <| hmemQ (X' := [_, _, _, _, _]) (S' := [_]) (fun _ m => m) <| hthen <| hseq <| hreg <| hy (fun _ => y_move rfl) <| ?_
    refine hx (xh_calll rfl Tryd.call58 (wreadC (by omega) (by omega)) [] rfl (.x 1 rfl .own .nil) ?_)
    rintro _ _ _ ⟨k, s, nm, body2, v3, err, bn2, rfl, rfl, rfl, hp2⟩
    refine ⟨rfl, ?_⟩
    refine hfactL (fun m => (m.own 0 rfl).slice) ?_
    rintro ⟨A_x3, c_x3, rfl, hc_x3⟩
    refine hfactL (fun m => (m.ord 0 rfl).2.1) fun hA_x3 => ?_
    obtain ⟨hnm2, hbl2, hR2⟩ := hp2
    obtain ⟨rfl, rfl, rfl, rfl, rfl⟩ := reads_of (k := 2) (K := 0) (by decide) (by decide) hm ⟨by omega, .inr ⟨rfl, by omega⟩⟩ hR2
    subst hbl2
    refine hy (fun _ => y_move rfl) <| hy (fun _ => y_extract rfl rfl) <| hy (fun _ => y_extract rfl rfl) <| ?_
    refine hx (xh_alloc ti111 (fun g9 => ?_))
    refine hx0 (xh_stA 0 rfl rfl rfl sz111 (mc_len hm) (mc_one rfl) rfl ?_)
    refine hy (fun _ => y_assign rfl) <| hend <| hsub (ρ' := [(10, _), (9, _), (8, _), (7, _), (27, _), (6, _), (5, _), (4, _), (15, _), (3, _), (2, _), (0, _)]) ⟨rfl, rfl, rfl, rfl, rfl, rfl, rfl, rfl, rfl, rfl, rfl, rfl, trivial⟩ <| hmemQ (X' := [_, _, _, _, _, _, _]) (S' := [_]) (fun _ m => m) <| hthen <| hseq <| hreg <| hy (fun _ => y_fld rfl fa111_3 (by decide)) <| hy (fun m => y_ld1 rfl ag32 (mc_v (m.blk 0 rfl) hm)) <| ?_
    refine hx (xh_calll rfl Tryd.call59 (openC hc_x3 (show _ ≤ 1000000 by omega) (show (4096 : Int) ≤ 1000000 by decide)) [] rfl (.x 1 rfl .own .nil) ?_)
    rintro _ _ _ ⟨v4, rfl, rfl, rfl⟩
    refine ⟨rfl, ?_⟩
    refine hfactL (fun m => (m.own 0 rfl).slice) ?_
    rintro ⟨A_x4, c_x4, rfl, hc_x4⟩
    refine hfactL (fun m => (m.ord 0 rfl).2.1) fun hA_x4 => ?_
    have hop : openL (sealL bb) 4096 = (bb, 0) := open_seal (by omega) (by omega)
    rw [hop]
    dsimp only
    refine hy (fun _ => y_move rfl) <| hy (fun _ => y_extract rfl rfl) <| hy (fun _ => y_extract rfl rfl) <| hy (fun _ => y_assign rfl) <| hy (fun _ => y_assign rfl) <| hend <| hsub (ρ' := [(12, _), (11, _), (10, _), (9, _), (8, _), (7, _), (27, _), (6, _), (5, _), (4, _), (15, _), (3, _), (2, _), (0, _)]) ⟨rfl, rfl, rfl, rfl, rfl, rfl, rfl, rfl, rfl, rfl, rfl, rfl, rfl, rfl, trivial⟩ <| hmemQ (X' := [_, _, _, _, _, _, _, _]) (S' := [_]) (fun _ m => m) <| hthen <| hseq <| hreg <| hy (fun _ => y_move rfl) <| hy (fun _ => yT (y_eql rfl rfl) ((decide_eq_true rfl))) <| hy (fun _ => y_move rfl) <| hyg (o := _) rfl rfl rfl (fun _ => y_move rfl) <| hy (fun _ => y_pickT rfl rfl) <| hy (fun _ => y_move rfl) <| hyg (o := _) rfl rfl rfl (fun _ => y_move rfl) <| hyg (o := _) rfl rfl rfl (fun _ => yT (y_eql rfl rfl) ((decide_eq_true rfl))) <| hy (fun _ => y_pickT rfl rfl) <| hy (fun _ => y_move rfl) <| hyg (o := _) rfl rfl rfl (fun _ => y_move rfl) <| hyg (o := _) rfl rfl rfl (fun _ => yT (y_eql rfl rfl) ((decide_eq_true rfl))) <| hy (fun _ => y_pickT rfl rfl) <| hy (fun _ => y_move rfl) <| hyg (o := _) rfl rfl rfl (fun _ => y_move rfl) <| hyg (o := _) rfl rfl rfl (fun _ => y_lenS rfl Tryd.underlying32) <| hyg (o := _) rfl rfl rfl (fun _ => y_move rfl) <| hyg (o := _) rfl rfl rfl (fun _ => yT (y_eql rfl rfl) ((decide_eq_true (by rw [hrep])))) <| hy (fun _ => y_pickT rfl rfl) <| hy (fun _ => y_move rfl) <| ?_
    refine hxg (o := _) rfl rfl rfl (xh_call rfl Tryd.call57 (lives20C) [] rfl [] rfl ?_)
    rintro _ _ _ ⟨rfl, rfl, rfl⟩
    refine hy (fun _ => y_pickT rfl rfl) <| hy (fun _ => y_assign rfl) <| hend <| hsub (ρ' := [(2, _), (12, _), (11, _), (10, _), (9, _), (8, _), (7, _), (27, _), (6, _), (5, _), (4, _), (15, _), (3, _), (0, _)]) ⟨rfl, rfl, rfl, rfl, rfl, rfl, rfl, rfl, rfl, rfl, rfl, rfl, rfl, rfl, trivial⟩ <| hmemQ (X' := [_, _, _, _, _, _, _, _]) (S' := [_]) (fun _ m => m) <| hthen <| hret <| ?_
    exact hret1 trivial rfl rfl [] rfl [] rfl ⟨rfl, rfl, rfl⟩
theorem serverSizes (z : Int) (W : World) (hz : -9223372036854775808 ≤ z ∧ z ≤ 9223372036854775807) (hro : RRoots.holds W) :
    Calls Tryd.prog 12 #[.int .i64 z] W fun e w' => e = .returned (.bool true) ∧ Fr No W w' :=
  con_calls (serverSizesC hz) (by
    intro s hs
    simp only [List.mem_cons, List.not_mem_nil, or_false] at hs
    rcases hs with rfl
    exact hro)
end Go.Proofs.YtfikjheicjamhaaDoor
end
