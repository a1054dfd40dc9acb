/- What the claim leans on, part 3. -/
import Derived.Test.YtfikjheicjamhaaDoorSP2
import Derived.OrdersIn
import Derived.RangeFuncNested
import Derived.RangeFuncLeaves
import Derived.RangeFuncCalls
import Derived.RangeFuncBox
import Derived.Shelf.Abstract
import Derived.WalkKit
import Derived.OwnWalkIn
import Derived.TacticsInMore
import Derived.LoopNIn
import Derived.LoopIn
import Derived.ScopeJumps
section
/- Contracts: bytes in fewer (layer 5): how long a match is. -/
set_option linter.unusedVariables false
set_option linter.unusedSimpArgs false
set_option maxRecDepth 20000
set_option maxHeartbeats 2000000
namespace Go.Proofs.YtfikjheicjamhaaDoor
open Go.Eng Go.Hx
theorem longC {A : Option Addr} {n c i k : Nat} {l : List UInt8} (hn : n ≤ 1000000000) (hl : l.length = n) (hi : i ≤ n) (hk : k ≤ i) : Con Tryd.prog 176 [.slice A n c, .int .i64 (i : Nat), .int .i64 (k : Nat)] [] [RRd 1 A n (b8s l)] (fun v_ X_ S_ => v_ = (.int .i64 (lng l i k : Nat)) ∧ X_ = [] ∧ S_ = []) := by
  refine henter (N := 36) Tryd.func176 rfl rfl (by simp) fun b => ?_
  refine hfactC (fun m => rdB (m.rd 0 rfl)) ?_
  rintro ⟨hl_r, hA_r⟩
  refine hseq <| hreg <| hy (fun _ => y_assign rfl) <| hend <| hthen <| hseq <| hreg <| hy (fun _ => y_assign rfl) <| hend <| hthen <| hseq <| hblock <| ?_
  refine hloop1 (fun m => 131 - m) (fun m => [(7, .int .i64 (m : Nat))]) (fun m => []) (fun m => []) (fun m => m ≤ 131 ∧ i + m ≤ n ∧ lngF l i k (131 - m) m = lng l i k) 0 [(6, _), (0, _), (1, _), (2, _)] ⟨rfl, rfl, rfl, rfl, trivial⟩ [] rfl [] rfl (⟨by decide, hi, rfl⟩) ⟨rfl, trivial⟩ (fun m ⟨hm, him, hL⟩ => ?_)
  refine hseq <| hseq <| hdrw [] [(0, some 0), (1, some 0), (2, some 0), (3, some 0), (4, some 0), (5, some 0), (6, some 0), (7, some 0), (8, some 0), (9, some 0), (10, some 0), (11, some 0), (12, some 0), (13, some 0), (14, some 0), (15, some 0), (16, some 0), (17, some 0), (18, some 0), (19, some 0), (20, some 0), (21, some 0), (22, some 0), (23, some 0), (24, some 0)] (by kernel_rfl) (by kernel_rfl) rfl 99 <| htyU (y_move rfl) <| htyU (y_lss rfl rfl) <| htyU (y_move rfl) <| ?_
  refine htsplit 10 rfl (fun h1 => ?_) (fun h1 => ?_)
  · refine htyUg (o := _) rfl rfl rfl (y_move rfl) <| htyUg (o := _) rfl rfl rfl (y_move rfl) <| htyUg (o := _) rfl rfl rfl (y_add rfl rfl (w64 (by omega) (by omega))) <| htyUg (o := _) rfl rfl rfl (y_move rfl) <| htyUg (o := _) rfl rfl rfl (y_lenS rfl Tryd.underlying32) <| htyUg (o := _) rfl rfl rfl (y_lss rfl rfl) <| htyU (y_pickT rfl rfl) <| htyU (y_move rfl) <| ?_
    refine htsplit 18 rfl (fun h2 => ?_) (fun h2 => ?_)
    · refine htyUg (o := _) rfl rfl rfl (y_move rfl) <| htyUg (o := _) rfl rfl rfl (y_move rfl) <| htyUg (o := _) rfl rfl rfl (y_move rfl) <| htyUg (o := _) rfl rfl rfl (y_add rfl rfl (w64 (by omega) (by omega))) <| htyUg (o := _) rfl rfl rfl (y_idxS1 rfl rfl Tryd.underlying32 sz5 hA_r (show ((i + m : Nat) : Int) = _ by omega) (by omega)) <| htyg (o := _) rfl rfl rfl (fun m => y_ld1 rfl ag5 ((m.rd 0 rfl).cell (b8s_get (by omega)))) <| htyUg (o := _) rfl rfl rfl (y_move rfl) <| htyUg (o := _) rfl rfl rfl (y_move rfl) <| htyUg (o := _) rfl rfl rfl (y_move rfl) <| htyUg (o := _) rfl rfl rfl (y_add rfl rfl (w64 (by omega) (by omega))) <| htyUg (o := _) rfl rfl rfl (y_idxS1 rfl rfl Tryd.underlying32 sz5 hA_r (show ((k + m : Nat) : Int) = _ by omega) (by omega)) <| htyg (o := _) rfl rfl rfl (fun m => y_ld1 rfl ag5 ((m.rd 0 rfl).cell (b8s_get (by omega)))) <| htyUg (o := _) rfl rfl rfl (y_eql rfl rfl) <| htyU (y_pickT rfl rfl) <| htend <| hsub (ρ' := [(32, _), (7, _), (6, _), (0, _), (1, _), (2, _)]) ⟨rfl, rfl, rfl, rfl, rfl, rfl, trivial⟩ <| hthen <| ?_
      refine hif rfl (fun h3 => ?_) (fun h3 => ?_)
      · have e3 : l.getD (i + m) 0 = l.getD (k + m) 0 := UInt8.toNat_inj.1 (by omega)
        rw [lngF_more (by omega) ⟨by omega, e3⟩] at hL
        refine hcskip <| hthen <| hblock <| hreg <| hy (fun _ => y_move rfl) <| hy (fun _ => y_add rfl rfl (w64 (by omega) (by omega))) <| hy (fun _ => y_assign rfl) <| hend <| hsub (ρ' := [(7, _), (32, _), (6, _), (0, _), (1, _), (2, _)]) ⟨rfl, rfl, rfl, rfl, rfl, rfl, trivial⟩ <| hqblock <| ?_
        refine hnext1 (m + 1) ⟨rfl, rfl, rfl, rfl, rfl, trivial⟩ [] rfl [0] rfl (⟨by omega, by omega, by rw [← hL]; rfl⟩) (by omega)
      · rw [lngF_stop (fun q => h3 (by rw [q.2]))] at hL
        rw [← hL]
        refine hexit <| hthen_exit <| hthen_exit <| hqblock_exit <| hthen <| hseq <| hreg <| hy (fun _ => y_move rfl) <| hy (fun _ => y_assign rfl) <| hend <| hsub (ρ' := [(6, _), (32, _), (7, _), (0, _), (1, _), (2, _)]) ⟨rfl, rfl, rfl, rfl, rfl, rfl, trivial⟩ <| hthen <| hret <| ?_
        exact hret1 trivial rfl rfl [] rfl [] rfl ⟨rfl, rfl, rfl⟩
    · rw [lngF_stop (fun q => h2 (by omega))] at hL
      rw [← hL]
      refine htskip rfl rfl rfl (by decide) <| htskip rfl rfl rfl (by decide) <| htskip rfl rfl rfl (by decide) <| htskip rfl rfl rfl (by decide) <| htskip rfl rfl rfl (by decide) <| htskip rfl rfl rfl (by decide) <| htskip rfl rfl rfl (by decide) <| htskip rfl rfl rfl (by decide) <| htskip rfl rfl rfl (by decide) <| htskip rfl rfl rfl (by decide) <| htskip rfl rfl rfl (by decide) <| htskip rfl rfl rfl (by decide) <| htskip rfl rfl rfl (by decide) <| htyU (y_pickF rfl rfl) <| htend <| hsub (ρ' := [(32, _), (7, _), (6, _), (0, _), (1, _), (2, _)]) ⟨rfl, rfl, rfl, rfl, rfl, rfl, trivial⟩ <| hthen <| ?_
      refine hiff rfl (rfl) ?_
      refine hexit <| hthen_exit <| hthen_exit <| hqblock_exit <| hthen <| hseq <| hreg <| hy (fun _ => y_move rfl) <| hy (fun _ => y_assign rfl) <| hend <| hsub (ρ' := [(6, _), (32, _), (7, _), (0, _), (1, _), (2, _)]) ⟨rfl, rfl, rfl, rfl, rfl, rfl, trivial⟩ <| hthen <| hret <| ?_
      exact hret1 trivial rfl rfl [] rfl [] rfl ⟨rfl, rfl, rfl⟩
  · obtain rfl : m = 131 := by omega
    have hL : 131 = lng l i k := hL
    rw [← hL]
    refine htskip rfl rfl rfl (by decide) <| htskip rfl rfl rfl (by decide) <| htskip rfl rfl rfl (by decide) <| htskip rfl rfl rfl (by decide) <| htskip rfl rfl rfl (by decide) <| htskip rfl rfl rfl (by decide) <| htyU (y_pickF rfl rfl) <| htyU (y_move rfl) <| ?_
    refine htskip rfl rfl rfl (by decide) <| htskip rfl rfl rfl (by decide) <| htskip rfl rfl rfl (by decide) <| htskip rfl rfl rfl (by decide) <| htskip rfl rfl rfl (by decide) <| htskip rfl rfl rfl (by decide) <| htskip rfl rfl rfl (by decide) <| htskip rfl rfl rfl (by decide) <| htskip rfl rfl rfl (by decide) <| htskip rfl rfl rfl (by decide) <| htskip rfl rfl rfl (by decide) <| htskip rfl rfl rfl (by decide) <| htskip rfl rfl rfl (by decide) <| htyU (y_pickF rfl rfl) <| htend <| hsub (ρ' := [(32, _), (7, _), (6, _), (0, _), (1, _), (2, _)]) ⟨rfl, rfl, rfl, rfl, rfl, rfl, trivial⟩ <| hthen <| ?_
    refine hiff rfl (rfl) ?_
    refine hexit <| hthen_exit <| hthen_exit <| hqblock_exit <| hthen <| hseq <| hreg <| hy (fun _ => y_move rfl) <| hy (fun _ => y_assign rfl) <| hend <| hsub (ρ' := [(6, _), (32, _), (7, _), (0, _), (1, _), (2, _)]) ⟨rfl, rfl, rfl, rfl, rfl, rfl, trivial⟩ <| hthen <| hret <| ?_
    exact hret1 trivial rfl rfl [] rfl [] rfl ⟨rfl, rfl, rfl⟩
/-! ### the finder: where four bytes stand -/
structure IRow where
  A : Option Addr
  c : Nat
  l : List Nat
def IRow.val (r : IRow) : Value := .slice r.A r.l.length r.c
def nts (l : List Nat) : List Value := l.map fun n => Value.int .i64 (n : Nat)
theorem nts_one {l : List Nat} : ∀ u ∈ nts l, u.oneCell' = true := by
  intro u hu
  obtain ⟨n, _, rfl⟩ := List.mem_map.1 hu
  rfl
def IRow.res (r : IRow) : Res := ROwn 3 1 (.slice r.A r.l.length r.c) r.l.length (nts r.l)
abbrev Fes := List (Bn 4 × IRow)
def fvals (es : Fes) : List (Bn 4 × Value) := es.map fun x => (x.1, x.2.val)
def fress (es : Fes) : List Res := es.map fun x => x.2.res
abbrev RFnd (g gm : Nat) (A : Option Addr) (n c m : Nat) (es : Fes) : Res := RPack [RBlk g 259 [.slice A n c, .map (some gm), .int .i64 (m : Nat)], RMap (KN (n := 4)) gm (fvals es), RPack (fress es)]
def FOk (l : List UInt8) (m : Nat) (es : Fes) : Prop := ∀ k : Bn 4, ((aget es k).map IRow.l).getD [] = posL l m k.1
theorem fvals_get (k : Bn 4) : ∀ es : Fes, aget (fvals es) k = (aget es k).map IRow.val
  | [] => rfl
  | (q, r) :: t => by
    have ih := fvals_get k t
    unfold fvals at ih ⊢
    simp only [List.map_cons, aget]
    split
    · rfl
    · exact ih
theorem fvals_put (k : Bn 4) (r : IRow) : ∀ es : Fes, aput (fvals es) k r.val = fvals (aput es k r)
  | [] => rfl
  | (q, x) :: t => by
    have ih := fvals_put k r t
    unfold fvals at ih ⊢
    simp only [List.map_cons, aput]
    split
    · rfl
    · rw [ih]; rfl
theorem put_absent {k : Bn 4} (r : IRow) : ∀ {es : Fes}, aget es k = none → fress (aput es k r) = fress es ++ [r.res]
  | [], _ => rfl
  | (q, x) :: t, h => by
    simp only [aget] at h
    split at h
    · cases h
    · rename_i hq
      have ih := put_absent r h
      unfold fress at ih ⊢
      simp only [aput, if_neg hq, List.map_cons, ih, List.cons_append]
theorem put_present {k : Bn 4} : ∀ {es : Fes} {x : IRow}, aget es k = some x → ∃ i, (fress es)[i]? = some x.res ∧ ∀ r : IRow, fress (aput es k r) = (fress es).set i r.res
  | [], _, h => by cases h
  | (q, y) :: t, x, h => by
    simp only [aget] at h
    split at h
    · rename_i hq
      cases h
      exact ⟨0, rfl, fun r => by simp [fress, aput, hq]⟩
    · rename_i hq
      obtain ⟨i, h1, h2⟩ := put_present h
      refine ⟨i + 1, by simpa [fress] using h1, fun r => ?_⟩
      have h2 := h2 r
      unfold fress at h2 ⊢
      simp only [aput, if_neg hq, List.map_cons, h2, List.set_cons_succ]
theorem set_perm {α : Type} : ∀ (l : List α) (i : Nat) (x : α), i < l.length → (l.set i x).Perm (x :: l.eraseIdx i)
  | [], i, x, h => by simp at h
  | a :: t, 0, x, h => by simp
  | a :: t, i + 1, x, h => by
    have := set_perm t i x (by simpa using h)
    simp only [List.set_cons_succ, List.eraseIdx_cons_succ]
    exact (this.cons a).trans (List.Perm.swap ..)
theorem fok_put {l : List UInt8} {m : Nat} {es : Fes} {A : Option Addr} {c : Nat} (h : FOk l m es) (hm : m + 4 ≤ l.length) : FOk l (m + 1) (aput es ⟨key4 l m, key4_length hm⟩ ⟨A, c, posL l m (key4 l m) ++ [m]⟩) := by
  intro k
  rw [aget_aput, posL_succ]
  by_cases hk : key4 l m = k.1
  · rw [if_pos (Subtype.ext hk), if_pos hk, ← hk]; rfl
  · rw [if_neg (fun e => hk (congrArg Subtype.val e)), if_neg hk, List.append_nil]
    exact h k
theorem fok_nil (l : List UInt8) : FOk l 0 [] := fun k => rfl
theorem kept_pos {es : Fes} {l : List UInt8} {m : Nat} {k : Bn 4} {r : IRow} (h : FOk l m es) (hr : aget es k = some r) : r.l = posL l m k.1 := by
  have := h k
  rw [hr] at this
  exact this
theorem kept_none {es : Fes} {l : List UInt8} {m : Nat} {k : Bn 4} (h : FOk l m es) (hr : aget es k = none) : posL l m k.1 = [] := by
  have := h k
  rw [hr] at this
  exact this.symm
theorem uptoC {g gm : Nat} {A : Option Addr} {n c p i : Nat} {l : List UInt8} {es : Fes} (hc : n ≤ c) (hn : n ≤ 1000000000) (hl : l.length = n) (hpi : p ≤ i) (hi : i + 4 ≤ n) (hF : FOk l p es) : Con Tryd.prog 174 [.pointer (some ⟨g, 0, none⟩), .int .i64 (i : Nat)] [RFnd g gm A n c p es] [RRd 1 A n (b8s l)] (fun v_ X_ S_ => ∃ es1, v_ = (.tuple #[]) ∧ X_ = [RFnd g gm A n c i es1] ∧ S_ = [] ∧ (FOk l i es1)) := by
  refine henter (N := 61) Tryd.func174 rfl rfl (by simp) fun b => ?_
  refine hfactC (fun m => rdB (m.rd 0 rfl)) ?_
  rintro ⟨hl_r, hA_r⟩
  refine hmemC (fun w m => (m.perm (takeR_perm [0] _ [_] _ rfl)).unpack) ?_
  refine hblock <| ?_
  refine hloop2 (fun p es => i - p) (fun p es => []) (fun p es => [RBlk g 259 [.slice A n c, .map (some gm), .int .i64 (p : Nat)], RMap (KN (n := 4)) gm (fvals es), RPack (fress es)]) (fun p es => []) (fun p es => p ≤ i ∧ FOk l p es) p es [(0, _), (1, _)] ⟨rfl, rfl, trivial⟩ [0, 0, 0] rfl [] rfl (⟨hpi, hF⟩) trivial (fun p es ⟨hpi, hF⟩ => ?_)
  refine hseq <| hseq <| hdrw [] [(0, some 0), (1, some 0), (2, some 0), (3, some 0), (4, some 0), (5, some 0), (6, some 0), (7, some 0), (8, some 0), (9, some 0), (10, some 0), (11, some 0), (12, some 0), (13, some 0), (14, some 0), (15, some 0), (16, some 0), (17, some 0), (18, some 0)] (by kernel_rfl) (by kernel_rfl) rfl 99 <| htyU (y_move rfl) <| htyU (y_nilp rfl) <| htyU (y_fld rfl fa259_2 (by decide)) <| hty (fun m => y_ld1 rfl ag3 (ld_blk (m.blk 0 rfl) rfl)) <| htyU (y_move rfl) <| htyU (y_lss rfl rfl) <| htyU (y_move rfl) <| ?_
  refine htsplit 11 rfl (fun h1 => ?_) (fun h1 => ?_)
  · refine htyUg (o := _) rfl rfl rfl (y_move rfl) <| htyUg (o := _) rfl rfl rfl (y_nilp rfl) <| htyUg (o := _) rfl rfl rfl (y_fld rfl fa259_2 (by decide)) <| htyg (o := _) rfl rfl rfl (fun m => y_ld1 rfl ag3 (ld_blk (m.blk 0 rfl) rfl)) <| htyUg (o := _) rfl rfl rfl (y_add rfl rfl (w64 (by omega) (by omega))) <| htyUg (o := _) rfl rfl rfl (y_move rfl) <| htyUg (o := _) rfl rfl rfl (y_nilp rfl) <| htyUg (o := _) rfl rfl rfl (y_fld rfl fa259_0 (by decide)) <| htyg (o := _) rfl rfl rfl (fun m => y_ld1 rfl ag32 (ld_blk (m.blk 0 rfl) rfl)) <| htyUg (o := _) rfl rfl rfl (y_lenS rfl Tryd.underlying32) <| htyUg (o := _) rfl rfl rfl (y_leq rfl rfl) <| htyU (y_pickT rfl rfl) <| htend <| hsub (ρ' := [(23, _), (0, _), (1, _)]) ⟨rfl, rfl, rfl, trivial⟩ <| hthen <| ?_
    refine hift rfl ((decide_eq_true (by omega))) ?_
    refine hfactC (fun m => (m.rd 0 rfl).some (by omega)) fun h_ => ?_
    obtain ⟨a, rfl⟩ : ∃ a_, A = some a_ := ⟨_, h_⟩
    clear h_
    refine hcskip <| hthen <| hseq <| hblock <| hseq <| hdrw [16, 17] [(0, some 1), (1, some 1), (2, some 1), (3, some 1), (4, some 1), (5, some 1), (6, some 1), (7, some 1), (8, some 1), (9, some 1), (10, some 1), (11, some 1), (12, some 1), (13, some 1), (14, some 1), (15, some 1), (16, none), (17, none)] (by kernel_rfl) (by kernel_rfl) rfl 1 <| htyU (y_move rfl) <| htyU (y_nilp rfl) <| htyU (y_fld rfl fa259_0 (by decide)) <| hty (fun m => y_ld1 rfl ag32 (ld_blk (m.blk 0 rfl) rfl)) <| htyU (y_move rfl) <| htyU (y_nilp rfl) <| htyU (y_fld rfl fa259_2 (by decide)) <| hty (fun m => y_ld1 rfl ag3 (ld_blk (m.blk 0 rfl) rfl)) <| htyU (y_move rfl) <| htyU (y_nilp rfl) <| htyU (y_fld rfl fa259_2 (by decide)) <| hty (fun m => y_ld1 rfl ag3 (ld_blk (m.blk 0 rfl) rfl)) <| htyU (y_add rfl rfl (w64 (by omega) (by omega))) <| htyU (yV (y_slBoth rfl rfl rfl Tryd.underlying32 sz5 rfl (show ((p + 4 : Nat) : Int) = _ by omega) (by omega) (by omega)) ((show Value.slice (if c = p then some a else (some a).map (·.add (p * 1))) (p + 4 - p) (c - p) = .slice (some (a.add p)) 4 (c - p) by rw [if_neg (by omega), Nat.mul_one, Nat.add_sub_cancel_left]; rfl))) <| htyU (y_arrAt rfl Tryd.underlying265 (by omega)) <| hty (fun m => yV (y_ldN rfl ag265 sz265 (by rw [b8s_length]; exact key4_length (by omega)) (Rd.part (m.rd 0 rfl))) ((rfl : Value.agg _ = .agg (b8s (key4 l p)).toArray))) <| ?_
    refine htx (xh_alloc ti265 (fun g4 => ⟨(fun _ => wk [1, 1, 1] [0] rfl rfl), ?_⟩))
    refine htx0 (xh_stA 0 rfl rfl rfl sz265 (by rw [b8s_length]; exact key4_length (by omega)) b8s_one rfl ⟨(fun h => absurd h (by decide)), ?_⟩)
    refine htend <| hsub (ρ' := [(4, _), (23, _), (0, _), (1, _)]) ⟨rfl, rfl, rfl, rfl, trivial⟩ <| hmemQ (X' := [_, _, _, _]) (S' := [_]) (fun _ m => m) <| hthen <| ?_
    refine hdrw [9, 10, 12, 14] [(0, some 1), (1, some 1), (2, some 1), (3, some 1), (4, some 1), (5, some 0), (6, some 0), (7, some 0), (8, some 0), (9, none), (10, none), (11, some 2), (13, some 3), (12, none), (14, none)] (by kernel_rfl) (by kernel_rfl) rfl 1 <| htyU (y_move rfl) <| htyU (y_nilp rfl) <| htyU (y_fld rfl fa259_1 (by decide)) <| hty (fun m => y_ld1 rfl ag257 (ld_blk (m.blk 1 rfl) rfl)) <| hty (fun m => yV (y_ldN rfl ag265 sz265 (by rw [b8s_length]; exact key4_length (by omega)) ((m.blk 0 rfl).cells0)) ((rfl : Value.agg _ = KN ⟨key4 l p, key4_length (by omega)⟩))) <| htyU (y_move rfl) <| htyU (y_nilp rfl) <| htyU (y_fld rfl fa259_2 (by decide)) <| hty (fun m => y_ld1 rfl ag3 (ld_blk (m.blk 1 rfl) rfl)) <| ?_
    refine htx (xh_bsl Tryd.underlying263 ti3 rfl rfl rfl (by simp [Value.cells, B8]) (by decide) (by decide) (fun g57 => ⟨(fun _ => wk [1, 1, 1, 1] [0] rfl rfl), ?_⟩))
    have hA_b57 : 0 < 1 → (some (⟨g57, 0, none⟩ : Addr)) ≠ none := fun _ h => by cases h
    refine htmem (fun w m => m.eqX 0 rfl (show _ = ROwn 3 1 (.slice (some ⟨g57, 0, none⟩) 1 1) 1 (nts [p]) from rfl)) ?_
    refine htx (xh_entry (enc := (KN (n := 4))) (k := ⟨key4 l p, key4_length (by omega)⟩) 3 rfl rfl rfl Tryd.underlying257 ti263 (bnKey Tryd.underlying265 Tryd.underlying5 (by kernel_rfl) (by kernel_rfl) (by kernel_rfl)) (fun st58 => ⟨(fun h => absurd h (by decide)), ?_⟩))
    rw [fvals_get]
    rcases hq : aget es ⟨key4 l p, key4_length (by omega)⟩ with _ | x
    · have e0 := kept_none hF hq
      refine htmem (fun w m => m.addX (r' := ROwn 3 1 (.slice none 0 0) 0 []) (.refl _ _) (Own.nil _ _ _ _) (fun k hk => hk.elim)) ?_
      refine htyU (y_extract rfl rfl) <| htyU (y_extract rfl rfl) <| ?_
      refine htx (xh_app 0 rfl rfl rfl Tryd.underlying263 Tryd.underlying263 (by exact .inl rfl) ti3 rfl (fun m => Src.of_rd (m.ord 2 rfl)) (nts_one (l := [p])) (by unfold maxLen; omega) (by omega) (fun u => ⟨(fun h => absurd h (by decide)), ?_⟩))
      refine htfact (fun m => (m.own 0 rfl).slice) ?_
      rintro ⟨A_x, c_x, rfl, hc_x⟩
      refine htfact (fun m => (m.ord 0 rfl).2.1) fun hA_x => ?_
      refine htx0 (xh_estore (enc := (KN (n := 4))) 1 rfl rfl rfl rfl ⟨(fun h => absurd h (by decide)), ?_⟩)
      refine htend <| hsub (ρ' := [(4, _), (23, _), (0, _), (1, _)]) ⟨rfl, rfl, rfl, rfl, trivial⟩ <| hmemQ (X' := [_, _, _, _, _, _]) (S' := [_]) (fun _ m => m) <| hqblock <| hthen <| hreg <| hy (fun _ => y_move rfl) <| hy (fun _ => y_nilp rfl) <| hy (fun _ => y_fld rfl fa259_2 (by decide)) <| hy (fun m => y_ld1 rfl ag3 (ld_blk (m.blk 4 rfl) rfl)) <| hy (fun _ => y_add rfl rfl (w64 (by omega) (by omega))) <| hy (fun _ => y_nilp rfl) <| hy (fun _ => y_fld rfl fa259_2 (by decide)) <| ?_
      refine hx0 (xh_st1a 4 rfl rfl rfl sz3 rfl (by first | exact Nat.le_of_ble_eq_true rfl | simp) ?_)
      refine hend <| hsub (ρ' := [(4, _), (23, _), (0, _), (1, _)]) ⟨rfl, rfl, rfl, rfl, trivial⟩ <| hmemQ (X' := [_, _, _, _, _, _]) (S' := [_]) (fun _ m => m) <| ?_
      refine hmemQ (fun w m => m.eqX 0 rfl (show _ = RBlk g 259 [.slice (some a) n c, .map (some gm), .int .i64 ((p + 1 : Nat) : Int)] from rfl)) ?_
      refine hmemQ (fun w m => m.eqX 1 rfl (show _ = RMap (KN (n := 4)) gm (fvals (aput es ⟨key4 l p, key4_length (by omega)⟩ ⟨A_x, c_x, [p]⟩)) from congrArg (RMap _ _) (aput_aput.trans (fvals_put _ ⟨A_x, c_x, [p]⟩ es)))) ?_
      refine hmemQ (X' := RPack (fress (aput es ⟨key4 l p, key4_length (by omega)⟩ ⟨A_x, c_x, [p]⟩)) :: _) (fun w m => (Mem.packPut (m.perm (takeR_perm [2, 4] _ [_, _] _ rfl))).packPerm (by rw [put_absent _ hq]; exact (List.perm_append_singleton _ _).symm)) ?_
      refine hnext2 (p + 1) (aput es ⟨key4 l p, key4_length (by omega)⟩ ⟨A_x, c_x, [p]⟩) ⟨rfl, rfl, trivial⟩ [2, 1, 0] rfl [0] rfl (⟨by omega, by have := fok_put (A := A_x) (c := c_x) hF (by omega); rw [e0] at this; exact this⟩) (by omega)
    · obtain ⟨j, hj1, hj2⟩ := put_present hq
      have e0 := kept_pos hF hq
      have hxl : x.l.length ≤ n := by rw [e0]; exact Nat.le_trans (posL_length _ _ _) (by omega)
      refine htmem (X' := ROwn 3 1 (.slice x.A x.l.length x.c) x.l.length (nts x.l) :: _) (fun w m => (m.perm (takeR_perm [4] _ [_] _ rfl)).packTake j hj1) ?_
      refine htyU (y_extract rfl rfl) <| htyU (y_extract rfl rfl) <| ?_
      refine htx (xh_app 0 rfl rfl rfl Tryd.underlying263 Tryd.underlying263 (by exact .inl rfl) ti3 rfl (fun m => Src.of_rd (m.ord 3 rfl)) (nts_one (l := [p])) (by unfold maxLen; omega) (by omega) (fun u => ⟨(fun h => absurd h (by decide)), ?_⟩))
      refine htfact (fun m => (m.own 0 rfl).slice) ?_
      rintro ⟨A_y, c_y, rfl, hc_y⟩
      refine htfact (fun m => (m.ord 0 rfl).2.1) fun hA_y => ?_
      refine htx0 (xh_estore (enc := (KN (n := 4))) 2 rfl rfl rfl rfl ⟨(fun h => absurd h (by decide)), ?_⟩)
      refine htend <| hsub (ρ' := [(4, _), (23, _), (0, _), (1, _)]) ⟨rfl, rfl, rfl, rfl, trivial⟩ <| hmemQ (X' := [_, _, _, _, _, _]) (S' := [_]) (fun _ m => m) <| hqblock <| hthen <| hreg <| hy (fun _ => y_move rfl) <| hy (fun _ => y_nilp rfl) <| hy (fun _ => y_fld rfl fa259_2 (by decide)) <| hy (fun m => y_ld1 rfl ag3 (ld_blk (m.blk 5 rfl) rfl)) <| hy (fun _ => y_add rfl rfl (w64 (by omega) (by omega))) <| hy (fun _ => y_nilp rfl) <| hy (fun _ => y_fld rfl fa259_2 (by decide)) <| ?_
      refine hx0 (xh_st1a 5 rfl rfl rfl sz3 rfl (by first | exact Nat.le_of_ble_eq_true rfl | simp) ?_)
      refine hend <| hsub (ρ' := [(4, _), (23, _), (0, _), (1, _)]) ⟨rfl, rfl, rfl, rfl, trivial⟩ <| hmemQ (X' := [_, _, _, _, _, _]) (S' := [_]) (fun _ m => m) <| ?_
      refine hmemQ (fun w m => m.eqX 0 rfl (show _ = RBlk g 259 [.slice (some a) n c, .map (some gm), .int .i64 ((p + 1 : Nat) : Int)] from rfl)) ?_
      have h1e : aput (fvals es) ⟨key4 l p, key4_length (by omega)⟩ (.slice A_y (x.l.length + 1) c_y) = fvals (aput es ⟨key4 l p, key4_length (by omega)⟩ ⟨A_y, c_y, x.l ++ [p]⟩) := by rw [← fvals_put]; simp [IRow.val]
      refine hmemQ (fun w m => m.eqX 1 rfl (show _ = RMap (KN (n := 4)) gm (fvals (aput es ⟨key4 l p, key4_length (by omega)⟩ ⟨A_y, c_y, x.l ++ [p]⟩)) from congrArg (RMap _ _) (aput_aput.trans h1e))) ?_
      have h2e : ROwn 3 1 (.slice A_y (x.l.length + 1) c_y) (x.l.length + 1) (nts x.l ++ nts [p]) = (⟨A_y, c_y, x.l ++ [p]⟩ : IRow).res := by simp [IRow.res, nts]
      refine hmemQ (fun w m => m.eqX 2 rfl (show _ = (⟨A_y, c_y, x.l ++ [p]⟩ : IRow).res from h2e)) ?_
      have hjl := (List.getElem?_eq_some_iff.1 hj1).1
      refine hmemQ (X' := RPack (fress (aput es ⟨key4 l p, key4_length (by omega)⟩ ⟨A_y, c_y, x.l ++ [p]⟩)) :: _) (fun w m => (Mem.packPut (m.perm (takeR_perm [0, 2] _ [_, _] _ rfl))).packPerm (by rw [hj2]; exact (set_perm _ _ _ hjl).symm)) ?_
      refine hnext2 (p + 1) (aput es ⟨key4 l p, key4_length (by omega)⟩ ⟨A_y, c_y, x.l ++ [p]⟩) ⟨rfl, rfl, trivial⟩ [2, 1, 0] rfl [0] rfl (⟨by omega, by have := fok_put (A := A_y) (c := c_y) hF (by omega); rw [← e0] at this; exact this⟩) (by omega)
  · obtain rfl : p = i := by omega
    refine htskip rfl rfl rfl (by decide) <| htskip rfl rfl rfl (by decide) <| htskip rfl rfl rfl (by decide) <| htskip rfl rfl rfl (by decide) <| htskip rfl rfl rfl (by decide) <| htskip rfl rfl rfl (by decide) <| htskip rfl rfl rfl (by decide) <| htskip rfl rfl rfl (by decide) <| htskip rfl rfl rfl (by decide) <| htskip rfl rfl rfl (by decide) <| htskip rfl rfl rfl (by decide) <| htyU (y_pickF rfl rfl) <| htend <| hsub (ρ' := [(23, _), (0, _), (1, _)]) ⟨rfl, rfl, rfl, trivial⟩ <| hthen <| ?_
    refine hiff rfl (rfl) ?_
    refine hexit <| hthen_exit <| hthen_exit <| hqblock_exit <| ?_
    refine hmemQ (X' := RFnd g gm A n c p es :: _) (fun w m => (m.perm (takeR_perm [0, 0, 0] _ [_, _, _] _ rfl)).pack) ?_
    exact hret0 trivial rfl [0] rfl [] rfl ⟨es, rfl, rfl, rfl, hF⟩
end Go.Proofs.YtfikjheicjamhaaDoor
end
section
/- The engine within a round of a range over a function: the same rules of control, under the round's fence. No statement is proved here. -/
set_option linter.unusedVariables false
set_option linter.unusedSimpArgs false
set_option linter.unusedSectionVars false
namespace Go.Eng
open Go.RowKit
def isDef : Op → Bool
  | .defer _ => true
  | _ => false
abbrev rfence (l : Nat) : Fence := Fence.wide.inRound l
section
variable {P : Program} {Q : Exit → Act → World → Prop} {a : Act} {w : World} {l n : Nat}
theorem op_in {o : Oper} {next next' : Act → World → Prop} (h : o.wp P a w next Q) (hd : isDef o.op = false) (hn : ∀ a w, next a w → next' a w) : o.wpIn (rfence l) n P a w next' Q := by
  refine ⟨fun _ _ => trivial, ?_⟩
  have e : o.semAt (rfence l).round a.eval = execOp a.eval o := Oper.semAt_eq _ _ _ (fun c hc => by rw [hc] at hd; cases hd)
  rw [e]
  unfold Oper.wp at h
  generalize (execOp a.eval o).run P w = r at h
  match r, h with
  | .ok (.value v) w', h => exact hn _ _ h
  | .ok .skip w', h => exact hn _ _ h
  | .ok (.defer d) w', h => exact hn _ _ h
  | .ok (.enter f args) w', h =>
    refine ⟨fun h => by simp [Fence.wide] at h, CallsIn.inRound l (callsIn_wide.2 (Calls.mono h ?_))⟩
    intro e w'' q
    cases e with
    | returned v => exact hn _ _ q
    | panicked c => exact q
    | outgrown => exact q
  | .ok (.row row args) w', h => exact ⟨fun h => by simp [Fence.wide] at h, fun c cs _ => let ⟨v, w'', r, s⟩ := h c cs; ⟨v, w'', hn _ _ r, stepsIn_wide.2 s⟩⟩
  | .halt (.panic v) w', h => exact h
theorem ops_in {ops : Array Oper} (hQ : ¬ LetsOut Q) (hd : ops.toList.all (fun o => !isDef o.op) = true) : ∀ (il : List Nat) (a : Act) (w : World), wpOps P ops Q il a w → wpOpsIn (rfence l) n P ops Q il a w
  | [], a, w, h => h
  | i :: rest, a, w, h => by
    unfold wpOps at h
    unfold wpOpsIn
    cases ho : ops[i]? with
    | none => simp only [ho] at h ⊢; exact ops_in hQ hd rest a w h
    | some o =>
      simp only [ho] at h ⊢
      have hod : isDef o.op = false := by
        have h1 := List.all_eq_true.1 hd o (by obtain ⟨hi, he⟩ := Array.getElem?_eq_some_iff.1 ho; rw [← he]; exact Array.getElem_mem_toList ..)
        simpa using h1
      split
      · rename_i hw
        rw [if_pos hw] at h
        rcases h with h | ⟨_, h⟩
        · exact op_in h hod (fun a w h => ops_in hQ hd rest a w h)
        · exact absurd h hQ
      · rename_i hw
        rw [if_neg hw] at h
        exact ⟨fun _ _ => trivial, ops_in hQ hd rest _ w h⟩
end
/-- the judgement within round l -/
def HCR (l n : Nat) (P : Program) (Q : Exit → Act → World → Prop) (N : Nat) (D : List Deferred) (c : Code) (ρ : Env) (b : Base) (X S : List Res) : Prop :=
  ¬ LetsOut Q → ∀ w, Mem b X S w → ∀ a, Ag N D ρ a → c.wpIn (rfence l) n P Q a w
section
variable {P : Program} {Q : Exit → Act → World → Prop} {N : Nat} {D : List Deferred} {ρ ρ' : Env} {b : Base} {X X' X1 Xr S S' S1 : List Res} {c c' : Code} {l n : Nat} {ops : Array Oper}
theorem letsOut_then {K : Act → World → Prop} : LetsOut (Exit.then K Q) → LetsOut Q := fun ⟨a, w, h⟩ => ⟨a, w, h⟩
theorem letsOut_block {id : Nat} : LetsOut (Exit.inBlock id Q) → LetsOut Q := fun ⟨a, w, h⟩ => ⟨a, w, h⟩
theorem letsOut_noPan : LetsOut (NoPan Q) → LetsOut Q := fun ⟨a, w, h⟩ => ⟨a, w, by first | exact h | exact h.elim⟩
theorem hseqR (h : HCR l n P (Exit.then (fun a w => ¬ LetsOut Q → c'.wpIn (rfence l) n P Q a w) Q) N D c ρ b X S) : HCR l n P Q N D (.seq c c') ρ b X S := fun hQ w m a ha =>
  wpIn_seq (wpIn_mono (h (fun k => hQ (letsOut_then k)) w m a ha) (fun e a w q => by cases e <;> first | exact q hQ | exact q))
theorem hregR {id : Nat} {il : List Oper} (h : HL P il.toArray Q N D il ρ b X S) (hd : il.all (fun o => !isDef o.op) = true := by rfl) : HCR l n P Q N D (.region id il.toArray false) ρ b X S := fun hQ w m a ha => by
  refine wpIn_region (ops_in hQ (by simpa using hd) _ _ _ ?_)
  have h1 := h w m a ha
  rw [List.range_eq_range', ← Array.length_toList, wpOps_eq_wpList il.toArray.toList 0 (by simp)]
  simpa using h1
theorem hcskipR (h : HQ Q N D .normal ρ b X S) : HCR l n P Q N D .skip ρ b X S := fun hQ w m a ha => wpIn_skip (h w m a ha)
theorem hexitR {id : Nat} (h : HQ Q N D (.exit id) ρ b X S) : HCR l n P Q N D (.exit id) ρ b X S := fun hQ w m a ha => wpIn_exit (h w m a ha)
theorem hblockR {id : Nat} (h : HCR l n P (Exit.inBlock id Q) N D c ρ b X S) : HCR l n P Q N D (.block id c) ρ b X S := fun hQ w m a ha => wpIn_block (h (fun k => hQ (letsOut_block k)) w m a ha)
theorem hifR {p : Prop} [Decidable p] {x : Operand} (hc : ev ρ x = some (.bool (decide p))) (ht : p → HCR l n P Q N D c ρ b X S) (he : ¬ p → HCR l n P Q N D c' ρ b X S) : HCR l n P Q N D (.cond x c c') ρ b X S :=
  fun hQ w m a ha => wpIn_cond_split (ha.eval hc) (fun h => ht (of_decide_eq_true h) hQ w m a ha) (fun h => he (of_decide_eq_false h) hQ w m a ha)
theorem hthenR (h : HCR l n P Q N D c ρ b X S) : HQ (Exit.then (fun a w => ¬ LetsOut Q → c.wpIn (rfence l) n P Q a w) Q) N D .normal ρ b X S := fun w m a ha hQ => h hQ w m a ha
theorem hdrwR {id : Nat} {il : List (Option Nat × Oper)} (Xs : List Nat) (L : List (Nat × Option Nat)) (hm : P.follows .mixedOrders = true) (hk : (Region.noSelect ops && seqOkG ops Xs L (Array.replicate ops.size false) && decide (L.length ≤ ops.size)) = true)
    (hp : pickG ops L = some il) (cc : Nat) (h : HT P ops (NoPan Q) (TT b X S cc) N D 0 il ρ b X S) (hd : ops.toList.all (fun o => !isDef o.op) = true := by rfl) : HCR l n P Q N D (.region id ops true) ρ b X S := fun hQ w m a ha => by
  simp only [Bool.and_eq_true, decide_eq_true_eq] at hk
  refine wpIn_mono (Q := NoPan Q) ?_ (fun e a w q => by cases e <;> first | exact q | exact q.elim)
  refine wpIn_region_draw fun t => ops_in (fun k => hQ (letsOut_noPan k)) hd _ _ _ ?_
  simp only [Region.schedule, hm, Bool.true_or, if_true]
  refine wpAny_sound ops.size t _ a _ ?_
  refine wpAny_of_wpG _ _ _ _ (wpG_of_seq (X := Xs) hk.1.1 (fun c a d v w q => q.elim) L il _ a _ _ 0 hp hk.1.2 hk.2 ?_ ?_ (T := TT b X S cc) (fun _ => m.lift (Fr.drew w)) (h _ (m.lift (Fr.drew w)) a ha))
  · intro j hj
    simp [Array.getElem?_replicate] at hj
    split at hj <;> cases hj
  · unfold cnt
    rw [List.countP_eq_zero]
    intro x _
    simp [Array.getElem?_replicate]
    split <;> rfl
theorem hdrwBR {id : Nat} {il : List (Option Nat × Oper)} (is js : List Nat) (hX : takeR is X = some (X1, Xr)) (hS : getR js S = some S1) (Xs : List Nat) (L : List (Nat × Option Nat)) (hm : P.follows .mixedOrders = true) (hk : (Region.noSelect ops && seqOkG ops Xs L (Array.replicate ops.size false) && decide (L.length ≤ ops.size)) = true)
    (hp : pickG ops L = some il) (cc : Nat) (h : HT P ops (NoPan Q) (TT b X1 S1 cc) N D 0 il ρ b X S) (hd : ops.toList.all (fun o => !isDef o.op) = true := by rfl) : HCR l n P Q N D (.region id ops true) ρ b X S := fun hQ w m a ha => by
  simp only [Bool.and_eq_true, decide_eq_true_eq] at hk
  refine wpIn_mono (Q := NoPan Q) ?_ (fun e a w q => by cases e <;> first | exact q | exact q.elim)
  refine wpIn_region_draw fun t => ops_in (fun k => hQ (letsOut_noPan k)) hd _ _ _ ?_
  simp only [Region.schedule, hm, Bool.true_or, if_true]
  refine wpAny_sound ops.size t _ a _ ?_
  refine wpAny_of_wpG _ _ _ _ (wpG_of_seq (X := Xs) hk.1.1 (fun c a d v w q => q.elim) L il _ a _ _ 0 hp hk.1.2 hk.2 ?_ ?_ (T := TT b X1 S1 cc) (fun _ => (wk is js hX hS).mem (m.lift (Fr.drew w))) (h _ (m.lift (Fr.drew w)) a ha))
  · intro j hj
    simp [Array.getElem?_replicate] at hj
    split at hj <;> cases hj
  · unfold cnt
    rw [List.countP_eq_zero]
    intro x _
    simp [Array.getElem?_replicate]
    split <;> rfl
end
end Go.Eng
end
section
/- A range over a function in the engine over things in memory. No statement is proved here. -/
set_option linter.unusedVariables false
set_option linter.unusedSimpArgs false
set_option linter.unusedSectionVars false
namespace Go.Eng
open Go.RowKit
/-- the block that gathers a loop's deferred calls: there are none -/
def RCol (D : Nat) : Res where
  foot k := k = D
  holds w := w.heap[D]? = some (.deferred (some []))
  keep := fun {S w w'} f h e => by
    have hlt := (Array.getElem?_eq_some_iff.1 e).1
    exact (f.block D hlt (h D rfl)).trans e
  low := fun {w k} e hk => by
    have hk' : k = D := hk
    rw [hk']; exact (Array.getElem?_eq_some_iff.1 e).1
theorem Mem.grown {b : Base} {X S : List Res} {w w' : World} {R : Nat → Prop} (m : Mem b X S w) (f : Fr R w w') (h1 : ∀ k, R k → b.w.heap.size ≤ k) (h2 : ∀ k, R k → ∀ x ∈ X, ¬ x.foot k) (h3 : ∀ k, R k → ∀ s ∈ S, ¬ s.foot k) : Mem b X S w' :=
  ⟨m.fr.trans f (fun _ e => e) (fun i hi e => absurd (h1 i e) (by omega)), m.xx, m.xs, fun x hx => x.keep f (fun k hk hr => h2 k hr x hx hk) (m.hx x hx), fun s hs => s.keep f (fun k hk hr => h3 k hr s hs hk) (m.hs s hs), m.nx, m.ns⟩
theorem fr_of_grown {w w' : World} {row : Option Nat} (h : w.grownBy w' row) : Fr (fun k => row = some k) w w' := ⟨h.os, h.tape, h.output, h.size, fun k hk hn => h.block k hk (fun e => hn e.symm)⟩
/-- what a round keeps below B: all but M -/
def KpM (B : Nat) (M : Nat → Prop) (W W' : World) : Prop := ∀ k, k < B → ¬ M k → W'.heap[k]? = W.heap[k]?
def penv (ps : Array Tmp) (vs : List Value) : Env := (ps.toList.zip vs)
theorem Mem.addCol {b : Base} {X S : List Res} {w : World} {D B : Nat} (m : Mem b X S w) (hb : b.w.heap.size ≤ B) (hD : B ≤ D) (hx : ∀ x ∈ X, ∀ k, x.foot k → k < B) (hs : ∀ s ∈ S, ∀ k, s.foot k → k < B) (h : w.heap[D]? = some (.deferred (some []))) : Mem b (RCol D :: X) S w := by
  refine ⟨m.fr, List.pairwise_cons.2 ⟨fun y hy k hk hy' => ?_, m.xx⟩, fun x hx' s hs' k hk hk' => ?_, fun x hx' => ?_, m.hs, fun x hx' k hk => ?_, m.ns⟩
  · have hk' : k = D := hk
    have := hx y hy k hy'
    omega
  · rcases List.mem_cons.1 hx' with rfl | hx'
    · have h1 : k = D := hk
      have := hs s hs' k hk'
      omega
    · exact m.xs x hx' s hs' k hk hk'
  · rcases List.mem_cons.1 hx' with rfl | hx'
    · exact h
    · exact m.hx x hx'
  · rcases List.mem_cons.1 hx' with rfl | hx'
    · have h1 : k = D := hk
      exact .inr (by omega)
    · exact m.nx x hx' k hk
theorem Mem.off {b : Base} {X S X1 Xr : List Res} {w : World} {is : List Nat} (m : Mem b X S w) (hX : takeR is X = some (X1, Xr)) (j : Nat) {r : Res} (hj : Xr[j]? = some r) {k : Nat} (hk : r.foot k) : ¬ feet X1 k := by
  have m1 := m.perm (takeR_perm _ _ _ _ hX)
  rintro ⟨x, hx, hxk⟩
  exact (List.pairwise_append.1 m1.xx).2.2 x hx r (List.mem_of_getElem? hj) k hxk hk
/-- how a round may be left -/
def RQ {α σ : Type} (b : Base) (X1 : σ → List Res) (Sb : List Res) (id : Nat) (step : σ → α → σ) (brk : σ → α → Prop) (s : σ) (x : α) : Exit → Act → World → Prop
  | .normal, _, w => Mem b (X1 (step s x)) Sb w
  | .exit i, _, w => i = id ∧ Mem b (X1 s) Sb w ∧ brk s x
  | _, _, _ => False
theorem hrq_nextE {α σ : Type} {b : Base} {X1 : σ → List Res} {Sb : List Res} {id : Nat} {step : σ → α → σ} {brk : σ → α → Prop} {s : σ} {x : α} {N : Nat} {D : List Deferred} {ρ : Env} {X S Xz : List Res} (s' : σ) (he : step s x = s') (is : List Nat) (hX : takeR is X = some (X1 s', Xz)) (js : List Nat) (hS : getR js S = some Sb) :
    HQ (RQ b X1 Sb id step brk s x) N D .normal ρ b X S := fun w m a ha => by
  show Mem b (X1 (step s x)) Sb w
  rw [he]
  exact m.out is hX js hS
theorem hrq_break {α σ : Type} {b : Base} {X1 : σ → List Res} {Sb : List Res} {id : Nat} {step : σ → α → σ} {brk : σ → α → Prop} {s : σ} {x : α} {N : Nat} {D : List Deferred} {ρ : Env} {X S Xz : List Res} (is : List Nat) (hX : takeR is X = some (X1 s, Xz)) (js : List Nat) (hS : getR js S = some Sb) (hb : brk s x) :
    HQ (RQ b X1 Sb id step brk s x) N D (.exit id) ρ b X S := fun w m a ha => ⟨rfl, m.out is hX js hS, hb⟩
section
variable {P : Program} {Q : Exit → Act → World → Prop} {N : Nat} {D : List Deferred} {ρ ρ' : Env} {b : Base} {X X' Xr S S' Sb : List Res}
theorem hrange {α σ : Type} {g gf id : Nat} {ps : Array Tmp} {assign body : Code} {lb : List Value} (X1 : σ → List Res) (s0 : σ) (step : σ → α → σ) (brk : σ → α → Prop) (encs : α → List Value) (xs : List α) (ρx : α → Env) (ρk : Env) (hk : SubB ρk ρ)
    (hv : get ρ g = some (.func (.func gf) #[] lb.toArray)) (heg : ∀ args w, (callFunc gf args).run P w = .ok (.enter gf args) w)
    (is : List Nat) (hX : takeR is X = some (X1 s0, Xr)) (hft : ∀ s k, feet (X1 s) k ↔ feet (X1 s0) k) (js : List Nat) (hS : getR js S = some Sb)
    (hseq : ∀ w, Mem b X S w → SeqStopsK Fence.wide 2 P gf lb.toArray (fun x => (encs x).toArray) (KpM w.heap.size (feet (X1 s0))) (fun ys => ys = xs) (fun pre => pre <+: xs) xs.length w)
    (hps : ∀ x, (encs x).length = ps.size) (hpn : ∀ p ∈ ps.toList, p < N) (hnd : ∀ x (a : Act), Ag N D ρ a → Ag N [] (ρ' ++ penv ps (encs x) ++ ρ) { tmps := (ps.zip (encs x).toArray).foldl (fun t (p, v) => t.setIfInBounds p v) a.tmps, defers := [] })
    (hasg : ∀ (l : Nat) (b' : Base) (s : σ) (x : α) (Q' : Exit → Act → World → Prop), HQ Q' N [] .normal (ρx x ++ ρk) b' (X1 s) Sb → HCR l 1 P Q' N [] assign (ρ' ++ penv ps (encs x) ++ ρ) b' (X1 s) Sb)
    (hbody : ∀ (l : Nat) (b' : Base) (s : σ) (x : α), HCR l 1 P (RQ b' X1 Sb id step brk s x) N [] body (ρx x ++ ρk) b' (X1 s) Sb)
    (k : ∀ (Dk : Nat) (s : σ), (s = xs.foldl step s0 ∨ ∃ pre x rest, xs = pre ++ x :: rest ∧ s = pre.foldl step s0 ∧ brk s x) → HQ Q N (⟨.collected Dk, #[]⟩ :: D) .normal ρ b (RCol Dk :: (X1 s ++ Xr)) S) :
    HC P Q N D (.block id (.rangeFunc (.tmp g) ps assign body)) ρ b X S := by
  intro w m a ha
  have m1 := m.perm (takeR_perm _ _ _ _ hX)
  have hSb := getR_sub _ _ _ hS
  obtain ⟨M, hM⟩ : ∃ M, M = feet (X1 s0) := ⟨_, rfl⟩
  have hbz : b.w.heap.size ≤ w.heap.size := m.fr.size
  have lowM : ∀ k, M k → k < w.heap.size := by
    rw [hM]
    rintro k ⟨x, hx, hk⟩
    exact x.low (m1.hx x (List.mem_append_left _ hx)) hk
  have lowX : ∀ s x, x ∈ X1 s ++ Xr → ∀ k, x.foot k → k < w.heap.size := by
    intro s x hx k hk
    rcases List.mem_append.1 hx with hx | hx
    · exact lowM k (by rw [hM]; exact (hft s k).1 ⟨x, hx, hk⟩)
    · exact x.low (m1.hx x (List.mem_append_right _ hx)) hk
  have lowS : ∀ s ∈ S, ∀ k, s.foot k → k < w.heap.size := fun s hs k hk => s.low (m.hs s hs) hk
  refine wpIn_wide (n := 3).1 (wpIn_block ?_)
  have hown : ∀ {s : σ} {W W' : World} {row : Option Nat}, Mem b (X1 s ++ Xr) S W → W.grownBy W' row → (∀ r, row = some r → w.heap.size ≤ r ∧ ∃ o : Obj, W.heap[r]? = some o ∧ o.isCells = false) → Mem b (X1 s ++ Xr) S W' := by
    intro s W W' row mW hg hr
    refine mW.grown (fr_of_grown hg) (fun k e => Nat.le_trans hbz (hr k e).1) (fun k e x hx hk => ?_) (fun k e x hx hk => ?_)
    · have h1 := lowX s x hx k hk
      have h2 := (hr k e).1
      omega
    · have h1 := lowS x hx k hk
      have h2 := (hr k e).1
      omega
  have hround : ∀ {s : σ} {W W' : World} {Y : List Res}, Mem b (X1 s ++ Xr) S W → w.heap.size ≤ W.heap.size → Mem ⟨W, feet (X1 s), feet Sb⟩ Y Sb W' → KeepsFrom w.heap.size W W' ∧ KpM w.heap.size M W W' ∧ Mem b (Y ++ Xr) S W' := by
    intro s W W' Y mW hsz mY
    have e : ∀ k, feet (X1 s) k ↔ M k := fun k => by rw [hM]; exact hft s k
    refine ⟨⟨mY.fr.size, fun k o hk ho _ => ?_⟩, fun k hk hn => ?_, (mW.frame hSb mY).subS (fun x hx => List.mem_append_right _ hx)⟩
    · have hlt := (Array.getElem?_eq_some_iff.1 ho).1
      exact (mY.fr.block k hlt (fun q => by have := lowM k ((e k).1 q); omega)).trans ho
    · exact mY.fr.block k (by show k < W.heap.size; omega) (fun q => hn ((e k).1 q))
  refine wpIn_rangeFunc_ownH (n := 3) (α := α) (gf := gf) (lb := lb.toArray) rfl (by decide) (ha.eval hv) trivial heg (hseq w m)
    (fun {A B C} h1 h2 k hk hn => (h2 k hk hn).trans (h1 k hk hn)) (fun W l o o' hl ho _ _ k hk hn => World.putObj_heap_other (by omega)) (Below.refl _ w) (fun x => by simpa using hps x)
    (fun pre W => w.heap.size ≤ W.heap.size ∧ Mem b (X1 (pre.foldl step s0) ++ Xr) S W) (fun c pre W => c = .exit id ∧ ∃ pre' x, pre = pre' ++ [x] ∧ Mem b (X1 (pre'.foldl step s0) ++ Xr) S W ∧ brk (pre'.foldl step s0) x)
    (fun pre W W' row h hg hr => ⟨Nat.le_trans h.1 hg.size, hown h.2 hg hr⟩)
    (fun c pre W W' row h hg hr => by
      obtain ⟨hc, pre', x, e, h1, h2⟩ := h
      exact ⟨hc, pre', x, e, hown h1 hg hr, h2⟩)
    ⟨Nat.le_refl _, m1⟩ (fun x a' _ => Ag N [] (ρx x ++ ρk) a') (fun x a' => ownFrom_pure _ (fun _ => Ag N [] (ρx x ++ ρk) a')) ?_ ?_ ?_ ?_
  · rintro l pre x W K ⟨hsz, mW⟩ hK
    refine hasg l ⟨W, feet (X1 (pre.foldl step s0)), feet Sb⟩ (pre.foldl step s0) x _ (fun W' m' a' ha' => ?_) (fun ⟨_, _, h⟩ => h) W (mW.part hSb) _ (hnd x a ha)
    obtain ⟨h1, h2, h3⟩ := hround mW hsz m'
    exact hK a' W' h1 (by rw [← hM]; exact h2) ⟨Nat.le_trans hsz h1.size, h3⟩ ha'
  · rintro l pre x a' W _ _ ⟨hsz, mW⟩ hax _
    refine wpIn_mono (hbody l ⟨W, feet (X1 (pre.foldl step s0)), feet Sb⟩ (pre.foldl step s0) x (fun ⟨_, _, h⟩ => h) W (mW.part hSb) a' hax) ?_
    intro e a2 W2 q
    cases e with
    | normal =>
      have q' : Mem _ (X1 (step (pre.foldl step s0) x)) Sb W2 := q
      obtain ⟨h1, h2, h3⟩ := hround mW hsz q'
      refine ⟨h1, by rw [← hM]; exact h2, Nat.le_trans hsz h1.size, ?_⟩
      rw [List.foldl_append]
      exact h3
    | exit i =>
      obtain ⟨rfl, q1, q2⟩ := q
      obtain ⟨h1, h2, h3⟩ := hround mW hsz q1
      exact ⟨h1, rfl, pre, x, rfl, h3, q2⟩
    | ret => exact q.elim
    | goto t => exact q.elim
    | panic c => exact q.elim
    | outgrown => exact q.elim
  · rintro Dk ys W hD rfl ⟨hsz, mW⟩ hdef
    exact k Dk _ (.inl rfl) W (mW.addCol hbz hD (lowX _) lowS hdef) _ ⟨ha.sz, by rw [ha.df], ha.gt⟩
  · rintro Dk c pre W hD hpre ⟨rfl, pre', x, rfl, mW, hb⟩ hdef
    obtain ⟨rest, hr⟩ := hpre
    refine wpIn_exit ?_
    have hq := k Dk _ (.inr ⟨pre', x, rest, by rw [← hr]; simp, rfl, hb⟩) W (mW.addCol hbz hD (lowX _) lowS hdef) { a with defers := ⟨.collected Dk, #[]⟩ :: a.defers } ⟨ha.sz, by show _ :: a.defers = _; rw [ha.df], ha.gt⟩
    show (Exit.inBlock id Q) (.exit id) _ W
    simp only [Exit.inBlock, if_pos]
    exact hq
end
theorem ag_nd2 {N p q : Nat} {D : List Deferred} {ρ : Env} {a : Act} {u v : Value} (hpq : (p == q) = false) (hp : p < N) (hq : q < N) (ha : Ag N D ρ a) :
    Ag N [] ([] ++ penv #[p, q] [u, v] ++ ρ) { tmps := ((#[p, q] : Array Tmp).zip [u, v].toArray).foldl (fun t (p, v) => t.setIfInBounds p v) a.tmps, defers := [] } := by
  have hne : p ≠ q := by simpa using hpq
  have e : (((#[p, q] : Array Tmp).zip [u, v].toArray).foldl (fun t (p, v) => t.setIfInBounds p v) a.tmps) = (a.tmps.setIfInBounds p u).setIfInBounds q v := by simp
  rw [e]
  have hsz := ha.sz
  refine ⟨by simpa using hsz, rfl, fun t z ht => ?_⟩
  simp only [penv, List.nil_append, List.zip_cons_cons, List.zip_nil_right, List.cons_append, get] at ht
  show ((a.tmps.setIfInBounds p u).setIfInBounds q v)[t]? = some z
  cases h1 : Nat.beq p t with
  | true =>
    rw [h1] at ht
    have h1' : p = t := Nat.eq_of_beq_eq_true h1
    simp only [cond_true, Option.some.injEq] at ht
    subst h1'; subst ht
    rw [Array.getElem?_setIfInBounds_ne (Ne.symm hne), Array.getElem?_setIfInBounds_self_of_lt (by omega)]
  | false =>
    rw [h1] at ht
    simp only [cond_false] at ht
    have h1' : p ≠ t := Nat.ne_of_beq_eq_false h1
    cases h2 : Nat.beq q t with
    | true =>
      rw [h2] at ht
      have h2' : q = t := Nat.eq_of_beq_eq_true h2
      simp only [cond_true, Option.some.injEq] at ht
      subst h2'; subst ht
      rw [Array.getElem?_setIfInBounds_self_of_lt (by simp; omega)]
    | false =>
      rw [h2] at ht
      have h2' : q ≠ t := Nat.ne_of_beq_eq_false h2
      rw [Array.getElem?_setIfInBounds_ne h2', Array.getElem?_setIfInBounds_ne h1']
      exact ha.gt t z (by simpa using ht)
/-! ### In and out of a function with such a loop -/
theorem henterM {P : Program} {f : Nat} {fn : Func} {c : Code} {vs : List Value} {R : Value → List Res → List Res → Prop} {N : Nat} {X0 S0 : List Res} (hf : P.funcs[f]? = some fn) (hb : fn.body = some c) (hN : fn.ntmps = N) (hl : vs.length ≤ N)
    (h : ∀ b, HC P (bodyPostM Fence.wide 3 P fn (RB b R)) N [] c (argsEnv vs 0) b X0 S0) : Con P f vs X0 S0 R := fun w m => by
  refine callsIn_wide (n := 3).1 (callsIn_of_wp_marks hf hb trivial (wpIn_wide.2 (h _ w m _ ⟨?_, rfl, fun t v ht => ?_⟩)))
  · simp [hN]; omega
  · obtain ⟨_, h2⟩ := get_argsEnv vs 0 t v ht
    have hlt := (List.getElem?_eq_some_iff.1 h2).1
    rw [Array.getElem?_append_left (by simpa using hlt)]
    simpa using h2
section
variable {P : Program} {fn : Func} {R : Value → List Res → List Res → Prop} {N n : Nat} {D : List Deferred} {ρ : Env} {b : Base} {X X' Xz S S' : List Res} {e : Exit}
/-- the block is given back -/
theorem hcol {Dk : Nat} (he : Leaves e) (is : List Nat) (hX : takeR is X = some ([RCol Dk], X')) (k : HQ (bodyPostM Fence.wide n P fn (RB b R)) N D e ρ b X' S) : HQ (bodyPostM Fence.wide n P fn (RB b R)) N (⟨.collected Dk, #[]⟩ :: D) e ρ b X S := by
  intro w m a ha
  have m1 := m.perm (takeR_perm _ _ _ _ hX)
  have hc : w.heap[Dk]? = some (.deferred (some [])) := m1.hx (RCol Dk) (by simp)
  have hx1 := (List.pairwise_cons.1 m1.xx).1
  have hr := run_takeDeferred (P := P) hc
  have hf : Fr (fun k => k = Dk) w (w.putObj Dk (.deferred none)) := ⟨rfl, rfl, rfl, by simp, fun k _ hk => World.putObj_heap_other hk⟩
  have hbz : b.w.heap.size ≤ Dk ∨ b.M Dk := (m1.nx (RCol Dk) (by simp) Dk rfl).symm
  have m2 : Mem b X' S (w.putObj Dk (.deferred none)) := by
    refine ⟨m1.fr.trans hf (fun _ e => e) (fun i hi e => ?_), (List.pairwise_cons.1 m1.xx).2, fun x hx => m1.xs x (List.mem_cons_of_mem _ hx), fun x hx => x.keep hf (fun k hk e => ?_) (m1.hx x (List.mem_cons_of_mem _ hx)), fun s hs => s.keep hf (fun k hk e => ?_) (m1.hs s hs), fun x hx => m1.nx x (List.mem_cons_of_mem _ hx), m1.ns⟩
    · subst e
      rcases hbz with h | h
      · omega
      · exact h
    · exact hx1 x hx k e hk
    · exact m1.xs (RCol Dk) (by simp) s hs k e hk
  have hk := k _ m2 { a with defers := D } ⟨ha.sz, rfl, ha.gt⟩
  cases e with
  | normal =>
    show LeavesInM Fence.wide n P fn a.tmps _ a.defers .returning w
    rw [ha.df]
    exact ⟨by simp, .inl ⟨Dk, _, rfl, hr, hk⟩⟩
  | ret =>
    show LeavesInM Fence.wide n P fn a.tmps _ a.defers .returning w
    rw [ha.df]
    exact ⟨by simp, .inl ⟨Dk, _, rfl, hr, hk⟩⟩
  | _ => exact he.elim
theorem hretM {v : Value} (he : Leaves e) (h : ∀ a, Ag N [] ρ a → ∀ w, (results fn a.tmps).run P w = .ok v w) (is : List Nat) (hX : takeR is X = some (X', Xz)) (js : List Nat) (hS : getR js S = some S') (hR : R v X' S') : HQ (bodyPostM Fence.wide n P fn (RB b R)) N [] e ρ b X S := by
  intro w m a ha
  have hm := m.out is hX js hS
  cases e with
  | normal =>
    show LeavesInM Fence.wide n P fn a.tmps _ a.defers .returning w
    rw [ha.df]
    exact ⟨v, h a ha w, _, _, _, rfl, hR, hm⟩
  | ret =>
    show LeavesInM Fence.wide n P fn a.tmps _ a.defers .returning w
    rw [ha.df]
    exact ⟨v, h a ha w, _, _, _, rfl, hR, hm⟩
  | _ => exact he.elim
theorem hretM2 {t t' : Nat} {v v' : Value} (he : Leaves e) (hr : fn.results = #[.tmp t, .tmp t']) (hv : get ρ t = some v) (hv' : get ρ t' = some v') (is : List Nat) (hX : takeR is X = some (X', Xz)) (js : List Nat) (hS : getR js S = some S') (hR : R (.tuple #[v, v']) X' S') : HQ (bodyPostM Fence.wide n P fn (RB b R)) N [] e ρ b X S :=
  hretM he (fun a ha w => by have h1 := ha.getD hv; have h2 := ha.getD hv'; simp at h1 h2; simp [results, hr, h1, h2]) is hX js hS hR
end
end Go.Eng
end
section
/- The library's slices.Backward over a slice of numbers: what it hands to a loop's body, and in which order. -/
set_option linter.unusedVariables false
set_option linter.unusedSimpArgs false
namespace Go.Proofs.YtfikjheicjamhaaDoor
open Go.Eng Go.RowKit Go.Shelf
attribute [local go_sem] Oper.semAt_some
set_option maxRecDepth 100000 in
set_option maxHeartbeats 4000000 in
theorem back1_in (F : Fence) (n : Nat) (h7 : F.fn 189) (hro : F.round = none) (hn : 1 ≤ n) (l Bs B b off cap : Nat) (M : Nat → Prop) (zs : List Int) {α : Type} (L : List α) (encs : α → List Value) (hL : L.length = zs.length) (henc : ∀ (k : Nat) (x : α), L[k]? = some x → encs x = [.int .i64 ((zs.length - 1 - k : Nat) : Int), .int .i64 (zs[zs.length - 1 - k]?.getD 0)]) (hreach : zs.length * 8 ≤ 140737488351232) (hbs : Bs < B ∧ ¬ M Bs) (hb : b < B ∧ ¬ M b) (J Jx : List α → World → Prop)
    (hY : ∀ pre x W, J pre W → pre.length < L.length → YieldAt F (n - 1) Tryd.prog l (encs x).toArray W fun e W' =>
      (e = .returned (.bool true) ∧ J (pre ++ [x]) W' ∧ KpM B M W W') ∨ (e = .returned (.bool false) ∧ Jx (pre ++ [x]) W'))
    (W : World) (hBs : W.cell? ⟨Bs, 0, none⟩ = some (.slice (some ⟨b, off, none⟩) zs.length cap)) (hc : ∀ j, j < zs.length → W.cell? ⟨b, off + j, none⟩ = some (.int .i64 (zs[j]?.getD 0))) (h0 : J [] W) :
    CallsIn F n Tryd.prog 189 #[.func (.yield l) #[] #[], .pointer (some ⟨Bs, 0, none⟩)] W fun e W' => (∃ v, e = .returned v) ∧
      ((∃ ys, ys = L ∧ J ys W') ∨ (∃ pre, pre <+: L ∧ Jx pre W')) := by
  refine callsIn_of_wp Tryd.func189 rfl h7 ?_ hro
  simp only [Tryd.ntmps189, List.size_toArray, List.length_cons, List.length_nil, Nat.reduceAdd, Nat.reduceSub, Array.replicate_succ, Array.replicate_zero, List.push_toArray, List.append_toArray, List.nil_append, List.cons_append]
  gi_wp2
  gi_loopw [3] (fun i wr => ∃ k : Nat, k ≤ zs.length ∧ i = .int .i64 ((zs.length : Int) - 1 - (k : Int)) ∧ J (L.take k) wr ∧ KpM B M W wr)
    (fun i _ => (intOf i + 1).toNat)
  case atStart => exact ⟨0, Nat.zero_le _, by simp, h0, fun _ _ _ => rfl⟩
  case round =>
    obtain ⟨k, hk, rfl, hJs, hnx⟩ := hrel
    have hBs' : wr.cell? ⟨Bs, 0, none⟩ = some (.slice (some ⟨b, off, none⟩) zs.length cap) := by rw [← hBs]; simp only [World.cell?, hnx Bs hbs.1 hbs.2]
    have hcx : ∀ j, j < zs.length → wr.cell? ⟨b, off + j, none⟩ = some (.int .i64 (zs[j]?.getD 0)) := fun j h => by rw [← hc j h]; simp only [World.cell?, hnx b hb.1 hb.2]
    by_cases hlt : k < zs.length
    · obtain ⟨j, hj⟩ : ∃ j : Nat, j + 1 + k = zs.length := ⟨zs.length - 1 - k, by omega⟩
      have hjk : zs.length - 1 - k = j := by omega
      have hji : (zs.length : Int) - 1 - (k : Int) = (j : Int) := by omega
      obtain ⟨x, hx⟩ : ∃ x, L[k]? = some x := ⟨_, List.getElem?_eq_getElem (by omega)⟩
      have htk : L.take (k + 1) = L.take k ++ [x] := by rw [List.take_add_one, hx]; rfl
      obtain ⟨fn, tmps, assign, body, hy, hR⟩ := hY _ x wr hJs (by rw [List.length_take]; omega)
      rw [henc k x hx, hjk] at hy
      have hcx' := hcx j (by omega)
      obtain ⟨z, hz⟩ : ∃ z, zs[j]?.getD 0 = z := ⟨_, rfl⟩
      rw [hz] at hcx' hy
      clear hcx hz hc
      rw [hji]
      have hge : ¬ ((j : Int) < 0) := by omega
      have hjl : j < zs.length := by omega
      gi_wp2
      refine hR.mono ?_
      rintro e W3 (⟨rfl, hJ3, hk3⟩ | ⟨rfl, hJx3⟩)
      · gi_wp2
        go_roundw
        case rel => exact ⟨k + 1, by omega, by congr 1 <;> omega, by rw [htk]; exact hJ3, fun q h1 h2 => (hk3 q h1 h2).trans (hnx q h1 h2)⟩
        case measure => simp [intOf] <;> omega
      · gi_wp2
        refine bodyPost_ret (results_none rfl _ _ _) rfl ?_
        exact ⟨⟨_, rfl⟩, .inr ⟨_, by rw [← htk]; exact List.take_prefix _ _, hJx3⟩⟩
    · obtain rfl : k = zs.length := by omega
      have hge : ¬ ((zs.length : Int) - 1 - (zs.length : Int) ≥ 0) := by omega
      gi_wp2
      go_end0
      exact ⟨⟨_, rfl⟩, .inl (by rw [← hL, List.take_length] at hJs; exact hJs)⟩
set_option maxRecDepth 100000 in
set_option maxHeartbeats 4000000 in
theorem back0_in (F : Fence) (n : Nat) (h7 : F.fn 189) (hro : F.round = none) (l Bs cap : Nat) (A : Option Addr) (J : World → Prop)
    (W : World) (hBs : W.cell? ⟨Bs, 0, none⟩ = some (.slice A 0 cap)) (h0 : J W) :
    CallsIn F n Tryd.prog 189 #[.func (.yield l) #[] #[], .pointer (some ⟨Bs, 0, none⟩)] W fun e W' => (∃ v, e = .returned v) ∧ J W' := by
  refine callsIn_of_wp Tryd.func189 rfl h7 ?_ hro
  simp only [Tryd.ntmps189, List.size_toArray, List.length_cons, List.length_nil, Nat.reduceAdd, Nat.reduceSub, Array.replicate_succ, Array.replicate_zero, List.push_toArray, List.append_toArray, List.nil_append, List.cons_append]
  gi_wp2
  gi_loopw [3] (fun i wr => i = .int .i64 (-1) ∧ J wr) (fun _ _ => 0)
  case atStart => exact ⟨by simp, h0⟩
  case round =>
    obtain ⟨rfl, hJs⟩ := hrel
    gi_wp2
    go_end0
    exact ⟨⟨_, rfl⟩, hJs⟩
theorem back_stops (F : Fence) (n : Nat) (h7 : F.fn 189) (hro : F.round = none) (hn : 1 ≤ n) {w : World} {Bs e : Nat} {v : Value} {zs : List Int} {M : Nat → Prop} {α : Type} (L : List α) (encs : α → List Value) (hL : L.length = zs.length) (henc : ∀ (k : Nat) (x : α), L[k]? = some x → encs x = [.int .i64 ((zs.length - 1 - k : Nat) : Int), .int .i64 (zs[zs.length - 1 - k]?.getD 0)]) (hreach : zs.length * 8 ≤ 140737488351232)
    (hBs : w.cell? ⟨Bs, 0, none⟩ = some v) (hMB : ¬ M Bs) (h : Go.Eng.Own w 0 e 1 v zs.length (zs.map (Value.int .i64))) (hMA : ∀ k, vblk v k → ¬ M k) :
    SeqStopsK F n Tryd.prog 189 #[.pointer (some ⟨Bs, 0, none⟩)] (fun x => (encs x).toArray) (KpM w.heap.size M) (fun ys => ys = L) (fun pre => pre <+: L) L.length w := by
  intro l J Jx W hW _ _ hY h0
  have hlt := lt_of_cell hBs
  have hc' : W.cell? ⟨Bs, 0, none⟩ = some v := (hW.cell (p := ⟨Bs, 0, none⟩) hlt).trans hBs
  obtain ⟨hl, ⟨rfl, hz⟩ | ⟨g, o, cap, cur, rfl, _, hb, hcap, hml, hcl, hx⟩⟩ := h
  · have hL0 : L = [] := List.eq_nil_of_length_eq_zero (by omega)
    subst hL0
    exact (back0_in F n h7 hro l Bs 0 none (J []) W hc' h0).mono fun e W' ⟨he, hj⟩ => ⟨he, .inl ⟨_, rfl, hj⟩⟩
  · by_cases hz : zs.length = 0
    · have hL0 : L = [] := List.eq_nil_of_length_eq_zero (by omega)
      subst hL0
      rw [hz] at hc'
      exact (back0_in F n h7 hro l Bs cap _ (J []) W hc' h0).mono fun e W' ⟨he, hj⟩ => ⟨he, .inl ⟨_, rfl, hj⟩⟩
    · have hcs : ∀ j, j < zs.length → W.cell? ⟨g, o + j, none⟩ = some (.int .i64 (zs[j]?.getD 0)) := fun j hj => by
        refine (hW.cell (p := ⟨g, o + j, none⟩) hb.lt).trans (hb.cell ?_)
        have h1 : ((cur.drop o).take (zs.length * 1))[j]? = (zs.map (Value.int .i64))[j]? := by rw [hx]
        rw [List.getElem?_take, if_pos (by omega), List.getElem?_drop, List.getElem?_map, List.getElem?_eq_getElem hj] at h1
        rw [h1, List.getElem?_eq_getElem hj]
        rfl
      have hsz := hW.size
      have := back1_in F n h7 hro hn l Bs w.heap.size g o cap M zs L encs hL henc hreach ⟨hlt, hMB⟩ ⟨hb.lt, hMA g rfl⟩ J Jx hY W hc' hcs h0
      refine this.mono ?_
      rintro e W' ⟨he, ⟨ys, rfl, hj⟩ | ⟨pre, hp, hj⟩⟩
      · exact ⟨he, .inl ⟨_, rfl, hj⟩⟩
      · exact ⟨he, .inr ⟨_, hp, hj⟩⟩
end Go.Proofs.YtfikjheicjamhaaDoor
end
section
/- Contracts: bytes in fewer (layer 5): the match at a place. -/
set_option linter.unusedVariables false
set_option linter.unusedSimpArgs false
set_option maxRecDepth 20000
set_option maxHeartbeats 2000000
namespace Go.Proofs.YtfikjheicjamhaaDoor
open Go.Eng Go.Hx
/-- places from behind, each with its number -/
def backPos (zs : List Nat) (i : Nat) (h : ∀ z ∈ zs, z < i) : List {x : Nat × Nat // x.2 < i} := (zs.attach.zipIdx.map fun x => (⟨(x.2, x.1.1), h _ x.1.2⟩ : {x : Nat × Nat // x.2 < i})).reverse
theorem backPos_length (zs : List Nat) (i : Nat) (h : ∀ z ∈ zs, z < i) : (backPos zs i h).length = zs.length := by simp [backPos]
theorem backPos_map (zs : List Nat) (i : Nat) (h : ∀ z ∈ zs, z < i) : (backPos zs i h).map (fun x => x.1.2) = zs.reverse := by
  unfold backPos
  rw [List.map_reverse, List.map_map]
  congr 1
  apply List.ext_getElem
  · simp
  · intro j h1 h2
    simp
theorem backPos_get (zs : List Nat) (i : Nat) (h : ∀ z ∈ zs, z < i) (k : Nat) (x : {x : Nat × Nat // x.2 < i}) (hx : (backPos zs i h)[k]? = some x) : k < zs.length ∧ x.1.1 = zs.length - 1 - k ∧ zs[zs.length - 1 - k]? = some x.1.2 := by
  have hk : k < zs.length := by rw [← backPos_length zs i h]; exact (List.getElem?_eq_some_iff.1 hx).1
  unfold backPos at hx
  rw [List.getElem?_reverse (by simpa using hk)] at hx
  simp only [List.length_map, List.length_zipIdx, List.length_attach, List.getElem?_map, List.getElem?_zipIdx, Nat.zero_add] at hx
  have hlt : zs.length - 1 - k < zs.attach.length := by simp; omega
  rw [List.getElem?_eq_getElem hlt] at hx
  simp only [Option.map_some, Option.some.injEq] at hx
  subst hx
  refine ⟨hk, rfl, ?_⟩
  rw [List.getElem?_eq_getElem (by simpa using hlt)]
  simp
theorem foldl_backPos (f : Nat × Nat → Nat → Nat × Nat) (s : Nat × Nat) (i : Nat) (L : List {x : Nat × Nat // x.2 < i}) : L.foldl (fun s x => f s x.1.2) s = (L.map (fun x => x.1.2)).foldl f s := by rw [List.foldl_map]
theorem match_ends {l : List UInt8} {i : Nat} {zs : List Nat} (hz : zs = posL l i (key4 l i)) (hi : i + 4 ≤ l.length) (h : ∀ z ∈ zs, z < i) {s : Nat × Nat}
    (hs : s = (backPos zs i h).foldl (fun s x => pstep l i s x.1.2) (0, 0) ∨ ∃ pre x rest, backPos zs i h = pre ++ x :: rest ∧ s = pre.foldl (fun s x => pstep l i s x.1.2) (0, 0) ∧ 1024 < i - x.1.2) : s = matchL l i := by
  subst hz
  rcases hs with rfl | ⟨pre, x, rest, e, rfl, hb⟩
  · rw [foldl_backPos, backPos_map, match_eq hi]
  · have e2 := congrArg (List.map fun x => x.1.2) e
    rw [backPos_map, List.map_append, List.map_cons] at e2
    rw [foldl_backPos, ← match_eq hi]
    exact (match_brk e2 hb).symm
def nints (l : List Nat) : List Int := l.map fun n : Nat => (n : Int)
theorem nints_length (l : List Nat) : (nints l).length = l.length := List.length_map ..
theorem own_ints {w : World} {e : TypeId} {v : Value} {l : List Nat} (h : Go.Eng.Own w 0 e 1 v l.length (nts l)) : Go.Eng.Own w 0 e 1 v (nints l).length ((nints l).map (Value.int .i64)) := by
  rw [nints_length]
  unfold nints
  rw [List.map_map]
  exact h
theorem z_back {es : Fes} {j : Nat} {x : IRow} (h : (fress es)[j]? = some x.res) : (x.res :: (fress es).eraseIdx j).Perm (fress es) := by
  obtain ⟨h1, h2⟩ := List.getElem?_eq_some_iff.1 h
  have := eraseIdx_perm (fress es) j h1
  rwa [h2] at this
theorem backC {A : Option Addr} {n c : Nat} : Con Tryd.prog 175 [.slice A n c] [] [] (fun v_ X_ S_ => ∃ gB, v_ = (.func (.func 189) #[] #[.pointer (some ⟨gB, 0, none⟩)]) ∧ X_ = [RBlk gB 263 [.slice A n c]] ∧ S_ = []) := by
  refine henter (N := 4) Tryd.func175 rfl rfl (by simp) fun b => ?_
  refine hseq <| hreg <| ?_
  refine hx (xh_box rfl (fun g1 => ?_))
  refine hy (fun _ => y_assign rfl) <| hend <| hmemQ (X' := [_]) (S' := []) (fun _ m => m) <| hthen <| hseq <| hreg <| hy (fun _ => y_mkf rfl rfl) <| hy (fun _ => y_assign rfl) <| hend <| hsub (ρ' := [(2, _), (1, _), (0, _)]) ⟨rfl, rfl, rfl, trivial⟩ <| hthen <| hret <| ?_
  refine hmemQ (fun w m => m.eqX 0 rfl (show _ = RBlk g1 263 [.slice A n c] from rfl)) ?_
  exact hret1 trivial rfl rfl [0] rfl [] rfl ⟨_, rfl, rfl, rfl⟩
theorem overC {A : Option Addr} {n c : Nat} : Con Tryd.prog 156 [.slice A n c] [] [] (fun v_ X_ S_ => ∃ g gm, v_ = (.pointer (some ⟨g, 0, none⟩)) ∧ X_ = [RFnd g gm A n c 0 []] ∧ S_ = []) := by
  refine henter (N := 7) Tryd.func156 rfl rfl (by simp) fun b => ?_
  refine hseq <| hreg <| hy (fun _ => y_assign rfl) <| hend <| hthen <| hseq <| hreg <| hy (fun _ => y_move rfl) <| ?_
  refine hx (xh_mkmap (KN (n := 4)) (fun g4 => ?_))
  refine hy (fun _ => y_build ti259 rfl rfl (by kernel_rfl) (.cons (o := 0) (sz := 1) (by kernel_rfl) rfl rfl (Nat.le_of_ble_eq_true rfl) (.cons (o := 1) (sz := 1) (by kernel_rfl) rfl rfl (Nat.le_of_ble_eq_true rfl) .nil))) <| ?_
  refine hx (xh_box rfl (fun g6 => ?_))
  refine hy (fun _ => y_assign rfl) <| hend <| hsub (ρ' := [(2, _), (0, _)]) ⟨rfl, rfl, trivial⟩ <| hmemQ (X' := [_, _]) (S' := []) (fun _ m => m) <| hthen <| hret <| ?_
  refine hmemQ (fun w m => m.packNil) ?_
  refine hmemQ (fun w m => m.eqX 1 rfl (show _ = RBlk g6 259 [.slice A n c, .map (some g4), .int .i64 ((0 : Nat) : Int)] from rfl)) ?_
  refine hmemQ (X' := RFnd g6 g4 A n c 0 [] :: _) (fun w m => (m.perm (takeR_perm [0, 1, 0] _ [_, _, _] _ rfl)).pack) ?_
  exact hret1 trivial rfl rfl [0] rfl [] rfl ⟨_, _, rfl, rfl, rfl⟩
theorem enc_ok (zs : List Nat) (i : Nat) (h : ∀ z ∈ zs, z < i) (k : Nat) (x : {x : Nat × Nat // x.2 < i}) (hx : (backPos zs i h)[k]? = some x) : [Value.int .i64 (x.1.1 : Nat), .int .i64 (x.1.2 : Nat)] = [.int .i64 (((nints zs).length - 1 - k : Nat) : Int), .int .i64 ((nints zs)[(nints zs).length - 1 - k]?.getD 0)] := by
  obtain ⟨h1, h2, h3⟩ := backPos_get zs i h k x hx
  rw [nints_length]
  unfold nints
  rw [List.getElem?_map, h3, h2]
  rfl
theorem matchC {g gm : Nat} {A : Option Addr} {n c p i : Nat} {l : List UInt8} {es : Fes} (hc : n ≤ c) (hn : n ≤ 1000000000) (hl : l.length = n) (hpi : p ≤ i) (hi : i ≤ n) (hF : FOk l p es) : Con Tryd.prog 158 [.pointer (some ⟨g, 0, none⟩), .int .i64 (i : Nat)] [RFnd g gm A n c p es] [RRd 1 A n (b8s l)] (fun v_ X_ S_ => ∃ p1 es1, v_ = (.tuple #[.int .i64 ((matchL l i).1 : Nat), .int .i64 ((matchL l i).2 : Nat)]) ∧ X_ = [RFnd g gm A n c p1 es1] ∧ S_ = [] ∧ (p1 ≤ i ∧ FOk l p1 es1)) := by
  refine henterM (N := 60) Tryd.func158 rfl rfl (by simp) fun b => ?_
  refine hfactC (fun m => rdB (m.rd 0 rfl)) ?_
  rintro ⟨hl_r, hA_r⟩
  refine hmemC (fun w m => (m.perm (takeR_perm [0] _ [_] _ rfl)).unpack) ?_
  refine hseq <| hreg <| ?_
  refine hx (xh_box rfl (fun g2 => ?_))
  refine hx (xh_box rfl (fun g3 => ?_))
  refine hy (fun _ => y_assign rfl) <| hy (fun _ => y_assign rfl) <| hend <| hmemQ (X' := [_, _, _, _, _]) (S' := [_]) (fun _ m => m) <| hthen <| hseq <| hseq <| hdrw [] [(0, some 0), (1, some 0), (2, some 0), (3, some 0), (4, some 0), (5, some 0), (6, some 0), (7, some 0)] (by kernel_rfl) (by kernel_rfl) rfl 99 <| hty (fun m => y_ld1 rfl ag3 (ld_blk (m.blk 0 rfl) rfl)) <| htyU (y_add rfl rfl (w64 (by omega) (by omega))) <| hty (fun m => y_ld1 rfl ag238 (ld_blk (m.blk 1 rfl) rfl)) <| htyU (y_nilp rfl) <| htyU (y_fld rfl fa259_0 (by decide)) <| hty (fun m => y_ld1 rfl ag32 (ld_blk (m.blk 2 rfl) rfl)) <| htyU (y_lenS rfl Tryd.underlying32) <| htyU (y_gtr rfl rfl) <| htend <| hsub (ρ' := [(18, _), (5, _), (4, _), (3, _), (2, _), (0, _), (1, _)]) ⟨rfl, rfl, rfl, rfl, rfl, rfl, rfl, trivial⟩ <| hthen <| ?_
  refine hif rfl (fun h1 => ?_) (fun h1 => ?_)
  · have e := match_short (b := l) (i := i) (by omega) (by omega)
    rw [e]
    refine hseq <| hreg <| hy (fun _ => y_assign rfl) <| hy (fun _ => y_assign rfl) <| hend <| hthen <| hret <| hthen_ret <| ?_
    refine hmemQ (X' := RFnd g gm A n c p es :: _) (fun w m => (m.perm (takeR_perm [2, 2, 2] _ [_, _, _] _ rfl)).pack) ?_
    exact hretM2 trivial rfl rfl rfl [0] rfl [] rfl ⟨p, es, rfl, rfl, rfl, ⟨hpi, hF⟩⟩
  · have hi4 : i + 4 ≤ n := by omega
    refine hcskip <| hthen <| hseq <| ?_
    refine hmemC (X' := RFnd g gm A n c p es :: _) (fun w m => (m.perm (takeR_perm [2, 2, 2] _ [_, _, _] _ rfl)).pack) ?_
    refine hreg <| hy (fun m => y_ld1 rfl ag238 (ld_blk (m.blk 2 rfl) rfl)) <| hy (fun m => y_ld1 rfl ag3 (ld_blk (m.blk 1 rfl) rfl)) <| ?_
    refine hx (xh_call rfl Tryd.call174 (uptoC (by omega) (by omega) hl (by omega) (by omega) hF) [0] rfl [0] rfl ?_)
    rintro _ _ _ ⟨es1, rfl, rfl, rfl, hp⟩
    have hF1 := hp
    refine hend <| hsub (ρ' := [(18, _), (5, _), (4, _), (3, _), (2, _), (0, _), (1, _)]) ⟨rfl, rfl, rfl, rfl, rfl, rfl, rfl, trivial⟩ <| hmemQ (X' := [_, _, _]) (S' := [_]) (fun _ m => m) <| hthen <| hseq <| hreg <| ?_
    refine hx (xh_alloc ti3 (fun g6 => ?_))
    refine hx (xh_alloc ti3 (fun g7 => ?_))
    refine hx0 (xh_st1 1 rfl rfl rfl sz3 rfl (by first | exact Nat.le_of_ble_eq_true rfl | simp) ?_)
    refine hx0 (xh_st1 1 rfl rfl rfl sz3 rfl (by first | exact Nat.le_of_ble_eq_true rfl | simp) ?_)
    refine hend <| hmemQ (X' := [_, _, _, _, _]) (S' := [_]) (fun _ m => m) <| hthen <| hseq <| hseq <| ?_
    refine hmemC (fun w m => (m.perm (takeR_perm [2] _ [_] _ rfl)).unpack) ?_
    refine hfactC (fun m => (m.rd 0 rfl).some (by omega)) fun h_ => ?_
    obtain ⟨a, rfl⟩ : ∃ a_, A = some a_ := ⟨_, h_⟩
    clear h_
    rcases hq : aget es1 ⟨key4 l i, key4_length (by omega)⟩ with _ | x
    · have e0 := kept_none hF1 hq
      refine hdrw [15] [(0, some 1), (1, some 0), (2, some 0), (3, some 0), (4, some 1), (5, some 1), (6, some 1), (7, some 1), (8, some 1), (9, some 1), (10, some 1), (11, some 0), (12, some 0), (13, some 0), (14, some 0), (15, none)] (by kernel_rfl) (by kernel_rfl) rfl 99 <| hty (fun m => y_ld1 rfl ag238 (ld_blk (m.blk 6 rfl) rfl)) <| htyU (y_nilp rfl) <| htyU (y_fld rfl fa259_1 (by decide)) <| hty (fun m => y_ld1 rfl ag257 (ld_blk (m.blk 0 rfl) rfl)) <| hty (fun m => y_ld1 rfl ag238 (ld_blk (m.blk 6 rfl) rfl)) <| htyU (y_nilp rfl) <| htyU (y_fld rfl fa259_0 (by decide)) <| hty (fun m => y_ld1 rfl ag32 (ld_blk (m.blk 0 rfl) rfl)) <| hty (fun m => y_ld1 rfl ag3 (ld_blk (m.blk 5 rfl) rfl)) <| hty (fun m => y_ld1 rfl ag3 (ld_blk (m.blk 5 rfl) rfl)) <| htyU (y_add rfl rfl (w64 (by omega) (by omega))) <| htyU (yV (y_slBoth rfl rfl rfl Tryd.underlying32 sz5 rfl (show ((i + 4 : Nat) : Int) = _ by omega) (by omega) (by omega)) ((show Value.slice (if c = i then some a else (some a).map (·.add (i * 1))) (i + 4 - i) (c - i) = .slice (some (a.add i)) 4 (c - i) by rw [if_neg (by omega), Nat.mul_one, Nat.add_sub_cancel_left]; rfl))) <| htyU (y_arrAt rfl Tryd.underlying265 (by omega)) <| hty (fun m => yV (y_ldN rfl ag265 sz265 (by rw [b8s_length]; exact key4_length (by omega)) (Rd.part (m.rd 0 rfl))) ((show Value.agg (b8s ((l.drop i).take 4)).toArray = KN ⟨key4 l i, key4_length (by omega)⟩ from rfl))) <| hty (fun m => yV (y_lookM (enc := (KN (n := 4))) (k := ⟨key4 l i, key4_length (by omega)⟩) rfl rfl Tryd.underlying257 ti263 (bnKey Tryd.underlying265 Tryd.underlying5 (by kernel_rfl) (by kernel_rfl) (by kernel_rfl)) (m.mapX 1 rfl)) ((show lookVal false (.slice none 0 0) (aget (fvals es1) ⟨key4 l i, key4_length (by omega)⟩) = .slice none 0 0 by rw [fvals_get, hq]; rfl))) <| ?_
      refine htx (xh_call rfl Tryd.call175 (backC) [] rfl [] rfl ?_)
      rintro _ _ _ ⟨gB, rfl, rfl, rfl⟩
      refine ⟨(fun _ => wk [1, 1, 1, 1, 1, 1, 1] [0] rfl rfl), ?_⟩
      refine htend <| hsub (ρ' := [(37, _), (7, _), (6, _), (18, _), (5, _), (4, _), (3, _), (2, _), (0, _), (1, _)]) ⟨rfl, rfl, rfl, rfl, rfl, rfl, rfl, rfl, rfl, rfl, trivial⟩ <| hmemQ (X' := [_, _, _, _, _, _, _, _]) (S' := [_]) (fun _ m => m) <| hthen <| ?_
      have hlt : ∀ z ∈ ([] : List Nat), z < i := fun z hz => by cases hz
      refine hrange (σ := Nat × Nat) (α := {x : Nat × Nat // x.2 < i}) (ρ' := []) (fun s_ : Nat × Nat => [RBlk g6 3 [.int .i64 (s_.1 : Nat)], RBlk g7 3 [.int .i64 (s_.2 : Nat)], RBlk g3 3 [.int .i64 (i : Nat)], RBlk g2 238 [.pointer (some ⟨g, 0, none⟩)], RBlk g 259 [.slice (some a) n c, .map (some gm), .int .i64 (i : Nat)]]) (0, 0) (fun s_ x_ => pstep l i s_ x_.1.2) (fun s_ x_ => 1024 < i - x_.1.2) (fun x_ => [.int .i64 (x_.1.1 : Nat), .int .i64 (x_.1.2 : Nat)]) (backPos (([] : List Nat)) i hlt) (fun x_ => [(9, .int .i64 (x_.1.2 : Nat))]) [(37, _), (7, _), (6, _), (18, _), (5, _), (4, _), (3, _), (2, _), (0, _), (1, _)] ⟨rfl, rfl, rfl, rfl, rfl, rfl, rfl, rfl, rfl, rfl, trivial⟩ rfl Tryd.call189 [5, 4, 4, 4, 1] rfl (fun s_ k_ => by simp [feet, RBlk]) [0] rfl (fun w m => back_stops Fence.wide 2 trivial rfl (by decide) (zs := nints (([] : List Nat))) (e := 3) (backPos (([] : List Nat)) i hlt) (fun x_ => [.int .i64 (x_.1.1 : Nat), .int .i64 (x_.1.2 : Nat)]) (by rw [backPos_length, nints_length]) (enc_ok _ _ _) (by rw [nints_length]; first | omega | simp) (ld_blk (m.blk 0 rfl) rfl) (m.off (is := [5, 4, 4, 4, 1]) rfl 0 rfl rfl) (Go.Eng.Own.nil _ _ _ _) (fun k hk => hk.elim)) (fun _ => rfl) (by decide) (fun _ _ ha_ => ag_nd2 rfl (by decide) (by decide) ha_) (fun l_ b_ s_ x_ Q_ h_ => ?_) (fun l_ b s_ x_ => ?_) (fun Dk_ s_ hs_ => ?_)
      · exact hregR (hy (fun _ => y_assign rfl) ((hend (by refine hsub ?_ h_; exact ⟨rfl, rfl, rfl, rfl, rfl, rfl, rfl, rfl, rfl, rfl, rfl, trivial⟩))))
      · obtain ⟨u1, u2⟩ := s_
        obtain ⟨⟨j, q⟩, hq2⟩ := x_
        try dsimp only
        have hq2 : q < i := hq2
        refine hblockR <| hseqR <| hseqR <| hregR <| hy (fun m => y_ld1 rfl ag3 (ld_blk (m.blk 2 rfl) rfl)) <| hy (fun _ => y_move rfl) <| hy (fun _ => y_sub rfl rfl (w64 (by omega) (by omega))) <| hy (fun _ => y_gtr rfl rfl) <| hend <| hsub (ρ' := [(43, _), (9, _), (37, _), (7, _), (6, _), (18, _), (5, _), (4, _), (3, _), (2, _), (0, _), (1, _)]) ⟨rfl, rfl, rfl, rfl, rfl, rfl, rfl, rfl, rfl, rfl, rfl, rfl, trivial⟩ <| hthenR <| ?_
        refine hifR rfl (fun hb => ?_) (fun hb => ?_)
        · refine hexitR <| hthen_exit <| hqblock_exit' (by decide) <| ?_
          exact hrq_break [0, 0, 0, 0, 0] rfl [0] rfl ((show 1024 < i - q by omega))
        · refine hcskipR <| hthenR <| hseqR <| hdrwR [6] [(0, some 0), (1, some 0), (2, some 0), (3, some 0), (4, some 0), (5, some 0), (6, none), (7, some 1)] (by kernel_rfl) (by kernel_rfl) rfl 99 <| hty (fun m => y_ld1 rfl ag238 (ld_blk (m.blk 3 rfl) rfl)) <| htyU (y_nilp rfl) <| htyU (y_fld rfl fa259_0 (by decide)) <| hty (fun m => y_ld1 rfl ag32 (ld_blk (m.blk 4 rfl) rfl)) <| hty (fun m => y_ld1 rfl ag3 (ld_blk (m.blk 2 rfl) rfl)) <| htyU (y_move rfl) <| ?_
          refine htx (xh_call rfl Tryd.call176 (longC (by omega) hl (by omega) (by omega)) [] rfl [0] rfl ?_)
          rintro _ _ _ ⟨rfl, rfl, rfl⟩
          refine ⟨(fun _ => wk [0, 0, 0, 0, 0] [0] rfl rfl), ?_⟩
          refine htyU (y_assign rfl) <| htend <| hsub (ρ' := [(10, _), (43, _), (9, _), (37, _), (7, _), (6, _), (18, _), (5, _), (4, _), (3, _), (2, _), (0, _), (1, _)]) ⟨rfl, rfl, rfl, rfl, rfl, rfl, rfl, rfl, rfl, rfl, rfl, rfl, rfl, trivial⟩ <| hmemQ (X' := [_, _, _, _, _]) (S' := [_]) (fun _ m => m) <| hthenR <| hseqR <| hregR <| hy (fun _ => y_move rfl) <| hy (fun m => y_ld1 rfl ag3 (ld_blk (m.blk 0 rfl) rfl)) <| hy (fun _ => y_gtr rfl rfl) <| hend <| hsub (ρ' := [(53, _), (10, _), (43, _), (9, _), (37, _), (7, _), (6, _), (18, _), (5, _), (4, _), (3, _), (2, _), (0, _), (1, _)]) ⟨rfl, rfl, rfl, rfl, rfl, rfl, rfl, rfl, rfl, rfl, rfl, rfl, rfl, rfl, trivial⟩ <| hthenR <| ?_
          refine hifR rfl (fun hx1 => ?_) (fun hx1 => ?_)
          · refine hdrwBR [2, 2, 2] [0] rfl rfl [4, 5] [(0, some 0), (1, some 1), (2, some 1), (3, some 1), (4, none), (5, none)] (by kernel_rfl) (by kernel_rfl) rfl 99 <| htyU (y_move rfl) <| hty (fun m => y_ld1 rfl ag3 (ld_blk (m.blk 0 rfl) rfl)) <| htyU (y_move rfl) <| htyU (yV (y_sub rfl rfl (w64 (by omega) (by omega))) ((show Value.int .i64 ((i : Int) - (q : Int)) = .int .i64 ((i - q : Nat) : Int) by congr 1; omega))) <| ?_
            refine htx0 (xh_st1 0 rfl rfl rfl sz3 rfl (by first | exact Nat.le_of_ble_eq_true rfl | simp) ⟨(fun _ => wk [2, 2, 2] [0] rfl rfl), ?_⟩)
            refine htx0 (xh_st1 1 rfl rfl rfl sz3 rfl (by first | exact Nat.le_of_ble_eq_true rfl | simp) ⟨(fun _ => wk [2, 2, 2] [0] rfl rfl), ?_⟩)
            refine htend <| hsub (ρ' := [(53, _), (10, _), (43, _), (9, _), (37, _), (7, _), (6, _), (18, _), (5, _), (4, _), (3, _), (2, _), (0, _), (1, _)]) ⟨rfl, rfl, rfl, rfl, rfl, rfl, rfl, rfl, rfl, rfl, rfl, rfl, rfl, rfl, trivial⟩ <| hmemQ (X' := [_, _, _, _, _]) (S' := [_]) (fun _ m => m) <| hqblock <| ?_
            exact hrq_nextE (lng l i q, i - q) (by show pstep l i (u1, u2) q = _; unfold pstep; rw [if_neg (by omega), if_pos (by show u1 < _; omega)]) [1, 0, 0, 0, 0] rfl [0] rfl
          · refine hcskipR <| hqblock <| ?_
            exact hrq_nextE (u1, u2) (by show pstep l i (u1, u2) q = _; unfold pstep; rw [if_neg (by omega), if_neg (by show ¬ u1 < _; omega)]) [0, 0, 0, 0, 0] rfl [0] rfl
      · obtain ⟨u1, u2⟩ := s_
        have hend := match_ends e0.symm (by omega) hlt hs_
        have hu1 : u1 = (matchL l i).1 := congrArg Prod.fst hend
        have hu2 : u2 = (matchL l i).2 := congrArg Prod.snd hend
        refine hthen <| hseq <| hdrw [] [(0, some 0), (1, some 0), (2, some 0), (3, some 0)] (by kernel_rfl) (by kernel_rfl) rfl 99 <| hty (fun m => y_ld1 rfl ag3 (ld_blk (m.blk 1 rfl) rfl)) <| hty (fun m => y_ld1 rfl ag3 (ld_blk (m.blk 2 rfl) rfl)) <| htyU (y_assign rfl) <| htyU (y_assign rfl) <| htend <| hsub (ρ' := [(5, _), (4, _), (37, _), (7, _), (6, _), (18, _), (3, _), (2, _), (0, _), (1, _)]) ⟨rfl, rfl, rfl, rfl, rfl, rfl, rfl, rfl, rfl, rfl, trivial⟩ <| hthen <| hret <| ?_
        refine hcol trivial [0] rfl ?_
        skip
        refine hmemQ (X' := RFnd g gm (some a) n c i es1 :: _) (fun w m => (m.perm (takeR_perm [4, 5, 5] _ [_, _, _] _ rfl)).pack) ?_
        exact hretM2 trivial rfl rfl rfl [0] rfl [] rfl ⟨i, es1, (by rw [← hu1, ← hu2]), rfl, rfl, ⟨Nat.le_refl _, hF1⟩⟩
    · have e0 := kept_pos hF1 hq
      refine hdrw [15] [(0, some 1), (1, some 0), (2, some 0), (3, some 0), (4, some 1), (5, some 1), (6, some 1), (7, some 1), (8, some 1), (9, some 1), (10, some 1), (11, some 0), (12, some 0), (13, some 0), (14, some 0), (15, none)] (by kernel_rfl) (by kernel_rfl) rfl 99 <| hty (fun m => y_ld1 rfl ag238 (ld_blk (m.blk 6 rfl) rfl)) <| htyU (y_nilp rfl) <| htyU (y_fld rfl fa259_1 (by decide)) <| hty (fun m => y_ld1 rfl ag257 (ld_blk (m.blk 0 rfl) rfl)) <| hty (fun m => y_ld1 rfl ag238 (ld_blk (m.blk 6 rfl) rfl)) <| htyU (y_nilp rfl) <| htyU (y_fld rfl fa259_0 (by decide)) <| hty (fun m => y_ld1 rfl ag32 (ld_blk (m.blk 0 rfl) rfl)) <| hty (fun m => y_ld1 rfl ag3 (ld_blk (m.blk 5 rfl) rfl)) <| hty (fun m => y_ld1 rfl ag3 (ld_blk (m.blk 5 rfl) rfl)) <| htyU (y_add rfl rfl (w64 (by omega) (by omega))) <| htyU (yV (y_slBoth rfl rfl rfl Tryd.underlying32 sz5 rfl (show ((i + 4 : Nat) : Int) = _ by omega) (by omega) (by omega)) ((show Value.slice (if c = i then some a else (some a).map (·.add (i * 1))) (i + 4 - i) (c - i) = .slice (some (a.add i)) 4 (c - i) by rw [if_neg (by omega), Nat.mul_one, Nat.add_sub_cancel_left]; rfl))) <| htyU (y_arrAt rfl Tryd.underlying265 (by omega)) <| hty (fun m => yV (y_ldN rfl ag265 sz265 (by rw [b8s_length]; exact key4_length (by omega)) (Rd.part (m.rd 0 rfl))) ((show Value.agg (b8s ((l.drop i).take 4)).toArray = KN ⟨key4 l i, key4_length (by omega)⟩ from rfl))) <| hty (fun m => yV (y_lookM (enc := (KN (n := 4))) (k := ⟨key4 l i, key4_length (by omega)⟩) rfl rfl Tryd.underlying257 ti263 (bnKey Tryd.underlying265 Tryd.underlying5 (by kernel_rfl) (by kernel_rfl) (by kernel_rfl)) (m.mapX 1 rfl)) ((show lookVal false (.slice none 0 0) (aget (fvals es1) ⟨key4 l i, key4_length (by omega)⟩) = .slice x.A x.l.length x.c by rw [fvals_get, hq]; rfl))) <| ?_
      refine htx (xh_call rfl Tryd.call175 (backC) [] rfl [] rfl ?_)
      rintro _ _ _ ⟨gB, rfl, rfl, rfl⟩
      refine ⟨(fun _ => wk [1, 1, 1, 1, 1, 1, 1] [0] rfl rfl), ?_⟩
      refine htend <| hsub (ρ' := [(37, _), (7, _), (6, _), (18, _), (5, _), (4, _), (3, _), (2, _), (0, _), (1, _)]) ⟨rfl, rfl, rfl, rfl, rfl, rfl, rfl, rfl, rfl, rfl, trivial⟩ <| hmemQ (X' := [_, _, _, _, _, _, _, _]) (S' := [_]) (fun _ m => m) <| hthen <| ?_
      have hlt : ∀ z ∈ x.l, z < i := fun z hz => (posL_lt (e0 ▸ hz)).1
      have hxl : x.l.length ≤ n := by rw [e0]; exact Nat.le_trans (posL_length _ _ _) (by omega)
      obtain ⟨j, hj1, _⟩ := put_present hq
      refine hmemC (X' := ROwn 3 1 (.slice x.A x.l.length x.c) x.l.length (nts x.l) :: _) (fun w m => (m.perm (takeR_perm [3] _ [_] _ rfl)).packTake j hj1) ?_
      refine hrange (σ := Nat × Nat) (α := {x : Nat × Nat // x.2 < i}) (ρ' := []) (fun s_ : Nat × Nat => [RBlk g6 3 [.int .i64 (s_.1 : Nat)], RBlk g7 3 [.int .i64 (s_.2 : Nat)], RBlk g3 3 [.int .i64 (i : Nat)], RBlk g2 238 [.pointer (some ⟨g, 0, none⟩)], RBlk g 259 [.slice (some a) n c, .map (some gm), .int .i64 (i : Nat)]]) (0, 0) (fun s_ x_ => pstep l i s_ x_.1.2) (fun s_ x_ => 1024 < i - x_.1.2) (fun x_ => [.int .i64 (x_.1.1 : Nat), .int .i64 (x_.1.2 : Nat)]) (backPos (x.l) i hlt) (fun x_ => [(9, .int .i64 (x_.1.2 : Nat))]) [(37, _), (7, _), (6, _), (18, _), (5, _), (4, _), (3, _), (2, _), (0, _), (1, _)] ⟨rfl, rfl, rfl, rfl, rfl, rfl, rfl, rfl, rfl, rfl, trivial⟩ rfl Tryd.call189 [6, 5, 5, 5, 3] rfl (fun s_ k_ => by simp [feet, RBlk]) [0] rfl (fun w m => back_stops Fence.wide 2 trivial rfl (by decide) (zs := nints (x.l)) (e := 3) (backPos (x.l) i hlt) (fun x_ => [.int .i64 (x_.1.1 : Nat), .int .i64 (x_.1.2 : Nat)]) (by rw [backPos_length, nints_length]) (enc_ok _ _ _) (by rw [nints_length]; first | omega | simp) (ld_blk (m.blk 2 rfl) rfl) (m.off (is := [6, 5, 5, 5, 3]) rfl 2 rfl rfl) (own_ints (m.own 0 rfl)) (fun k hk => m.off (is := [6, 5, 5, 5, 3]) rfl 0 rfl hk)) (fun _ => rfl) (by decide) (fun _ _ ha_ => ag_nd2 rfl (by decide) (by decide) ha_) (fun l_ b_ s_ x_ Q_ h_ => ?_) (fun l_ b s_ x_ => ?_) (fun Dk_ s_ hs_ => ?_)
      · exact hregR (hy (fun _ => y_assign rfl) ((hend (by refine hsub ?_ h_; exact ⟨rfl, rfl, rfl, rfl, rfl, rfl, rfl, rfl, rfl, rfl, rfl, trivial⟩))))
      · obtain ⟨u1, u2⟩ := s_
        obtain ⟨⟨j, q⟩, hq2⟩ := x_
        try dsimp only
        have hq2 : q < i := hq2
        refine hblockR <| hseqR <| hseqR <| hregR <| hy (fun m => y_ld1 rfl ag3 (ld_blk (m.blk 2 rfl) rfl)) <| hy (fun _ => y_move rfl) <| hy (fun _ => y_sub rfl rfl (w64 (by omega) (by omega))) <| hy (fun _ => y_gtr rfl rfl) <| hend <| hsub (ρ' := [(43, _), (9, _), (37, _), (7, _), (6, _), (18, _), (5, _), (4, _), (3, _), (2, _), (0, _), (1, _)]) ⟨rfl, rfl, rfl, rfl, rfl, rfl, rfl, rfl, rfl, rfl, rfl, rfl, trivial⟩ <| hthenR <| ?_
        refine hifR rfl (fun hb => ?_) (fun hb => ?_)
        · refine hexitR <| hthen_exit <| hqblock_exit' (by decide) <| ?_
          exact hrq_break [0, 0, 0, 0, 0] rfl [0] rfl ((show 1024 < i - q by omega))
        · refine hcskipR <| hthenR <| hseqR <| hdrwR [6] [(0, some 0), (1, some 0), (2, some 0), (3, some 0), (4, some 0), (5, some 0), (6, none), (7, some 1)] (by kernel_rfl) (by kernel_rfl) rfl 99 <| hty (fun m => y_ld1 rfl ag238 (ld_blk (m.blk 3 rfl) rfl)) <| htyU (y_nilp rfl) <| htyU (y_fld rfl fa259_0 (by decide)) <| hty (fun m => y_ld1 rfl ag32 (ld_blk (m.blk 4 rfl) rfl)) <| hty (fun m => y_ld1 rfl ag3 (ld_blk (m.blk 2 rfl) rfl)) <| htyU (y_move rfl) <| ?_
          refine htx (xh_call rfl Tryd.call176 (longC (by omega) hl (by omega) (by omega)) [] rfl [0] rfl ?_)
          rintro _ _ _ ⟨rfl, rfl, rfl⟩
          refine ⟨(fun _ => wk [0, 0, 0, 0, 0] [0] rfl rfl), ?_⟩
          refine htyU (y_assign rfl) <| htend <| hsub (ρ' := [(10, _), (43, _), (9, _), (37, _), (7, _), (6, _), (18, _), (5, _), (4, _), (3, _), (2, _), (0, _), (1, _)]) ⟨rfl, rfl, rfl, rfl, rfl, rfl, rfl, rfl, rfl, rfl, rfl, rfl, rfl, trivial⟩ <| hmemQ (X' := [_, _, _, _, _]) (S' := [_]) (fun _ m => m) <| hthenR <| hseqR <| hregR <| hy (fun _ => y_move rfl) <| hy (fun m => y_ld1 rfl ag3 (ld_blk (m.blk 0 rfl) rfl)) <| hy (fun _ => y_gtr rfl rfl) <| hend <| hsub (ρ' := [(53, _), (10, _), (43, _), (9, _), (37, _), (7, _), (6, _), (18, _), (5, _), (4, _), (3, _), (2, _), (0, _), (1, _)]) ⟨rfl, rfl, rfl, rfl, rfl, rfl, rfl, rfl, rfl, rfl, rfl, rfl, rfl, rfl, trivial⟩ <| hthenR <| ?_
          refine hifR rfl (fun hx1 => ?_) (fun hx1 => ?_)
          · refine hdrwBR [2, 2, 2] [0] rfl rfl [4, 5] [(0, some 0), (1, some 1), (2, some 1), (3, some 1), (4, none), (5, none)] (by kernel_rfl) (by kernel_rfl) rfl 99 <| htyU (y_move rfl) <| hty (fun m => y_ld1 rfl ag3 (ld_blk (m.blk 0 rfl) rfl)) <| htyU (y_move rfl) <| htyU (yV (y_sub rfl rfl (w64 (by omega) (by omega))) ((show Value.int .i64 ((i : Int) - (q : Int)) = .int .i64 ((i - q : Nat) : Int) by congr 1; omega))) <| ?_
            refine htx0 (xh_st1 0 rfl rfl rfl sz3 rfl (by first | exact Nat.le_of_ble_eq_true rfl | simp) ⟨(fun _ => wk [2, 2, 2] [0] rfl rfl), ?_⟩)
            refine htx0 (xh_st1 1 rfl rfl rfl sz3 rfl (by first | exact Nat.le_of_ble_eq_true rfl | simp) ⟨(fun _ => wk [2, 2, 2] [0] rfl rfl), ?_⟩)
            refine htend <| hsub (ρ' := [(53, _), (10, _), (43, _), (9, _), (37, _), (7, _), (6, _), (18, _), (5, _), (4, _), (3, _), (2, _), (0, _), (1, _)]) ⟨rfl, rfl, rfl, rfl, rfl, rfl, rfl, rfl, rfl, rfl, rfl, rfl, rfl, rfl, trivial⟩ <| hmemQ (X' := [_, _, _, _, _]) (S' := [_]) (fun _ m => m) <| hqblock <| ?_
            exact hrq_nextE (lng l i q, i - q) (by show pstep l i (u1, u2) q = _; unfold pstep; rw [if_neg (by omega), if_pos (by show u1 < _; omega)]) [1, 0, 0, 0, 0] rfl [0] rfl
          · refine hcskipR <| hqblock <| ?_
            exact hrq_nextE (u1, u2) (by show pstep l i (u1, u2) q = _; unfold pstep; rw [if_neg (by omega), if_neg (by show ¬ u1 < _; omega)]) [0, 0, 0, 0, 0] rfl [0] rfl
      · obtain ⟨u1, u2⟩ := s_
        have hend := match_ends e0 (by omega) hlt hs_
        have hu1 : u1 = (matchL l i).1 := congrArg Prod.fst hend
        have hu2 : u2 = (matchL l i).2 := congrArg Prod.snd hend
        refine hthen <| hseq <| hdrw [] [(0, some 0), (1, some 0), (2, some 0), (3, some 0)] (by kernel_rfl) (by kernel_rfl) rfl 99 <| hty (fun m => y_ld1 rfl ag3 (ld_blk (m.blk 1 rfl) rfl)) <| hty (fun m => y_ld1 rfl ag3 (ld_blk (m.blk 2 rfl) rfl)) <| htyU (y_assign rfl) <| htyU (y_assign rfl) <| htend <| hsub (ρ' := [(5, _), (4, _), (37, _), (7, _), (6, _), (18, _), (3, _), (2, _), (0, _), (1, _)]) ⟨rfl, rfl, rfl, rfl, rfl, rfl, rfl, rfl, rfl, rfl, trivial⟩ <| hthen <| hret <| ?_
        refine hcol trivial [0] rfl ?_
        refine hmemQ (X' := RPack (fress es1) :: _) (fun w m => (Mem.packPut (m.perm (takeR_perm [5, 5] _ [_, _] _ rfl))).packPerm (z_back hj1)) ?_
        refine hmemQ (X' := RFnd g gm (some a) n c i es1 :: _) (fun w m => (m.perm (takeR_perm [5, 6, 0] _ [_, _, _] _ rfl)).pack) ?_
        exact hretM2 trivial rfl rfl rfl [0] rfl [] rfl ⟨i, es1, (by rw [← hu1, ← hu2]), rfl, rfl, ⟨Nat.le_refl _, hF1⟩⟩
end Go.Proofs.YtfikjheicjamhaaDoor
end
section
/- Scopes in which the run jumps back to one label, in the engine over things in memory (printed by scopegen.py). No statement is proved here. -/
set_option linter.unusedVariables false
set_option linter.unusedSimpArgs false
set_option linter.unusedSectionVars false
namespace Go.Eng
open Go.RowKit
theorem wp_scope_rel {P : Program} {Q : Exit → Act → World → Prop} {ι : Type} {c rest : Code} (l : Nat) (J : ι → Act → World → Prop) (μ : ι → Nat) (hf : findLabel c l = some rest) {a : Act} {w : World}
    (first : c.wp P (Exit.jump l (fun a w => ∃ j, J j a w) Q) a w)
    (pass : ∀ i a w, J i a w → rest.wp P (Exit.jump l (fun a' w' => ∃ j, J j a' w' ∧ μ j < μ i) Q) a w) : (Code.scope c).wp P Q a w := by
  intro b k cs
  have hg : gotoIn l (.inScope c :: k) = some (.code rest :: .inScope c :: k) := by simp [gotoIn, hf]
  have key : ∀ n i a w, μ i = n → J i a w → ∃ e a' w', Q e a' w' ∧ Arrives P (lone (b.at a (.code rest :: .inScope c :: k)) cs w) b k cs e a' w' := by
    intro n
    induction n using Nat.strongRecOn with
    | _ n ih =>
      intro i a w hn hJ
      obtain ⟨e, a₁, w₁, hq, harr⟩ := pass i a w hJ b (.inScope c :: k) cs
      cases e with
      | normal => exact ⟨.normal, a₁, w₁, hq, Steps.trans harr (.one step_inScope)⟩
      | exit id => exact ⟨.exit id, a₁, w₁, hq, fun k' hk => harr k' (by simp [exitTo, hk])⟩
      | goto l' =>
        obtain ⟨rfl, j, hJ', hlt⟩ := hq
        obtain ⟨e₂, a₂, w₂, hq₂, harr₂⟩ := ih _ (by omega) j a₁ w₁ rfl hJ'
        exact ⟨e₂, a₂, w₂, hq₂, .of_steps (harr _ hg) harr₂⟩
      | ret => exact ⟨_, a₁, w₁, hq, harr⟩
      | panic ch => exact ⟨_, a₁, w₁, hq, harr⟩
      | outgrown => exact ⟨_, a₁, w₁, hq, harr⟩
  obtain ⟨e, a₁, w₁, hq, harr⟩ := first b (.inScope c :: k) cs
  cases e with
  | normal => exact ⟨.normal, a₁, w₁, hq, .head step_scope (Steps.trans harr (.one step_inScope))⟩
  | exit id => exact ⟨.exit id, a₁, w₁, hq, fun k' hk => .head step_scope (harr k' (by simp [exitTo, hk]))⟩
  | goto l' =>
    obtain ⟨rfl, j, hJ'⟩ := hq
    obtain ⟨e₂, a₂, w₂, hq₂, harr₂⟩ := key _ j a₁ w₁ rfl hJ'
    exact ⟨e₂, a₂, w₂, hq₂, .of_steps (.head step_scope (harr _ hg)) harr₂⟩
  | ret => exact ⟨_, a₁, w₁, hq, .of_steps (.one step_scope) harr⟩
  | panic ch => exact ⟨_, a₁, w₁, hq, .of_steps (.one step_scope) harr⟩
  | outgrown => exact ⟨_, a₁, w₁, hq, .of_steps (.one step_scope) harr⟩
section
variable {P : Program} {Q : Exit → Act → World → Prop} {N : Nat} {D : List Deferred} {ρ : Env} {b : Base} {X S : List Res} {c : Code}
theorem hscope {ι : Type} {l : Nat} {rest : Code} (μ : ι → Nat) (R : ι → Env) (X1 S1 : ι → List Res) (I : ι → Prop) (ρk : Env) (Xr Sr : List Res) (hf : findLabel c l = some rest)
    (first : HC P (Exit.jump l (fun a' w' => ∃ j, Ag N D (R j ++ ρk) a' ∧ Mem b (X1 j ++ Xr) (S1 j ++ Sr) w' ∧ I j) Q) N D c ρ b X S)
    (pass : ∀ i, I i → HC P (Exit.jump l (fun a' w' => ∃ j, Ag N D (R j ++ ρk) a' ∧ Mem b (X1 j ++ Xr) (S1 j ++ Sr) w' ∧ I j ∧ μ j < μ i) Q) N D rest (R i ++ ρk) b (X1 i ++ Xr) (S1 i ++ Sr)) : HC P Q N D (.scope c) ρ b X S := fun w m a ha =>
  wp_scope_rel l (fun j a' w' => Ag N D (R j ++ ρk) a' ∧ Mem b (X1 j ++ Xr) (S1 j ++ Sr) w' ∧ I j) μ hf (first w m a ha)
    (fun i a' w' h => Code.wp_mono (fun e a' w' q => by
      cases e <;> first | exact q | (obtain ⟨h0, j, h1, h2, h3, h4⟩ := q; exact ⟨h0, j, ⟨h1, h2, h3⟩, h4⟩)) (pass i h.2.2 w' h.2.1 a' h.1))
theorem hcgoto {l : Nat} (h : HQ Q N D (.goto l) ρ b X S) : HC P Q N D (.goto l) ρ b X S := fun w m a ha => wp_goto (h w m a ha)
theorem hthen_goto {K : Act → World → Prop} {l : Nat} (h : HQ Q N D (.goto l) ρ b X S) : HQ (Exit.then K Q) N D (.goto l) ρ b X S := h
theorem hjump_ret {l : Nat} {J : Act → World → Prop} (h : HQ Q N D .ret ρ b X S) : HQ (Exit.jump l J Q) N D .ret ρ b X S := h
theorem hfallH {l : Nat} {J : Act → World → Prop} {r : Code} (h : HQ (Exit.jump l J Q) N D (.goto l) ρ b X S) (k : ∀ a w, J a w → r.wp P (Exit.jump l J Q) a w) : HC P (Exit.jump l J Q) N D (.seq (.label l) r) ρ b X S := fun w m a ha => wp_seq (wp_label (k a w (h w m a ha).2))
theorem hscope1 {α : Type} {l : Nat} {rest : Code} (μ : α → Nat) (R : α → Env) (X1 S1 : α → List Res) (I : α → Prop) (ρk : Env) (Xr Sr : List Res) (hf : findLabel c l = some rest)
    (first : HC P (Exit.jump l (fun a' w' => ∃ x, Ag N D (R x ++ ρk) a' ∧ Mem b (X1 x ++ Xr) (S1 x ++ Sr) w' ∧ I x) Q) N D c ρ b X S)
    (pass : ∀ a, I a → HC P (Exit.jump l (fun a' w' => ∃ x, Ag N D (R x ++ ρk) a' ∧ Mem b (X1 x ++ Xr) (S1 x ++ Sr) w' ∧ I x ∧ μ x < μ a) Q) N D rest (R a ++ ρk) b (X1 a ++ Xr) (S1 a ++ Sr)) : HC P Q N D (.scope c) ρ b X S :=
  hscope (ι := α) (fun i => μ i) (fun i => R i) (fun i => X1 i) (fun i => S1 i) (fun i => I i) ρk Xr Sr hf
    (fun w m a ha => Code.wp_mono (fun e a' w' q => by
      cases e <;> first | exact q | (obtain ⟨h0, x, h⟩ := q; exact ⟨h0, x, h⟩)) (first w m a ha))
    (fun i hi w m a ha => Code.wp_mono (fun e a' w' q => by
      cases e <;> first | exact q | (obtain ⟨h0, x, h⟩ := q; exact ⟨h0, x, h⟩)) (pass i hi w m a ha))
theorem hscopeF1 {α : Type} {l : Nat} {r : Code} (μ : α → Nat) (R : α → Env) (X1 S1 : α → List Res) (I : α → Prop) (ρk : Env) (hk : SubB ρk ρ) (is : List Nat) {Xt Xr : List Res} (hX : takeR is X = some (Xt, Xr)) (hf : findLabel c l = some (.seq .skip r))
    (pass : ∀ a, I a → HC P (Exit.jump l (fun a' w' => ∃ x, Ag N D (R x ++ ρk) a' ∧ Mem b (X1 x ++ Xr) (S1 x ++ S) w' ∧ I x ∧ μ x < μ a) Q) N D r (R a ++ ρk) b (X1 a ++ Xr) (S1 a ++ S))
    (first : (∀ a w, (∃ x, Ag N D (R x ++ ρk) a ∧ Mem b (X1 x ++ Xr) (S1 x ++ S) w ∧ I x) → r.wp P (Exit.jump l (fun a' w' => ∃ x, Ag N D (R x ++ ρk) a' ∧ Mem b (X1 x ++ Xr) (S1 x ++ S) w' ∧ I x) Q) a w) →
      HC P (Exit.jump l (fun a' w' => ∃ x, Ag N D (R x ++ ρk) a' ∧ Mem b (X1 x ++ Xr) (S1 x ++ S) w' ∧ I x) Q) N D c ρ b X S) : HC P Q N D (.scope c) ρ b X S :=
  hscope1 (l := l) (rest := .seq .skip r) μ R X1 S1 I ρk Xr S hf
    (first fun a w h => by
      obtain ⟨x, h1, h2, h3⟩ := h
      exact Code.wp_mono (fun e a' w' q => by
        cases e <;> first | exact q | (obtain ⟨h0, x_, g1, g2, g3, g4⟩ := q; exact ⟨h0, x_, g1, g2, g3⟩)) (pass x h3 w h2 a h1))
    (fun a h => fun w m a9 ha => wp_seq (wp_skip (pass a h w m a9 ha)))
theorem hgoto1 {α : Type} {l M : Nat} {μ : α → Nat} {R : α → Env} {X1 S1 : α → List Res} {Xr Sr : List Res} {ρ0 : Env} {I : α → Prop} (x : α) (hs : SubB (R x ++ ρ0) ρ) (is : List Nat) {Xz : List Res} (hX : takeR is X = some (X1 x ++ Xr, Xz)) (js : List Nat) (hS : getR js S = some (S1 x ++ Sr)) (hI : I x) (hlt : μ x < M) :
    HQ (Exit.jump l (fun a' w' => ∃ x, Ag N D (R x ++ ρ0) a' ∧ Mem b (X1 x ++ Xr) (S1 x ++ Sr) w' ∧ I x ∧ μ x < M) Q) N D (.goto l) ρ b X S :=
  fun w m a ha => ⟨rfl, x, ha.sub hs.sub, ((m.perm (takeR_perm _ _ _ _ hX)).dropX).subS (getR_sub _ _ _ hS), hI, hlt⟩
theorem hfall1 {α : Type} {l : Nat} {R : α → Env} {X1 S1 : α → List Res} {Xr Sr : List Res} {ρ0 : Env} {I : α → Prop} (x : α) (hs : SubB (R x ++ ρ0) ρ) (is : List Nat) {Xz : List Res} (hX : takeR is X = some (X1 x ++ Xr, Xz)) (js : List Nat) (hS : getR js S = some (S1 x ++ Sr)) (hI : I x) :
    HQ (Exit.jump l (fun a' w' => ∃ x, Ag N D (R x ++ ρ0) a' ∧ Mem b (X1 x ++ Xr) (S1 x ++ Sr) w' ∧ I x) Q) N D (.goto l) ρ b X S :=
  fun w m a ha => ⟨rfl, x, ha.sub hs.sub, ((m.perm (takeR_perm _ _ _ _ hX)).dropX).subS (getR_sub _ _ _ hS), hI⟩
end
end Go.Eng
end
section
/- Contracts: bytes in fewer (layer 5): packing. -/
set_option linter.unusedVariables false
set_option linter.unusedSimpArgs false
set_option maxRecDepth 20000
set_option maxHeartbeats 2000000
namespace Go.Proofs.YtfikjheicjamhaaDoor
open Go.Eng Go.Hx
theorem putC {g0 g1 : Nat} {A1 A2 : Option Addr} {c1 c2 : Nat} {own out : List UInt8} (hlen : out.length + 2 * own.length ≤ 4000000000) : Con Tryd.prog 157 [.pointer (some ⟨g0, 0, none⟩), .pointer (some ⟨g1, 0, none⟩)] [RBlk g0 32 [.slice A1 own.length c1], ROwn 5 1 (.slice A1 own.length c1) own.length (b8s own), RBlk g1 32 [.slice A2 out.length c2], ROwn 5 1 (.slice A2 out.length c2) out.length (b8s out)] [] (fun v_ X_ S_ => ∃ A3 A4 c3 c4, v_ = (.tuple #[]) ∧ X_ = [RBlk g0 32 [.slice A3 0 c3], ROwn 5 1 (.slice A3 0 c3) 0 [], RBlk g1 32 [.slice A4 (out ++ litL own).length c4], ROwn 5 1 (.slice A4 (out ++ litL own).length c4) (out ++ litL own).length (b8s (out ++ litL own))] ∧ S_ = []) := by
  obtain ⟨o0, ho0⟩ : ∃ o0, o0 = out ++ litL own := ⟨_, rfl⟩
  rw [← ho0]
  refine henter (N := 22) Tryd.func157 rfl rfl (by simp) fun b => ?_
  refine hblock <| ?_
  refine hloop6 (fun own out A1 c1 A2 c2 => own.length) (fun own out A1 c1 A2 c2 => []) (fun own out A1 c1 A2 c2 => [RBlk g0 32 [.slice A1 own.length c1], ROwn 5 1 (.slice A1 own.length c1) own.length (b8s own), RBlk g1 32 [.slice A2 out.length c2], ROwn 5 1 (.slice A2 out.length c2) out.length (b8s out)]) (fun own out A1 c1 A2 c2 => []) (fun own out A1 c1 A2 c2 => out.length + 2 * own.length ≤ 4000000000 ∧ out ++ litL own = o0) own out A1 c1 A2 c2 [(0, _), (1, _)] ⟨rfl, rfl, trivial⟩ [0, 0, 0, 0] rfl [] rfl (⟨hlen, ho0.symm⟩) trivial (fun own out A1 c1 A2 c2 ⟨hlen, hE⟩ => ?_)
  refine hseq <| hseq <| hreg <| hy (fun m => y_ld1 rfl ag32 (ld_blk (m.blk 0 rfl) rfl)) <| hy (fun _ => y_lenS rfl Tryd.underlying32) <| hy (fun _ => y_gtr rfl rfl) <| hend <| hsub (ρ' := [(5, _), (0, _), (1, _)]) ⟨rfl, rfl, rfl, trivial⟩ <| hthen <| ?_
  refine hif rfl (fun h0 => ?_) (fun h0 => ?_)
  · have hne : own ≠ [] := fun e => by rw [e] at h0; exact absurd h0 (by decide)
    rw [litL_cons hne] at hE
    obtain ⟨k, hk⟩ : ∃ k, k = min own.length 128 := ⟨_, rfl⟩
    have hk1 : 1 ≤ k ∧ k ≤ 128 ∧ k ≤ own.length := by omega
    rw [← hk] at hE
    have htk : own.take 128 = own.take k := by
      rcases Nat.lt_or_ge own.length 128 with h | h
      · rw [List.take_of_length_le (by omega), List.take_of_length_le (by omega)]
      · rw [show k = 128 by omega]
    have hdk : own.drop 128 = own.drop k := by
      rcases Nat.lt_or_ge own.length 128 with h | h
      · rw [List.drop_of_length_le (by omega), List.drop_of_length_le (by omega)]
      · rw [show k = 128 by omega]
    rw [htk, hdk] at hE
    refine hfactC (fun m => (Own.rd (m.own 1 rfl)).2.1) fun hc1 => ?_
    refine hcskip <| hthen <| hblock <| hseq <| hreg <| hy (fun m => y_ld1 rfl ag32 (ld_blk (m.blk 0 rfl) rfl)) <| hy (fun _ => y_lenS rfl Tryd.underlying32) <| hy (fun _ => yV (y_min rfl rfl) ((show Value.int .i64 _ = .int .i64 (k : Nat) by congr 1; omega))) <| hy (fun _ => y_assign rfl) <| hend <| hsub (ρ' := [(2, _), (5, _), (0, _), (1, _)]) ⟨rfl, rfl, rfl, rfl, trivial⟩ <| hthen <| hseq <| hdrwB [0, 0, 0] [] rfl rfl [4, 5, 9, 10] [(0, some 1), (1, some 3), (2, some 0), (3, some 0), (6, some 2), (7, some 2), (8, some 2), (4, none), (5, none), (9, none), (10, none)] (by kernel_rfl) (by kernel_rfl) rfl 3 <| hty (fun m => y_ld1 rfl ag32 (ld_blk (m.blk 2 rfl) rfl)) <| htyU (y_move rfl) <| htyU (yV (y_sub rfl rfl (w64 (by omega) (by omega))) ((show Value.int .i64 ((k : Int) - 1) = .int .i64 ((k - 1 : Nat) : Int) by congr 1; omega))) <| htyU (yV (y_conv rfl Tryd.underlying3 Tryd.underlying5 (u8mod (k - 1))) ((show Value.int .u8 _ = B8 (UInt8.ofNat (k - 1)) from rfl))) <| hty (fun m => y_ld1 rfl ag32 (ld_blk (m.blk 0 rfl) rfl)) <| htyU (y_move rfl) <| htyU (y_slTo rfl rfl Tryd.underlying32 sz5 rfl (by omega)) <| ?_
    refine htx (xh_bsl Tryd.underlying32 ti5 rfl rfl rfl (by simp [Value.cells, B8]) (by decide) (by decide) (fun g13 => ⟨(fun _ => wk [1, 1, 1] [] rfl rfl), ?_⟩))
    have hA_b13 : 0 < 1 → (some (⟨g13, 0, none⟩ : Addr)) ≠ none := fun _ h => by cases h
    refine htx (xh_app 4 rfl rfl rfl Tryd.underlying32 Tryd.underlying32 (by exact .inl rfl) ti5 rfl (fun m => Src.of_rd (m.ord 0 rfl)) (b8s_one (l := [UInt8.ofNat (k - 1)])) (by unfold maxLen; omega) (by omega) (fun u => ⟨(fun _ => wk [2, 2, 2] [] rfl rfl), ?_⟩))
    refine htfact (fun m => (m.own 0 rfl).slice) ?_
    rintro ⟨A_y, c_y, rfl, hc_y⟩
    refine htfact (fun m => (m.ord 0 rfl).2.1) fun hA_y => ?_
    refine htx (xh_app 0 rfl rfl rfl Tryd.underlying32 Tryd.underlying32 (by exact .inl rfl) ti5 rfl (fun m => Src.of_rd (Rd.takeM (m.ord 3 rfl) hk1.2.2)) b8s_one (by unfold maxLen; omega) (by omega) (fun u2 => ⟨(fun _ => wk [2, 2, 2] [] rfl rfl), ?_⟩))
    refine htfact (fun m => (m.own 0 rfl).slice) ?_
    rintro ⟨A_y2, c_y2, rfl, hc_y⟩
    refine htfact (fun m => (m.ord 0 rfl).2.1) fun hA_y => ?_
    refine htx0 (xh_st1 4 rfl rfl rfl sz32 rfl (by first | exact Nat.le_of_ble_eq_true rfl | simp) ⟨(fun h => absurd h (by decide)), ?_⟩)
    refine htend <| hsub (ρ' := [(2, _), (5, _), (0, _), (1, _)]) ⟨rfl, rfl, rfl, rfl, trivial⟩ <| hmemQ (X' := [_, _, _, _, _]) (S' := []) (fun _ m => m) <| hthen <| hreg <| hy (fun m => y_ld1 rfl ag32 (ld_blk (m.blk 3 rfl) rfl)) <| hy (fun _ => y_move rfl) <| hy (fun _ => y_slFrom rfl rfl Tryd.underlying32 sz5 rfl (by omega)) <| ?_
    refine hx0 (xh_st1 3 rfl rfl rfl sz32 rfl (by first | exact Nat.le_of_ble_eq_true rfl | simp) ?_)
    refine hend <| hsub (ρ' := [(2, _), (5, _), (0, _), (1, _)]) ⟨rfl, rfl, rfl, rfl, trivial⟩ <| hmemQ (X' := [_, _, _, _, _]) (S' := []) (fun _ m => m) <| hqblock <| ?_
    refine hmemQ (X' := ROwn 5 1 (.slice (if c1 = k then A1 else A1.map (·.add (k * 1))) (own.length - k) (c1 - k)) (own.length - k) ((b8s own).drop (k * 1)) :: _) (fun w m => (m.perm (takeR_perm [4] _ [_] _ rfl)).viewX (View.ownDrop hk1.2.2 hc1)) ?_
    have hdl : own.length - k = (own.drop k).length := by rw [List.length_drop]
    have hol : out.length + 1 + k = (out ++ (UInt8.ofNat (k - 1) :: own.take k)).length := by simp; omega
    rw [hdl, hol]
    refine hmemQ (fun w m => m.eqX 0 rfl (show _ = ROwn 5 1 (.slice (if c1 = k then A1 else A1.map (·.add (k * 1))) (own.drop k).length (c1 - k)) (own.drop k).length (b8s (own.drop k)) from congrArg (ROwn _ _ _ _) (by rw [Nat.mul_one, b8s_drop]))) ?_
    refine hmemQ (fun w m => m.eqX 3 rfl (show _ = ROwn 5 1 (.slice A_y2 (out ++ (UInt8.ofNat (k - 1) :: own.take k)).length c_y2) (out ++ (UInt8.ofNat (k - 1) :: own.take k)).length (b8s (out ++ (UInt8.ofNat (k - 1) :: own.take k))) from congrArg (ROwn _ _ _ _) (show b8s out ++ b8s [UInt8.ofNat (k - 1)] ++ b8s (own.take k) = _ by rw [← b8s_append, ← b8s_append, List.append_assoc]; rfl))) ?_
    refine hnext6 (own.drop k) (out ++ (UInt8.ofNat (k - 1) :: own.take k)) _ _ _ _ ⟨rfl, rfl, trivial⟩ [2, 1, 1, 0] rfl [] rfl (⟨by rw [← hdl, ← hol]; omega, by rw [← hE]; simp⟩) (by rw [← hdl]; omega)
  · have hne : own = [] := List.eq_nil_of_length_eq_zero (by omega)
    rw [hne, litL_nil, List.append_nil] at hE
    subst hne
    subst hE
    refine hexit <| hthen_exit <| hthen_exit <| hqblock_exit <| ?_
    exact hret0 trivial rfl [0, 0, 0, 0] rfl [] rfl ⟨_, _, _, _, rfl, rfl, rfl⟩
structure PSt where
  g : Nat
  gm : Nat
  g4 : Nat
  g5 : Nat
  i : Nat
  p : Nat
  c1 : Nat
  c2 : Nat
  A1 : Option Addr
  A2 : Option Addr
  own : List UInt8
  out : List UInt8
  es : Fes
theorem packC {A : Option Addr} {n c : Nat} {l : List UInt8} (hc : n ≤ c) (hn : n ≤ 500000000) (hl : l.length = n) : Con Tryd.prog 139 [.slice A n c] [] [RRd 1 A n (b8s l)] (fun v_ X_ S_ => ∃ v, v_ = v ∧ X_ = [ROwn 5 1 v (packL l).length (b8s (packL l))] ∧ S_ = []) := by
  refine henter (N := 56) Tryd.func139 rfl rfl (by simp) fun b => ?_
  refine hfactC (fun m => rdB (m.rd 0 rfl)) ?_
  rintro ⟨hl_r, hA_r⟩
  refine hseq <| hreg <| hy (fun _ => y_assign rfl) <| hend <| hthen <| ?_
  refine hscopeF1 (l := 0) (fun (t:PSt) => n - t.i) (fun (t:PSt) => [(7, .int .i64 (t.i : Nat)), (3, .pointer (some ⟨t.g, 0, none⟩)), (4, .pointer (some ⟨t.g4, 0, none⟩)), (5, .pointer (some ⟨t.g5, 0, none⟩)), (6, .func (.func 157) #[] #[.pointer (some ⟨t.g5, 0, none⟩), .pointer (some ⟨t.g4, 0, none⟩)])]) (fun (t:PSt) => [RFnd t.g t.gm A n c t.p t.es, RBlk t.g5 32 [.slice t.A1 t.own.length t.c1], ROwn 5 1 (.slice t.A1 t.own.length t.c1) t.own.length (b8s t.own), RBlk t.g4 32 [.slice t.A2 t.out.length t.c2], ROwn 5 1 (.slice t.A2 t.out.length t.c2) t.out.length (b8s t.out)]) (fun (t:PSt) => []) (fun (t:PSt) => t.i ≤ n ∧ t.p ≤ t.i ∧ FOk l t.p t.es ∧ t.out.length + 2 * t.own.length ≤ 2 * t.i ∧ packF l t.i t.own t.out = packL l) [(0, _)] ⟨rfl, trivial⟩ [] rfl rfl (fun t ⟨hin, hpi, hF, hlen, hE⟩ => ?_) (fun hfall_ => ?_)
  · obtain ⟨g, gm, g4, g5, i, p, c1, c2, A1, A2, own, out, es⟩ := t
    dsimp only at hin hpi hF hlen hE ⊢
    refine hseq <| hseq <| hreg <| hy (fun _ => y_move rfl) <| hy (fun _ => y_move rfl) <| hy (fun _ => y_lenS rfl Tryd.underlying32) <| hy (fun _ => y_eql rfl rfl) <| hend <| hsub (ρ' := [(16, _), (7, _), (3, _), (4, _), (5, _), (6, _), (0, _)]) ⟨rfl, rfl, rfl, rfl, rfl, rfl, rfl, trivial⟩ <| hthen <| ?_
    refine hifb rfl (fun hfin => ?_) (fun hfin => ?_)
    · have hi : i = n := by have := of_decide_eq_true hfin; omega
      rw [packF_end (by omega)] at hE
      refine hseq <| hreg <| hy (fun _ => y_move rfl) <| ?_
      refine hx (xh_callv rfl rfl Tryd.call157 (putC (by omega)) [1, 1, 1, 1] rfl [] rfl ?_)
      rintro _ _ _ ⟨A3, A4, c3, c4, rfl, rfl, rfl⟩
      rw [hE]
      refine hend <| hsub (ρ' := [(16, _), (7, _), (3, _), (4, _), (5, _), (6, _), (0, _)]) ⟨rfl, rfl, rfl, rfl, rfl, rfl, rfl, trivial⟩ <| hmemQ (X' := [_, _, _, _, _]) (S' := [_]) (fun _ m => m) <| hthen <| hseq <| hreg <| hy (fun m => y_ld1 rfl ag32 (ld_blk (m.blk 2 rfl) rfl)) <| hy (fun _ => y_assign rfl) <| hend <| hsub (ρ' := [(2, _), (16, _), (7, _), (3, _), (4, _), (5, _), (6, _), (0, _)]) ⟨rfl, rfl, rfl, rfl, rfl, rfl, rfl, rfl, trivial⟩ <| hthen <| hret <| hthen_ret <| hjump_ret <| ?_
      exact hret1 trivial rfl rfl [3] rfl [] rfl ⟨_, rfl, rfl, rfl⟩
    · have hi : i < n := by have := of_decide_eq_false hfin; omega
      refine hcskip <| hthen <| hseq <| hreg <| hy (fun _ => y_move rfl) <| hy (fun _ => y_move rfl) <| ?_
      refine hx (xh_call rfl Tryd.call158 (matchC (by omega) (by omega) hl (by omega) (by omega) hF) [0] rfl [0] rfl ?_)
      rintro _ _ _ ⟨p1, es1, rfl, rfl, rfl, hp⟩
      obtain ⟨hp1, hF1⟩ := hp
      refine hy (fun _ => y_move rfl) <| hy (fun _ => y_extract rfl rfl) <| hy (fun _ => y_extract rfl rfl) <| hy (fun _ => y_assign rfl) <| hy (fun _ => y_assign rfl) <| hend <| hsub (ρ' := [(9, _), (8, _), (16, _), (7, _), (3, _), (4, _), (5, _), (6, _), (0, _)]) ⟨rfl, rfl, rfl, rfl, rfl, rfl, rfl, rfl, rfl, trivial⟩ <| hmemQ (X' := [_, _, _, _, _]) (S' := [_]) (fun _ m => m) <| hthen <| hseq <| hseq <| hreg <| hy (fun _ => y_move rfl) <| hy (fun _ => y_eql rfl rfl) <| hend <| hsub (ρ' := [(27, _), (9, _), (8, _), (16, _), (7, _), (3, _), (4, _), (5, _), (6, _), (0, _)]) ⟨rfl, rfl, rfl, rfl, rfl, rfl, rfl, rfl, rfl, rfl, trivial⟩ <| hthen <| ?_
      refine hif rfl (fun h0 => ?_) (fun h0 => ?_)
      · rw [packF_own (by omega) (by omega)] at hE
        refine hseq <| hdrwB [0, 0, 1, 1] [0] rfl rfl [5, 6, 7] [(0, some 1), (1, some 0), (2, some 0), (3, some 0), (4, some 0), (5, none), (6, none), (7, none)] (by kernel_rfl) (by kernel_rfl) rfl 2 <| hty (fun m => y_ld1 rfl ag32 (ld_blk (m.blk 1 rfl) rfl)) <| htyU (y_move rfl) <| htyU (y_move rfl) <| htyU (y_idxS1 rfl rfl Tryd.underlying32 sz5 hA_r rfl (by omega)) <| hty (fun m => y_ld1 rfl ag5 ((m.rd 0 rfl).cell (b8s_get (by omega)))) <| ?_
        refine htx (xh_bsl Tryd.underlying32 ti5 rfl rfl rfl (by simp [Value.cells, B8]) (by decide) (by decide) (fun g33 => ⟨(fun _ => wk [1, 1, 2, 2] [0] rfl rfl), ?_⟩))
        have hA_b33 : 0 < 1 → (some (⟨g33, 0, none⟩ : Addr)) ≠ none := fun _ h => by cases h
        refine htmem (fun w m => m.eqX 0 rfl (show _ = ROwn 5 1 (.slice (some ⟨g33, 0, none⟩) 1 1) 1 (b8s [l.getD i 0]) from rfl)) ?_
        refine htx (xh_app 3 rfl rfl rfl Tryd.underlying32 Tryd.underlying32 (by exact .inl rfl) ti5 rfl (fun m => Src.of_rd (m.ord 0 rfl)) b8s_one (by unfold maxLen; omega) (by omega) (fun u => ⟨(fun _ => wk [2, 2, 2, 2] [0] rfl rfl), ?_⟩))
        refine htfact (fun m => (m.own 0 rfl).slice) ?_
        rintro ⟨A_x, c_x, rfl, hc_x⟩
        refine htfact (fun m => (m.ord 0 rfl).2.1) fun hA_x => ?_
        refine htx0 (xh_st1 3 rfl rfl rfl sz32 rfl (by first | exact Nat.le_of_ble_eq_true rfl | simp) ⟨(fun h => absurd h (by decide)), ?_⟩)
        refine htend <| hsub (ρ' := [(27, _), (9, _), (8, _), (16, _), (7, _), (3, _), (4, _), (5, _), (6, _), (0, _)]) ⟨rfl, rfl, rfl, rfl, rfl, rfl, rfl, rfl, rfl, rfl, trivial⟩ <| hmemQ (X' := [_, _, _, _, _, _]) (S' := [_]) (fun _ m => m) <| hthen <| hseq <| hreg <| hy (fun _ => y_move rfl) <| hy (fun _ => y_add rfl rfl (w64 (by omega) (by omega))) <| hy (fun _ => y_assign rfl) <| hend <| hsub (ρ' := [(7, _), (27, _), (9, _), (8, _), (16, _), (3, _), (4, _), (5, _), (6, _), (0, _)]) ⟨rfl, rfl, rfl, rfl, rfl, rfl, rfl, rfl, rfl, rfl, trivial⟩ <| hthen <| hcgoto <| hthen_goto <| ?_
        have hol : own.length + 1 = (own ++ [l.getD i 0]).length := by simp
        rw [hol]
        refine hmemQ (fun w m => m.eqX 1 rfl (show _ = ROwn 5 1 (.slice A_x (own ++ [l.getD i 0]).length c_x) (own ++ [l.getD i 0]).length (b8s (own ++ [l.getD i 0])) from congrArg (ROwn _ _ _ _) (b8s_append _ _).symm)) ?_
        exact hgoto1 (⟨g, gm, g4, g5, i + 1, p1, c_x, c2, A_x, A2, own ++ [l.getD i 0], out, es1⟩) ⟨rfl, rfl, rfl, rfl, rfl, rfl, trivial⟩ [3, 1, 0, 1, 1] rfl [0] rfl (⟨hi, Nat.le_succ_of_le hp1, hF1, by show out.length + 2 * (own ++ [l.getD i 0]).length ≤ 2 * (i + 1); rw [← hol]; omega, hE⟩) (by show n - (i + 1) < n - i; omega)
      · have hm := matchL_ok (b := l) (i := i) (by omega)
        rw [packF_match (by omega) (by omega)] at hE
        obtain ⟨m1, m2, m3, m4, m5, m6⟩ := hm.resolve_left (fun e => h0 (by rw [e]; rfl))
        refine hcskip <| hthen <| hseq <| hreg <| hy (fun _ => y_move rfl) <| ?_
        refine hx (xh_callv rfl rfl Tryd.call157 (putC (by omega)) [1, 1, 1, 1] rfl [] rfl ?_)
        rintro _ _ _ ⟨A3, A4, c3, c4, rfl, rfl, rfl⟩
        refine hend <| hsub (ρ' := [(27, _), (9, _), (8, _), (16, _), (7, _), (3, _), (4, _), (5, _), (6, _), (0, _)]) ⟨rfl, rfl, rfl, rfl, rfl, rfl, rfl, rfl, rfl, rfl, trivial⟩ <| hmemQ (X' := [_, _, _, _, _]) (S' := [_]) (fun _ m => m) <| hthen <| hseq <| hreg <| hy (fun m => y_ld1 rfl ag32 (ld_blk (m.blk 2 rfl) rfl)) <| hy (fun _ => y_move rfl) <| hy (fun _ => y_add rfl rfl (w64 (by omega) (by omega))) <| hy (fun _ => yV (y_sub rfl rfl (w64 (by omega) (by omega))) ((show Value.int .i64 (128 + ((matchL l i).1 : Int) - 4) = .int .i64 ((124 + (matchL l i).1 : Nat) : Int) by congr 1; omega))) <| hy (fun _ => yV (y_conv rfl Tryd.underlying3 Tryd.underlying5 (u8mod _)) ((show Value.int .u8 _ = B8 (UInt8.ofNat (124 + (matchL l i).1)) from rfl))) <| hy (fun _ => y_move rfl) <| hy (fun _ => yV (y_sub rfl rfl (w64 (by omega) (by omega))) ((show Value.int .i64 (((matchL l i).2 : Int) - 1) = .int .i64 (((matchL l i).2 - 1 : Nat) : Int) by congr 1; omega))) <| hy (fun _ => yV (y_conv rfl Tryd.underlying3 Tryd.underlying5 (u8mod _)) ((show Value.int .u8 _ = B8 (UInt8.ofNat ((matchL l i).2 - 1)) from rfl))) <| hy (fun _ => y_move rfl) <| hy (fun _ => yV (y_sub rfl rfl (w64 (by omega) (by omega))) ((show Value.int .i64 (((matchL l i).2 : Int) - 1) = .int .i64 (((matchL l i).2 - 1 : Nat) : Int) by congr 1; omega))) <| hy (fun _ => yV (y_shr (p := 256) rfl rfl (by decide) (by decide) (by decide)) ((show Value.int .i64 ((((matchL l i).2 - 1 : Nat) : Int) / 256) = .int .i64 ((((matchL l i).2 - 1) / 256 : Nat) : Int) by congr 1))) <| hy (fun _ => yV (y_conv rfl Tryd.underlying3 Tryd.underlying5 (u8mod _)) ((show Value.int .u8 _ = B8 (UInt8.ofNat (((matchL l i).2 - 1) / 256)) from rfl))) <| ?_
        refine hx (xh_bsl Tryd.underlying32 ti5 rfl rfl rfl (by simp [Value.cells, B8]) (by decide) (by decide) (fun g51 => ?_))
        have hA_b51 : 0 < 3 → (some (⟨g51, 0, none⟩ : Addr)) ≠ none := fun _ h => by cases h
        refine hmemL (fun w m => m.eqX 0 rfl (show _ = ROwn 5 1 (.slice (some ⟨g51, 0, none⟩) 3 3) 3 (b8s (tokM (matchL l i))) from rfl)) ?_
        have hll := litL_length own
        have hlo : (out ++ litL own).length = out.length + (litL own).length := by simp
        refine hx (xh_app 4 rfl rfl rfl Tryd.underlying32 Tryd.underlying32 (by exact .inl rfl) ti5 rfl (fun m => Src.of_rd (m.ord 0 rfl)) b8s_one (by unfold maxLen; omega) (by omega) (fun u => ?_))
        refine hfactL (fun m => (m.own 0 rfl).slice) ?_
        rintro ⟨A_y, c_y, rfl, hc_y⟩
        refine hfactL (fun m => (m.ord 0 rfl).2.1) fun hA_y => ?_
        refine hx0 (xh_st1 4 rfl rfl rfl sz32 rfl (by first | exact Nat.le_of_ble_eq_true rfl | simp) ?_)
        refine hend <| hsub (ρ' := [(27, _), (9, _), (8, _), (16, _), (7, _), (3, _), (4, _), (5, _), (6, _), (0, _)]) ⟨rfl, rfl, rfl, rfl, rfl, rfl, rfl, rfl, rfl, rfl, trivial⟩ <| hmemQ (X' := [_, _, _, _, _, _]) (S' := [_]) (fun _ m => m) <| hthen <| hseq <| hreg <| hy (fun _ => y_move rfl) <| hy (fun _ => y_move rfl) <| hy (fun _ => yV (y_add rfl rfl (w64 (by omega) (by omega))) ((show Value.int .i64 ((i : Int) + ((matchL l i).1 : Int)) = .int .i64 ((i + (matchL l i).1 : Nat) : Int) by congr 1))) <| hy (fun _ => y_assign rfl) <| hend <| hsub (ρ' := [(7, _), (27, _), (9, _), (8, _), (16, _), (3, _), (4, _), (5, _), (6, _), (0, _)]) ⟨rfl, rfl, rfl, rfl, rfl, rfl, rfl, rfl, rfl, rfl, trivial⟩ <| hthen <| hcgoto <| ?_
        have hol : (out ++ litL own).length + 3 = (out ++ litL own ++ tokM (matchL l i)).length := by simp [tokM]; omega
        rw [hol]
        refine hmemQ (fun w m => m.eqX 1 rfl (show _ = ROwn 5 1 (.slice A_y (out ++ litL own ++ tokM (matchL l i)).length c_y) (out ++ litL own ++ tokM (matchL l i)).length (b8s (out ++ litL own ++ tokM (matchL l i))) from congrArg (ROwn _ _ _ _) (b8s_append _ _).symm)) ?_
        exact hgoto1 (⟨g, gm, g4, g5, i + (matchL l i).1, p1, c3, c_y, A3, A_y, [], out ++ litL own ++ tokM (matchL l i), es1⟩) ⟨rfl, rfl, rfl, rfl, rfl, rfl, trivial⟩ [5, 3, 3, 1, 0] rfl [0] rfl (⟨by show i + (matchL l i).1 ≤ n; omega, by show p1 ≤ i + (matchL l i).1; omega, hF1, by show (out ++ litL own ++ tokM (matchL l i)).length + 2 * 0 ≤ 2 * (i + (matchL l i).1); rw [← hol]; omega, hE⟩) (by show n - (i + (matchL l i).1) < n - i; omega)
  · refine hseq <| hreg <| hy (fun _ => y_move rfl) <| ?_
    refine hx (xh_call rfl Tryd.call156 (overC) [] rfl [] rfl ?_)
    rintro _ _ _ ⟨g, gm, rfl, rfl, rfl⟩
    refine hy (fun _ => y_assign rfl) <| hend <| hsub (ρ' := [(3, _), (2, _), (0, _)]) ⟨rfl, rfl, rfl, trivial⟩ <| hmemQ (X' := [_]) (S' := [_]) (fun _ m => m) <| hthen <| hseq <| hreg <| ?_
    refine hx (xh_alloc ti32 (fun g4 => ?_))
    refine hx (xh_alloc ti32 (fun g5 => ?_))
    refine hend <| hmemQ (X' := [_, _, _]) (S' := [_]) (fun _ m => m) <| hthen <| hseq <| hreg <| hy (fun _ => y_mkf rfl rfl) <| hy (fun _ => y_assign rfl) <| hend <| hsub (ρ' := [(6, _), (5, _), (4, _), (3, _), (2, _), (0, _)]) ⟨rfl, rfl, rfl, rfl, rfl, rfl, trivial⟩ <| hthen <| hseq <| hreg <| hy (fun _ => y_assign rfl) <| hend <| hthen <| ?_
    refine hmemC (fun w m => m.eqX 1 rfl (show _ = RBlk g4 32 [.slice none 0 0] from rfl)) ?_
    refine hmemC (fun w m => m.eqX 1 rfl (show _ = RBlk g5 32 [.slice none 0 0] from rfl)) ?_
    refine hmemC (fun w m => m.addX (r' := ROwn 5 1 (.slice none 0 0) 0 []) (.refl _ _) (Own.nil _ _ _ _) (fun k hk => hk.elim)) ?_
    refine hmemC (fun w m => m.addX (r' := ROwn 5 1 (.slice none 0 0) 0 []) (.refl _ _) (Own.nil _ _ _ _) (fun k hk => hk.elim)) ?_
    exact hfallH (hfall1 (R := fun (t:PSt) => [(7, .int .i64 (t.i : Nat)), (3, .pointer (some ⟨t.g, 0, none⟩)), (4, .pointer (some ⟨t.g4, 0, none⟩)), (5, .pointer (some ⟨t.g5, 0, none⟩)), (6, .func (.func 157) #[] #[.pointer (some ⟨t.g5, 0, none⟩), .pointer (some ⟨t.g4, 0, none⟩)])]) (X1 := fun (t:PSt) => [RFnd t.g t.gm A n c t.p t.es, RBlk t.g5 32 [.slice t.A1 t.own.length t.c1], ROwn 5 1 (.slice t.A1 t.own.length t.c1) t.own.length (b8s t.own), RBlk t.g4 32 [.slice t.A2 t.out.length t.c2], ROwn 5 1 (.slice t.A2 t.out.length t.c2) t.out.length (b8s t.out)]) (S1 := fun (t:PSt) => []) (I := fun (t:PSt) => t.i ≤ n ∧ t.p ≤ t.i ∧ FOk l t.p t.es ∧ t.out.length + 2 * t.own.length ≤ 2 * t.i ∧ packF l t.i t.own t.out = packL l) (⟨g, gm, g4, g5, 0, 0, 0, 0, none, none, [], [], []⟩) ⟨rfl, rfl, rfl, rfl, rfl, rfl, trivial⟩ [4, 2, 1, 1, 0] rfl [0] rfl (⟨Nat.zero_le _, Nat.le_refl _, fok_nil _, Nat.le_refl _, rfl⟩)) hfall_
end Go.Proofs.YtfikjheicjamhaaDoor
end
section
/- Contracts: frames (layer 6): sealing, lengths. -/
set_option linter.unusedVariables false
set_option linter.unusedSimpArgs false
set_option maxRecDepth 20000
set_option maxHeartbeats 2000000
namespace Go.Proofs.YtfikjheicjamhaaDoor
open Go.Eng Go.Hx
theorem crcSumC {A : Option Addr} {n c : Nat} {l : List UInt8} (hn : n ≤ 70368744177664) : Con Tryd.prog 117 [.slice A n c] [] [RRd 1 A n (b8s l)] (fun v_ X_ S_ => v_ = (.int .u32 (crcSum l : Nat)) ∧ X_ = [] ∧ S_ = []) := by
  exact con_pure fun m => Calls.mono (crcSum_c A n c l _ (m.rd 0 rfl) (by omega)) (fun e w' ⟨h, hf⟩ => ⟨_, h, ⟨rfl, rfl, rfl⟩, hf⟩)
theorem fnumberC {k : Nat} (hk : k < 4294967296) : Con Tryd.prog 116 [.int .u32 (k : Nat)] [] [] (fun v_ X_ S_ => ∃ v, v_ = v ∧ X_ = [ROwn 5 1 v 4 (b8s (le4 k))] ∧ S_ = []) := by
  refine henter (N := 15) Tryd.func116 rfl rfl (by simp) fun b => ?_
  refine hseq <| hreg <| hy (fun _ => y_assign rfl) <| hend <| hthen <| hseq <| hreg <| hy (fun _ => y_move rfl) <| hy (fun _ => yV (y_conv rfl Tryd.underlying120 Tryd.underlying5 (u8mod _)) ((show Value.int .u8 _ = B8 (UInt8.ofNat k) from rfl))) <| hy (fun _ => y_move rfl) <| hy (fun _ => yV (y_shr (p := 256) rfl rfl (by decide) (by decide) (by decide)) ((show Value.int .u32 ((k : Int) / 256) = .int .u32 ((k / 256 : Nat) : Int) by congr 1))) <| hy (fun _ => yV (y_conv rfl Tryd.underlying120 Tryd.underlying5 (u8mod _)) ((show Value.int .u8 _ = B8 (UInt8.ofNat (k / 256)) from rfl))) <| hy (fun _ => y_move rfl) <| hy (fun _ => yV (y_shr (p := 65536) rfl rfl (by decide) (by decide) (by decide)) ((show Value.int .u32 ((k : Int) / 65536) = .int .u32 ((k / 65536 : Nat) : Int) by congr 1))) <| hy (fun _ => yV (y_conv rfl Tryd.underlying120 Tryd.underlying5 (u8mod _)) ((show Value.int .u8 _ = B8 (UInt8.ofNat (k / 65536)) from rfl))) <| hy (fun _ => y_move rfl) <| hy (fun _ => yV (y_shr (p := 16777216) rfl rfl (by decide) (by decide) (by decide)) ((show Value.int .u32 ((k : Int) / 16777216) = .int .u32 ((k / 16777216 : Nat) : Int) by congr 1))) <| hy (fun _ => yV (y_conv rfl Tryd.underlying120 Tryd.underlying5 (u8mod _)) ((show Value.int .u8 _ = B8 (UInt8.ofNat (k / 16777216)) from rfl))) <| ?_
  refine hx (xh_bsl Tryd.underlying32 ti5 rfl rfl rfl (by simp [Value.cells, B8]) (by decide) (by decide) (fun g14 => ?_))
  have hA_b14 : 0 < 4 → (some (⟨g14, 0, none⟩ : Addr)) ≠ none := fun _ h => by cases h
  refine hy (fun _ => y_assign rfl) <| hend <| hsub (ρ' := [(2, _), (0, _)]) ⟨rfl, rfl, trivial⟩ <| hmemQ (X' := [_]) (S' := []) (fun _ m => m) <| hthen <| hret <| ?_
  refine hmemQ (fun w m => m.eqX 0 rfl (show _ = ROwn 5 1 (.slice (some ⟨g14, 0, none⟩) 4 4) 4 (b8s (le4 k)) from rfl)) ?_
  exact hret1 trivial rfl rfl [0] rfl [] rfl ⟨_, rfl, rfl, rfl⟩
theorem sealC {A : Option Addr} {n c : Nat} {l : List UInt8} (hc : n ≤ c) (hn : n ≤ 100000000) (hl : l.length = n) : Con Tryd.prog 95 [.slice A n c] [] [RRd 1 A n (b8s l)] (fun v_ X_ S_ => ∃ v, v_ = v ∧ X_ = [ROwn 5 1 v (sealL l).length (b8s (sealL l))] ∧ S_ = []) := by
  have hpl := packL_length l
  have hlt : n < 4294967296 := by omega
  have hcl := crcSum_lt l
  refine henter (N := 31) Tryd.func95 rfl rfl (by simp) fun b => ?_
  refine hfactC (fun m => rdB (m.rd 0 rfl)) ?_
  rintro ⟨hl_r, hA_r⟩
  refine hseq <| hreg <| hy (fun _ => y_assign rfl) <| hend <| hthen <| hseq <| hreg <| hy (fun _ => y_move rfl) <| hy (fun _ => y_assign rfl) <| hy (fun _ => y_assign rfl) <| hend <| hsub (ρ' := [(4, _), (3, _), (2, _), (0, _)]) ⟨rfl, rfl, rfl, rfl, trivial⟩ <| hthen <| hseq <| hseq <| hreg <| hy (fun _ => y_move rfl) <| ?_
  refine hx (xh_call rfl Tryd.call139 (packC (by omega) (by omega) (by omega)) [] rfl [0] rfl ?_)
  rintro _ _ _ ⟨v, rfl, rfl, rfl⟩
  refine hfactL (fun m => (m.own 0 rfl).slice) ?_
  rintro ⟨A_y, c_y, rfl, hc_y⟩
  refine hfactL (fun m => (m.ord 0 rfl).2.1) fun hA_y => ?_
  refine hy (fun _ => y_assign rfl) <| hend <| hsub (ρ' := [(5, _), (4, _), (3, _), (2, _), (0, _)]) ⟨rfl, rfl, rfl, rfl, rfl, trivial⟩ <| hmemQ (X' := [_]) (S' := [_]) (fun _ m => m) <| hthen <| hseq <| hreg <| hy (fun _ => y_move rfl) <| hy (fun _ => y_lenS rfl Tryd.underlying32) <| hy (fun _ => y_move rfl) <| hy (fun _ => y_lenS rfl Tryd.underlying32) <| hy (fun _ => y_lss rfl rfl) <| hend <| hsub (ρ' := [(14, _), (5, _), (4, _), (3, _), (2, _), (0, _)]) ⟨rfl, rfl, rfl, rfl, rfl, rfl, trivial⟩ <| hthen <| ?_
  refine hif rfl (fun hp => ?_) (fun hp => ?_)
  · have hq : sealL l = [76, 1] ++ le4 l.length ++ packL l ++ le4 (crcSum l) := by
      have : pkd l = true := by unfold pkd; exact decide_eq_true (by omega)
      unfold sealL fbody
      rw [this]; rfl
    refine hreg <| hy (fun _ => y_move rfl) <| hy (fun _ => y_assign rfl) <| hy (fun _ => y_assign rfl) <| hend <| hsub (ρ' := [(4, _), (3, _), (14, _), (5, _), (2, _), (0, _)]) ⟨rfl, rfl, rfl, rfl, rfl, rfl, trivial⟩ <| hthen <| hseq <| hreg <| hy (fun _ => y_move rfl) <| ?_
    refine hx (xh_bsl Tryd.underlying32 ti5 rfl rfl rfl (by simp [Value.cells, B8]) (by decide) (by decide) (fun g17 => ?_))
    have hA_b17 : 0 < 2 → (some (⟨g17, 0, none⟩ : Addr)) ≠ none := fun _ h => by cases h
    refine hy (fun _ => y_move rfl) <| hy (fun _ => y_lenS rfl Tryd.underlying32) <| hy (fun _ => y_conv rfl Tryd.underlying3 Tryd.underlying120 (w32 (by omega) (by omega))) <| ?_
    refine hx (xh_call rfl Tryd.call116 (fnumberC (by omega)) [] rfl [] rfl ?_)
    rintro _ _ _ ⟨v2, rfl, rfl, rfl⟩
    refine hfactL (fun m => (m.own 0 rfl).slice) ?_
    rintro ⟨A_x, c_x, rfl, hc_x⟩
    refine hfactL (fun m => (m.ord 0 rfl).2.1) fun hA_x => ?_
    refine hmemL (fun w m => m.eqX 1 rfl (show _ = ROwn 5 1 (.slice (some ⟨g17, 0, none⟩) 2 2) 2 (b8s [76, 1]) from rfl)) ?_
    refine hx (xh_app 0 rfl rfl rfl Tryd.underlying32 Tryd.underlying32 (by exact .inl rfl) ti5 rfl (fun m => Src.of_rd (m.ord 1 rfl)) b8s_one (by unfold maxLen; omega) (by omega) (fun u => ?_))
    refine hfactL (fun m => (m.own 0 rfl).slice) ?_
    rintro ⟨A_b17, c_b17, rfl, hc_b17⟩
    refine hfactL (fun m => (m.ord 0 rfl).2.1) fun hA_b17 => ?_
    refine hy (fun _ => y_assign rfl) <| hend <| hsub (ρ' := [(6, _), (4, _), (3, _), (14, _), (5, _), (2, _), (0, _)]) ⟨rfl, rfl, rfl, rfl, rfl, rfl, rfl, trivial⟩ <| hmemQ (X' := [_, _, _]) (S' := [_]) (fun _ m => m) <| hthen <| hseq <| hreg <| hy (fun _ => y_move rfl) <| hy (fun _ => y_move rfl) <| ?_
    refine hx (xh_app 0 rfl rfl rfl Tryd.underlying32 Tryd.underlying32 (by exact .inl rfl) ti5 rfl (fun m => Src.of_rd (m.ord 2 rfl)) b8s_one (by unfold maxLen; omega) (by omega) (fun u2 => ?_))
    refine hfactL (fun m => (m.own 0 rfl).slice) ?_
    rintro ⟨A_b172, c_b172, rfl, hc_b17⟩
    refine hfactL (fun m => (m.ord 0 rfl).2.1) fun hA_b17 => ?_
    refine hy (fun _ => y_assign rfl) <| hend <| hsub (ρ' := [(6, _), (4, _), (3, _), (14, _), (5, _), (2, _), (0, _)]) ⟨rfl, rfl, rfl, rfl, rfl, rfl, rfl, trivial⟩ <| hmemQ (X' := [_, _, _]) (S' := [_]) (fun _ m => m) <| hthen <| hseq <| hreg <| hy (fun _ => y_move rfl) <| hy (fun _ => y_move rfl) <| ?_
    refine hx (xh_call rfl Tryd.call117 (crcSumC (by omega)) [] rfl [0] rfl ?_)
    rintro _ _ _ ⟨rfl, rfl, rfl⟩
    refine hx (xh_call rfl Tryd.call116 (fnumberC (by omega)) [] rfl [] rfl ?_)
    rintro _ _ _ ⟨v3, rfl, rfl, rfl⟩
    refine hfactL (fun m => (m.own 0 rfl).slice) ?_
    rintro ⟨A_x2, c_x2, rfl, hc_x2⟩
    refine hfactL (fun m => (m.ord 0 rfl).2.1) fun hA_x2 => ?_
    refine hx (xh_app 1 rfl rfl rfl Tryd.underlying32 Tryd.underlying32 (by exact .inl rfl) ti5 rfl (fun m => Src.of_rd (m.ord 0 rfl)) b8s_one (by unfold maxLen; omega) (by omega) (fun u3 => ?_))
    refine hfactL (fun m => (m.own 0 rfl).slice) ?_
    rintro ⟨A_b173, c_b173, rfl, hc_b17⟩
    refine hfactL (fun m => (m.ord 0 rfl).2.1) fun hA_b17 => ?_
    refine hy (fun _ => y_assign rfl) <| hend <| hsub (ρ' := [(2, _), (6, _), (4, _), (3, _), (14, _), (5, _), (0, _)]) ⟨rfl, rfl, rfl, rfl, rfl, rfl, rfl, trivial⟩ <| hmemQ (X' := [_, _, _, _]) (S' := [_]) (fun _ m => m) <| hthen <| hret <| ?_
    have hol : 2 + 4 + (packL l).length + 4 = (sealL l).length := by rw [hq]; simp [le4_length, hl]; try omega
    rw [hol]
    have hsl : b8s [76, 1] ++ b8s (le4 n) ++ b8s (packL l) ++ b8s (le4 (crcSum l)) = b8s (sealL l) := by rw [hq, hl, b8s_append, b8s_append, b8s_append]
    rw [hsl]
    exact hret1 trivial rfl rfl [0] rfl [] rfl ⟨_, rfl, rfl, rfl⟩
  · have hq : sealL l = [76, 0] ++ le4 l.length ++ l ++ le4 (crcSum l) := by
      have : pkd l = false := by unfold pkd; exact decide_eq_false (by omega)
      unfold sealL fbody
      rw [this]; rfl
    refine hcskip <| hthen <| hseq <| hreg <| hy (fun _ => y_move rfl) <| ?_
    refine hx (xh_bsl Tryd.underlying32 ti5 rfl rfl rfl (by simp [Value.cells, B8]) (by decide) (by decide) (fun g17 => ?_))
    have hA_b17 : 0 < 2 → (some (⟨g17, 0, none⟩ : Addr)) ≠ none := fun _ h => by cases h
    refine hy (fun _ => y_move rfl) <| hy (fun _ => y_lenS rfl Tryd.underlying32) <| hy (fun _ => y_conv rfl Tryd.underlying3 Tryd.underlying120 (w32 (by omega) (by omega))) <| ?_
    refine hx (xh_call rfl Tryd.call116 (fnumberC (by omega)) [] rfl [] rfl ?_)
    rintro _ _ _ ⟨v2, rfl, rfl, rfl⟩
    refine hfactL (fun m => (m.own 0 rfl).slice) ?_
    rintro ⟨A_x, c_x, rfl, hc_x⟩
    refine hfactL (fun m => (m.ord 0 rfl).2.1) fun hA_x => ?_
    refine hmemL (fun w m => m.eqX 1 rfl (show _ = ROwn 5 1 (.slice (some ⟨g17, 0, none⟩) 2 2) 2 (b8s [76, 0]) from rfl)) ?_
    refine hx (xh_app 0 rfl rfl rfl Tryd.underlying32 Tryd.underlying32 (by exact .inl rfl) ti5 rfl (fun m => Src.of_rd (m.ord 1 rfl)) b8s_one (by unfold maxLen; omega) (by omega) (fun u => ?_))
    refine hfactL (fun m => (m.own 0 rfl).slice) ?_
    rintro ⟨A_b17, c_b17, rfl, hc_b17⟩
    refine hfactL (fun m => (m.ord 0 rfl).2.1) fun hA_b17 => ?_
    refine hy (fun _ => y_assign rfl) <| hend <| hsub (ρ' := [(6, _), (14, _), (5, _), (4, _), (3, _), (2, _), (0, _)]) ⟨rfl, rfl, rfl, rfl, rfl, rfl, rfl, trivial⟩ <| hmemQ (X' := [_, _, _]) (S' := [_]) (fun _ m => m) <| hthen <| hseq <| hreg <| hy (fun _ => y_move rfl) <| hy (fun _ => y_move rfl) <| ?_
    refine hx (xh_app 0 rfl rfl rfl Tryd.underlying32 Tryd.underlying32 (by exact .inl rfl) ti5 rfl (fun m => Src.of_rd (m.rd 0 rfl)) b8s_one (by unfold maxLen; omega) (by omega) (fun u2 => ?_))
    refine hfactL (fun m => (m.own 0 rfl).slice) ?_
    rintro ⟨A_b172, c_b172, rfl, hc_b17⟩
    refine hfactL (fun m => (m.ord 0 rfl).2.1) fun hA_b17 => ?_
    refine hy (fun _ => y_assign rfl) <| hend <| hsub (ρ' := [(6, _), (14, _), (5, _), (4, _), (3, _), (2, _), (0, _)]) ⟨rfl, rfl, rfl, rfl, rfl, rfl, rfl, trivial⟩ <| hmemQ (X' := [_, _, _]) (S' := [_]) (fun _ m => m) <| hthen <| hseq <| hreg <| hy (fun _ => y_move rfl) <| hy (fun _ => y_move rfl) <| ?_
    refine hx (xh_call rfl Tryd.call117 (crcSumC (by omega)) [] rfl [0] rfl ?_)
    rintro _ _ _ ⟨rfl, rfl, rfl⟩
    refine hx (xh_call rfl Tryd.call116 (fnumberC (by omega)) [] rfl [] rfl ?_)
    rintro _ _ _ ⟨v3, rfl, rfl, rfl⟩
    refine hfactL (fun m => (m.own 0 rfl).slice) ?_
    rintro ⟨A_x2, c_x2, rfl, hc_x2⟩
    refine hfactL (fun m => (m.ord 0 rfl).2.1) fun hA_x2 => ?_
    refine hx (xh_app 1 rfl rfl rfl Tryd.underlying32 Tryd.underlying32 (by exact .inl rfl) ti5 rfl (fun m => Src.of_rd (m.ord 0 rfl)) b8s_one (by unfold maxLen; omega) (by omega) (fun u3 => ?_))
    refine hfactL (fun m => (m.own 0 rfl).slice) ?_
    rintro ⟨A_b173, c_b173, rfl, hc_b17⟩
    refine hfactL (fun m => (m.ord 0 rfl).2.1) fun hA_b17 => ?_
    refine hy (fun _ => y_assign rfl) <| hend <| hsub (ρ' := [(2, _), (6, _), (14, _), (5, _), (4, _), (3, _), (0, _)]) ⟨rfl, rfl, rfl, rfl, rfl, rfl, rfl, trivial⟩ <| hmemQ (X' := [_, _, _, _]) (S' := [_]) (fun _ m => m) <| hthen <| hret <| ?_
    have hol : 2 + 4 + n + 4 = (sealL l).length := by rw [hq]; simp [le4_length, hl]; try omega
    rw [hol]
    have hsl : b8s [76, 0] ++ b8s (le4 n) ++ b8s l ++ b8s (le4 (crcSum l)) = b8s (sealL l) := by rw [hq, hl, b8s_append, b8s_append, b8s_append]
    rw [hsl]
    exact hret1 trivial rfl rfl [0] rfl [] rfl ⟨_, rfl, rfl, rfl⟩
theorem lenF_none {f : List UInt8} (h : f.length < 10 ∨ f.getD 0 0 ≠ 76 ∨ 1 < (f.getD 1 0).toNat) : lenF f = none := by unfold lenF; rw [if_pos h]
theorem lenF_some {f : List UInt8} (h : ¬ (f.length < 10 ∨ f.getD 0 0 ≠ 76 ∨ 1 < (f.getD 1 0).toNat)) : lenF f = some (num4 (f.drop 2)) := by unfold lenF; rw [if_neg h]
theorem lengthC {A : Option Addr} {n c : Nat} {f : List UInt8} (hc : n ≤ c) (hn : n ≤ 1000000000) (hl : f.length = n) : Con Tryd.prog 111 [.slice A n c] [] [RRd 1 A n (b8s f)] (fun v_ X_ S_ => v_ = (.tuple #[.int .i64 (((lenF f).getD 0 : Nat) : Int), .int .i64 (if (lenF f).isSome then 0 else 2)]) ∧ X_ = [] ∧ S_ = []) := by
  have b0 := (f.getD 0 0).toNat_lt
  have b1 := (f.getD 1 0).toNat_lt
  refine henter (N := 34) Tryd.func111 rfl rfl (by simp) fun b => ?_
  refine hfactC (fun m => rdB (m.rd 0 rfl)) ?_
  rintro ⟨hl_r, hA_r⟩
  refine hseq <| hreg <| hy (fun _ => y_assign rfl) <| hy (fun _ => y_assign rfl) <| hend <| hthen <| hseq <| hseq <| hreg <| hy (fun _ => y_move rfl) <| hy (fun _ => y_lenS rfl Tryd.underlying32) <| hy (fun _ => y_lss rfl rfl) <| hy (fun _ => y_move rfl) <| ?_
  refine hsplit 9 rfl (fun h1 => ?_) (fun h1 => ?_)
  · refine hskip rfl rfl rfl (by decide) <| hskip rfl rfl rfl (by decide) <| hskip rfl rfl rfl (by decide) <| hskip rfl rfl rfl (by decide) <| hy (fun _ => y_pickT rfl rfl) <| hy (fun _ => y_move rfl) <| ?_
    rw [lenF_none (.inl (by omega))]
    refine hskip rfl rfl rfl (by decide) <| hskip rfl rfl rfl (by decide) <| hskip rfl rfl rfl (by decide) <| hskip rfl rfl rfl (by decide) <| hy (fun _ => y_pickT rfl rfl) <| hend <| hsub (ρ' := [(20, _), (3, _), (2, _), (0, _)]) ⟨rfl, rfl, rfl, rfl, trivial⟩ <| hthen <| ?_
    refine hift rfl (rfl) ?_
    refine hseq <| hreg <| hy (fun _ => y_assign rfl) <| hy (fun _ => y_assign rfl) <| hend <| hthen <| hret <| hthen_ret <| ?_
    exact hret2 trivial rfl rfl rfl [] rfl [] rfl ⟨rfl, rfl, rfl⟩
  · refine hyg (o := _) rfl rfl rfl (fun _ => y_move rfl) <| hyg (o := _) rfl rfl rfl (fun _ => y_idxS1 rfl rfl Tryd.underlying32 sz5 hA_r (show ((0 : Nat) : Int) = 0 from rfl) (by omega)) <| hyg (o := _) rfl rfl rfl (fun m => y_ld1 rfl ag5 ((m.rd 0 rfl).cell (b8s_get (by omega)))) <| hyg (o := _) rfl rfl rfl (fun _ => y_neq rfl rfl) <| hy (fun _ => y_pickF rfl rfl) <| hy (fun _ => y_move rfl) <| ?_
    refine hsplit 15 rfl (fun h2 => ?_) (fun h2 => ?_)
    · rw [lenF_none (.inr (.inl (fun e => h2 (by rw [e]; rfl))))]
      refine hskip rfl rfl rfl (by decide) <| hskip rfl rfl rfl (by decide) <| hskip rfl rfl rfl (by decide) <| hskip rfl rfl rfl (by decide) <| hy (fun _ => y_pickT rfl rfl) <| hend <| hsub (ρ' := [(20, _), (3, _), (2, _), (0, _)]) ⟨rfl, rfl, rfl, rfl, trivial⟩ <| hthen <| ?_
      refine hift rfl (rfl) ?_
      refine hseq <| hreg <| hy (fun _ => y_assign rfl) <| hy (fun _ => y_assign rfl) <| hend <| hthen <| hret <| hthen_ret <| ?_
      exact hret2 trivial rfl rfl rfl [] rfl [] rfl ⟨rfl, rfl, rfl⟩
    · refine hyg (o := _) rfl rfl rfl (fun _ => y_move rfl) <| hyg (o := _) rfl rfl rfl (fun _ => y_idxS1 rfl rfl Tryd.underlying32 sz5 hA_r (show ((1 : Nat) : Int) = 1 from rfl) (by omega)) <| hyg (o := _) rfl rfl rfl (fun m => y_ld1 rfl ag5 ((m.rd 0 rfl).cell (b8s_get (by omega)))) <| hyg (o := _) rfl rfl rfl (fun _ => y_gtr rfl rfl) <| hy (fun _ => y_pickF rfl rfl) <| hend <| hsub (ρ' := [(20, _), (3, _), (2, _), (0, _)]) ⟨rfl, rfl, rfl, rfl, trivial⟩ <| hthen <| ?_
      refine hif rfl (fun h3 => ?_) (fun h3 => ?_)
      · rw [lenF_none (.inr (.inr (by omega)))]
        refine hseq <| hreg <| hy (fun _ => y_assign rfl) <| hy (fun _ => y_assign rfl) <| hend <| hthen <| hret <| hthen_ret <| ?_
        exact hret2 trivial rfl rfl rfl [] rfl [] rfl ⟨rfl, rfl, rfl⟩
      · have h2' : f.getD 0 0 = 76 := UInt8.toNat_inj.1 (by have := Decidable.not_not.1 h2; show _ = 76; omega)
        rw [lenF_some (by rintro (q | q | q); omega; exact q h2'; omega)]
        refine hcskip <| hthen <| hseq <| hreg <| hy (fun _ => y_assign rfl) <| hend <| hthen <| hseq <| hseq <| hreg <| hy (fun _ => y_assign rfl) <| hend <| hthen <| hblock <| ?_
        refine hloop1 (fun j => 4 - j) (fun j => [(4, .int .i64 ((acc ((f.drop 2).take 4) j : Nat) : Int)), (5, .int .i64 (5 - (j : Int)))]) (fun j => []) (fun j => []) (fun j => j ≤ 4) 0 [(20, _), (3, _), (2, _), (0, _)] ⟨rfl, rfl, rfl, rfl, trivial⟩ [] rfl [] rfl (Nat.zero_le _) ⟨rfl, rfl, trivial⟩ (fun j hI => ?_)
        refine hseq <| hseq <| hreg <| hy (fun _ => y_move rfl) <| hy (fun _ => y_gtr rfl rfl) <| hend <| hsub (ρ' := [(22, _), (4, _), (5, _), (20, _), (3, _), (2, _), (0, _)]) ⟨rfl, rfl, rfl, rfl, rfl, rfl, rfl, trivial⟩ <| hthen <| ?_
        refine hif rfl (fun hj => ?_) (fun hj => ?_)
        · have hl4 : ((f.drop 2).take 4).length = 4 := by rw [List.length_take, List.length_drop]; omega
          have hac := acc_le ((f.drop 2).take 4) (show j ≤ 4 by omega)
          have hby : (((f.drop 2).take 4).getD (3 - j) 0).toNat < 256 := UInt8.toNat_lt _
          have hget : f.getD (5 - j) 0 = ((f.drop 2).take 4).getD (3 - j) 0 := by
            simp only [List.getD, List.getElem?_take, List.getElem?_drop]
            rw [if_pos (by omega), show 2 + (3 - j) = 5 - j by omega]
          refine hcskip <| hthen <| hseq <| hblock <| hreg <| hy (fun _ => y_move rfl) <| hy (fun _ => y_shl (p := 256) rfl rfl (by decide) (by decide) (by decide) (w64 (by omega) (by omega))) <| hy (fun _ => y_move rfl) <| hy (fun _ => y_move rfl) <| hy (fun _ => y_idxS1 rfl rfl Tryd.underlying32 sz5 hA_r (show ((5 - j : Nat) : Int) = _ by omega) (by omega)) <| hy (fun m => yV (y_ld1 rfl ag5 ((m.rd 0 rfl).cell (b8s_get (by omega)))) ((show B8 (f.getD (5 - j) 0) = B8 (((f.drop 2).take 4).getD (3 - j) 0) by rw [hget]))) <| hy (fun _ => y_conv rfl Tryd.underlying5 Tryd.underlying3 (wb8 _)) <| hy (fun _ => y_bits (by simp) rfl rfl (or_byte _ _ hac hby)) <| hy (fun _ => y_assign rfl) <| hend <| hsub (ρ' := [(4, _), (22, _), (5, _), (20, _), (3, _), (2, _), (0, _)]) ⟨rfl, rfl, rfl, rfl, rfl, rfl, rfl, trivial⟩ <| hqblock <| hthen <| hreg <| hy (fun _ => y_move rfl) <| hy (fun _ => yV (y_sub rfl rfl (w64 (by omega) (by omega))) ((show Value.int .i64 ((5 - (j : Int)) - 1) = .int .i64 (5 - ((j + 1 : Nat) : Int)) by congr 1; omega))) <| hy (fun _ => y_assign rfl) <| hend <| hsub (ρ' := [(5, _), (4, _), (22, _), (20, _), (3, _), (2, _), (0, _)]) ⟨rfl, rfl, rfl, rfl, rfl, rfl, rfl, trivial⟩ <| ?_
          refine hnext1 (j + 1) ⟨rfl, rfl, rfl, rfl, rfl, rfl, trivial⟩ [] rfl [0] rfl (by omega) (by omega)
        · obtain rfl : j = 4 := by omega
          have e4 : acc ((f.drop 2).take 4) 4 = num4 (f.drop 2) := by
            rw [acc4]
            have hx : ∀ q : Nat, q < 4 → ((f.drop 2).take 4).getD q 0 = (f.drop 2).getD q 0 := fun q hq => by simp only [List.getD, List.getElem?_take, if_pos hq]
            unfold num4
            rw [hx 0 (by decide), hx 1 (by decide), hx 2 (by decide), hx 3 (by decide)]
          rw [e4]
          refine hexit <| hthen_exit <| hthen_exit <| hqblock_exit <| hthen <| hseq <| hreg <| hy (fun _ => y_move rfl) <| hy (fun _ => y_assign rfl) <| hy (fun _ => y_assign rfl) <| hend <| hsub (ρ' := [(3, _), (2, _), (22, _), (4, _), (5, _), (20, _), (0, _)]) ⟨rfl, rfl, rfl, rfl, rfl, rfl, rfl, trivial⟩ <| hthen <| hret <| ?_
          exact hret2 trivial rfl rfl rfl [] rfl [] rfl ⟨rfl, rfl, rfl⟩
theorem packedC {A : Option Addr} {n c : Nat} {f : List UInt8} (hc : n ≤ c) (hn : n ≤ 1000000000) (hl : f.length = n) : Con Tryd.prog 113 [.slice A n c] [] [RRd 1 A n (b8s f)] (fun v_ X_ S_ => v_ = (.bool (decide ((lenF f).isSome ∧ f.getD 1 0 = 1))) ∧ X_ = [] ∧ S_ = []) := by
  refine henter (N := 18) Tryd.func113 rfl rfl (by simp) fun b => ?_
  refine hfactC (fun m => rdB (m.rd 0 rfl)) ?_
  rintro ⟨hl_r, hA_r⟩
  refine hseq <| hreg <| hy (fun _ => y_assign rfl) <| hend <| hthen <| hseq <| hreg <| hy (fun _ => y_move rfl) <| ?_
  refine hx (xh_call rfl Tryd.call111 (lengthC (by omega) (by omega) (by omega)) [] rfl [0] rfl ?_)
  rintro _ _ _ ⟨rfl, rfl, rfl⟩
  refine hy (fun _ => y_move rfl) <| hy (fun _ => y_extract rfl rfl) <| hy (fun _ => y_extract rfl rfl) <| hy (fun _ => y_assign rfl) <| hy (fun _ => y_assign rfl) <| hend <| hsub (ρ' := [(4, _), (2, _), (0, _)]) ⟨rfl, rfl, rfl, trivial⟩ <| hmemQ (X' := []) (S' := [_]) (fun _ m => m) <| hthen <| hseq <| hreg <| hy (fun _ => y_move rfl) <| hy (fun _ => y_eql rfl rfl) <| hy (fun _ => y_move rfl) <| ?_
  refine hsplit 12 rfl (fun hs => ?_) (fun hs => ?_)
  · have hs1 : (lenF f).isSome = true := by
      cases h : (lenF f).isSome with
      | true => rfl
      | false => rw [h] at hs; exact absurd hs (by decide)
    have hn10 : ¬ n < 10 := fun h => by rw [lenF_none (.inl (by omega))] at hs1; cases hs1
    have hd : decide ((lenF f).isSome ∧ f.getD 1 0 = 1) = decide (((f.getD 1 0).toNat : Int) = 1) := decide_eq_decide.2 ⟨fun h => by rw [h.2]; rfl, fun h => ⟨hs1, UInt8.toNat_inj.1 (by show _ = 1; omega)⟩⟩
    rw [hd]
    refine hyg (o := _) rfl rfl rfl (fun _ => y_move rfl) <| hyg (o := _) rfl rfl rfl (fun _ => y_idxS1 rfl rfl Tryd.underlying32 sz5 hA_r (show ((1 : Nat) : Int) = 1 from rfl) (by omega)) <| hyg (o := _) rfl rfl rfl (fun m => y_ld1 rfl ag5 ((m.rd 0 rfl).cell (b8s_get (by omega)))) <| hyg (o := _) rfl rfl rfl (fun _ => y_eql rfl rfl) <| hy (fun _ => y_pickT rfl rfl) <| hy (fun _ => y_assign rfl) <| hend <| hsub (ρ' := [(2, _), (4, _), (0, _)]) ⟨rfl, rfl, rfl, trivial⟩ <| hthen <| hret <| ?_
    exact hret1 trivial rfl rfl [] rfl [] rfl ⟨rfl, rfl, rfl⟩
  · have hd : decide ((lenF f).isSome ∧ f.getD 1 0 = 1) = false := decide_eq_false fun h => hs (by rw [h.1]; rfl)
    rw [hd]
    refine hskip rfl rfl rfl (by decide) <| hskip rfl rfl rfl (by decide) <| hskip rfl rfl rfl (by decide) <| hskip rfl rfl rfl (by decide) <| hy (fun _ => y_pickF rfl rfl) <| hy (fun _ => y_assign rfl) <| hend <| hsub (ρ' := [(2, _), (4, _), (0, _)]) ⟨rfl, rfl, rfl, trivial⟩ <| hthen <| hret <| ?_
    exact hret1 trivial rfl rfl [] rfl [] rfl ⟨rfl, rfl, rfl⟩
end Go.Proofs.YtfikjheicjamhaaDoor
end
section
/- Contracts: frames (layer 6): what gives a frame up, and what recovers it. -/
set_option linter.unusedVariables false
set_option linter.unusedSimpArgs false
set_option maxRecDepth 20000
set_option maxHeartbeats 2000000
namespace Go.Proofs.YtfikjheicjamhaaDoor
open Go.Eng Go.Hx
theorem one1 {v : Value} (h : v.oneCell' = true := by rfl) : ∀ u ∈ [v], u.oneCell' = true := fun u hu => by rw [List.mem_singleton.1 hu]; exact h
theorem mustE {q : Bool} {e : Int} : ConE Tryd.prog 112 [.bool q, .int .i64 e] [] [] (fun v_ X_ S_ => v_ = (.tuple #[]) ∧ X_ = [] ∧ S_ = [] ∧ (q = true)) (fun v_ X_ S_ => v_ = (.iface 177 (.agg #[.int .i64 e])) ∧ X_ = [] ∧ S_ = [] ∧ (q = false)) := by
  refine henterE (N := 9) Tryd.func112 rfl rfl (by simp) fun b => ?_
  refine hseq <| hreg <| hy (fun _ => y_move rfl) <| hy (fun _ => (y_not rfl)) <| hend <| hsub (ρ' := [(5, _), (0, _), (1, _)]) ⟨rfl, rfl, rfl, trivial⟩ <| hthen <| ?_
  refine hifb rfl (fun hq => ?_) (fun hq => ?_)
  · refine hreg <| hy (fun _ => y_move rfl) <| hy (fun _ => y_build ti177 rfl rfl (by kernel_rfl) (.cons (o := 0) (sz := 1) (by kernel_rfl) rfl rfl (Nat.le_of_ble_eq_true rfl) .nil)) <| hy (fun _ => y_mki rfl Tryd.underlying177 (fun _ h => by cases h)) <| ?_
    refine hx0 (xh_panic rfl ?_)
    exact hpanE [] rfl [] rfl ⟨rfl, rfl, rfl, (by simpa using hq)⟩
  · refine hcskip <| ?_
    refine hretE ?_
    exact hret0 trivial rfl [] rfl [] rfl ⟨rfl, rfl, rfl, (by simpa using hq)⟩
theorem openCatch {g4 g5 : Nat} {v : Value} {e0 e : Int} : ConD Tryd.prog 110 [.pointer (some ⟨g4, 0, none⟩), .pointer (some ⟨g5, 0, none⟩)] (.panicking (pan (.iface 177 (.agg #[.int .i64 e])))) [RBlk g4 32 [v], RBlk g5 33 [.int .i64 e0]] [] (fun u_ X_ S_ => u_ = .returning ∧ X_ = [RBlk g4 32 [.slice none 0 0], RBlk g5 33 [.int .i64 e]] ∧ S_ = []) := by
  refine henterS (N := 12) Tryd.func110 rfl rfl (by simp) fun b c_0 cs_ hu_ => ?_
  show HSL _ _ _ _ _ [0, 1, 2, 3, 4, 5, 6, 7] _ _ _ _ _
  refine hsl_rec rfl hu_ ?_
  refine hsl_y rfl (fun _ => y_tas rfl (run_tasS Tryd.underlying177)) <| hsl_y rfl (fun _ => y_move rfl) <| hsl_y rfl (fun _ => y_extract rfl rfl) <| hsl_y rfl (fun _ => y_extract rfl rfl) <| ?_
  refine hsl_x rfl (xh_alloc ti177 (fun g2 => ?_))
  refine hsl_x0 rfl (xh_stA 0 rfl rfl rfl sz177 rfl one1 rfl ?_)
  refine hslmem (fun w m => m.eqX 0 rfl (show _ = RBlk g2 177 [.int .i64 e] from rfl)) ?_
  refine hsl_y rfl (fun _ => y_assign rfl) <| hsl_done <| hmemC (X' := [_, _, _]) (S' := []) (fun _ m => m) <| hseq <| hreg <| hy (fun _ => y_move rfl) <| hend <| hsub (ρ' := [(9, _), (3, _), (2, _), (0, _), (1, _)]) ⟨rfl, rfl, rfl, rfl, rfl, trivial⟩ <| hthen <| ?_
  refine hift rfl (rfl) ?_
  refine hdrwB [0] [] rfl rfl [2, 3] [(0, some 1), (1, some 1), (2, none), (3, none)] (by kernel_rfl) (by kernel_rfl) rfl 99 <| htyU (y_fld rfl fa177_0 (by decide)) <| hty (fun m => y_ld1 rfl ag33 (ld_blk (m.blk 0 rfl) (i := 0) rfl)) <| ?_
  refine htx0 (xh_st1 1 rfl rfl rfl sz32 rfl (by first | exact Nat.le_of_ble_eq_true rfl | simp) ⟨(fun _ => wk [1] [] rfl rfl), ?_⟩)
  refine htx0 (xh_st1 2 rfl rfl rfl sz33 rfl (by first | exact Nat.le_of_ble_eq_true rfl | simp) ⟨(fun _ => wk [2] [] rfl rfl), ?_⟩)
  refine htend <| hsub (ρ' := [(9, _), (3, _), (2, _), (0, _), (1, _)]) ⟨rfl, rfl, rfl, rfl, rfl, trivial⟩ <| hmemQ (X' := [_, _, _]) (S' := []) (fun _ m => m) <| ?_
  exact hret0 trivial rfl [1, 0] rfl [] rfl ⟨rfl, rfl, rfl, rfl⟩
theorem openIdle {g4 g5 : Nat} {v : Value} {e : Int} : ConD Tryd.prog 110 [.pointer (some ⟨g4, 0, none⟩), .pointer (some ⟨g5, 0, none⟩)] .returning [RBlk g4 32 [v], RBlk g5 33 [.int .i64 e]] [] (fun u_ X_ S_ => u_ = .returning ∧ X_ = [RBlk g4 32 [v], RBlk g5 33 [.int .i64 e]] ∧ S_ = []) := by
  refine henterS (N := 12) Tryd.func110 rfl rfl (by simp) fun b c_0 cs_ hu_ => ?_
  show HSL _ _ _ _ _ [0, 1, 2, 3, 4, 5, 6, 7] _ _ _ _ _
  refine hsl_rec0 rfl hu_ ?_
  refine hsl_y rfl (fun _ => y_tas rfl (run_tas0 Tryd.underlying177 ti177)) <| hsl_y rfl (fun _ => y_move rfl) <| hsl_y rfl (fun _ => y_extract rfl rfl) <| hsl_y rfl (fun _ => y_extract rfl rfl) <| ?_
  refine hsl_x rfl (xh_alloc ti177 (fun g2 => ?_))
  refine hsl_x0 rfl (xh_stA 0 rfl rfl rfl sz177 rfl one1 rfl ?_)
  refine hsl_y rfl (fun _ => y_assign rfl) <| hsl_done <| hmemC (X' := [_, _, _]) (S' := []) (fun _ m => m) <| hseq <| hreg <| hy (fun _ => y_move rfl) <| hend <| hsub (ρ' := [(9, _), (3, _), (2, _), (0, _), (1, _)]) ⟨rfl, rfl, rfl, rfl, rfl, trivial⟩ <| hthen <| ?_
  refine hiff rfl (rfl) ?_
  refine hcskip <| ?_
  exact hret0 trivial rfl [1, 1] rfl [] rfl ⟨rfl, rfl, rfl, rfl⟩
end Go.Proofs.YtfikjheicjamhaaDoor
end
section
/- Contracts: lz.token, lz.Unpack (layer 5). -/
set_option linter.unusedVariables false
set_option linter.unusedSimpArgs false
set_option maxRecDepth 20000
set_option maxHeartbeats 2000000
namespace Go.Proofs.YtfikjheicjamhaaDoor
open Go.Eng Go.Hx
theorem tokenC {A : Option Addr} {n c : Nat} {l : List UInt8} (h0 : 0 < n) (hn : n ≤ 140737488351232) : Con Tryd.prog 145 [.slice A n c] [] [RRd 1 A n (b8s l)] (fun v_ X_ S_ => v_ = (.tuple #[.int .i64 ((tokL l).1 : Nat), .int .i64 ((tokL l).2.1 : Nat), .int .i64 ((tokL l).2.2.1 : Nat), .bool (tokL l).2.2.2]) ∧ X_ = [] ∧ S_ = []) := by
  have b0 := (l.getD 0 0).toNat_lt
  have b1 := (l.getD 1 0).toNat_lt
  have b2 := (l.getD 2 0).toNat_lt
  refine henter (N := 39) Tryd.func145 rfl rfl (by simp) fun b => ?_
  refine hfactC (fun m => rdB (m.rd 0 rfl)) ?_
  rintro ⟨hl_r, hA_r⟩
  refine hseq <| hreg <| hy (fun _ => y_assign rfl) <| hy (fun _ => y_assign rfl) <| hy (fun _ => y_assign rfl) <| hy (fun _ => y_assign rfl) <| hend <| hthen <| hseq <| hreg <| hy (fun _ => y_move rfl) <| hy (fun _ => y_idxS1 rfl rfl Tryd.underlying32 sz5 hA_r (show ((0 : Nat) : Int) = 0 from rfl) (by omega)) <| hy (fun m => y_ld1 rfl ag5 ((m.rd 0 rfl).cell (b8s_get (by omega)))) <| hy (fun _ => y_conv rfl Tryd.underlying5 Tryd.underlying3 (w64 (by omega) (by omega))) <| hy (fun _ => y_assign rfl) <| hend <| hsub (ρ' := [(6, _), (5, _), (4, _), (3, _), (2, _), (0, _)]) ⟨rfl, rfl, rfl, rfl, rfl, rfl, trivial⟩ <| hthen <| hseq <| hseq <| hreg <| hy (fun _ => y_move rfl) <| hy (fun _ => y_lss rfl rfl) <| hend <| hsub (ρ' := [(12, _), (6, _), (5, _), (4, _), (3, _), (2, _), (0, _)]) ⟨rfl, rfl, rfl, rfl, rfl, rfl, rfl, trivial⟩ <| hthen <| ?_
  refine hif rfl (fun h1 => ?_) (fun h1 => ?_)
  · have e : tokL l = ((l.getD 0 0).toNat + 2, (l.getD 0 0).toNat + 1, 0, decide ((l.getD 0 0).toNat + 2 ≤ l.length)) := by rw [tokL, if_pos (by omega)]
    rw [e]
    refine hseq <| hreg <| hy (fun _ => y_move rfl) <| hy (fun _ => y_add rfl rfl (w64 (by omega) (by omega))) <| hy (fun _ => y_move rfl) <| hy (fun _ => y_add rfl rfl (w64 (by omega) (by omega))) <| hy (fun _ => y_move rfl) <| hy (fun _ => y_lenS rfl Tryd.underlying32) <| hy (fun _ => y_move rfl) <| hy (fun _ => y_add rfl rfl (w64 (by omega) (by omega))) <| hy (fun _ => yV (y_geq rfl rfl) ((congrArg Value.bool (decide_eq_decide.2 (by omega)) : Value.bool (decide ((n : Int) ≥ ((l.getD 0 0).toNat : Int) + 2)) = .bool (decide ((l.getD 0 0).toNat + 2 ≤ l.length))))) <| hy (fun _ => y_assign rfl) <| hy (fun _ => y_assign rfl) <| hy (fun _ => y_assign rfl) <| hy (fun _ => y_assign rfl) <| hend <| hsub (ρ' := [(5, _), (4, _), (3, _), (2, _), (12, _), (6, _), (0, _)]) ⟨rfl, rfl, rfl, rfl, rfl, rfl, rfl, trivial⟩ <| hthen <| hret <| hthen_ret <| ?_
    exact hret4 trivial rfl rfl rfl rfl rfl [] rfl [] rfl ⟨rfl, rfl, rfl⟩
  · refine hcskip <| hthen <| hseq <| hseq <| hreg <| hy (fun _ => y_move rfl) <| hy (fun _ => y_lenS rfl Tryd.underlying32) <| hy (fun _ => y_lss rfl rfl) <| hend <| hsub (ρ' := [(24, _), (12, _), (6, _), (5, _), (4, _), (3, _), (2, _), (0, _)]) ⟨rfl, rfl, rfl, rfl, rfl, rfl, rfl, rfl, trivial⟩ <| hthen <| ?_
    refine hif rfl (fun h3 => ?_) (fun h3 => ?_)
    · have e : tokL l = (0, 0, 0, false) := by rw [tokL, if_neg (by omega), if_pos (by omega)]
      rw [e]
      refine hseq <| hreg <| hy (fun _ => y_assign rfl) <| hy (fun _ => y_assign rfl) <| hy (fun _ => y_assign rfl) <| hy (fun _ => y_assign rfl) <| hend <| hthen <| hret <| hthen_ret <| ?_
      exact hret4 trivial rfl rfl rfl rfl rfl [] rfl [] rfl ⟨rfl, rfl, rfl⟩
    · have e : tokL l = (3, (l.getD 0 0).toNat - 124, 1 + (l.getD 1 0).toNat + 256 * (l.getD 2 0).toNat, true) := by rw [tokL, if_neg (by omega), if_neg (by omega)]
      rw [e]
      refine hcskip <| hthen <| hseq <| hdrw [] [(0, some 0), (1, some 0), (2, some 0), (3, some 0), (4, some 0), (5, some 0), (6, some 0), (7, some 0), (8, some 0), (9, some 0), (10, some 0), (11, some 0), (12, some 0), (13, some 0), (14, some 0), (15, some 0), (16, some 0), (17, some 0)] (by kernel_rfl) (by kernel_rfl) rfl 99 <| htyU (y_move rfl) <| htyU (y_sub rfl rfl (w64 (by omega) (by omega))) <| htyU (yV (y_add rfl rfl (w64 (by omega) (by omega))) ((show Value.int .i64 (((l.getD 0 0).toNat : Int) - 128 + 4) = .int .i64 (((l.getD 0 0).toNat - 124 : Nat) : Int) by congr 1; omega))) <| htyU (y_move rfl) <| htyU (y_idxS1 rfl rfl Tryd.underlying32 sz5 hA_r (show ((1 : Nat) : Int) = 1 from rfl) (by omega)) <| hty (fun m => y_ld1 rfl ag5 ((m.rd 0 rfl).cell (b8s_get (by omega)))) <| htyU (y_conv rfl Tryd.underlying5 Tryd.underlying3 (w64 (by omega) (by omega))) <| htyU (y_add rfl rfl (w64 (by omega) (by omega))) <| htyU (y_move rfl) <| htyU (y_idxS1 rfl rfl Tryd.underlying32 sz5 hA_r (show ((2 : Nat) : Int) = 2 from rfl) (by omega)) <| hty (fun m => y_ld1 rfl ag5 ((m.rd 0 rfl).cell (b8s_get (by omega)))) <| htyU (y_conv rfl Tryd.underlying5 Tryd.underlying3 (w64 (by omega) (by omega))) <| htyU (y_shl (p := 256) rfl rfl (by decide) (by decide) (by decide) (w64 (by omega) (by omega))) <| htyU (yV (y_add rfl rfl (w64 (by omega) (by omega))) ((show Value.int .i64 (1 + ((l.getD 1 0).toNat : Int) + ((l.getD 2 0).toNat : Int) * 256) = .int .i64 ((1 + (l.getD 1 0).toNat + 256 * (l.getD 2 0).toNat : Nat) : Int) by congr 1; omega))) <| htyU (y_assign rfl) <| htyU (y_assign rfl) <| htyU (y_assign rfl) <| htyU (y_assign rfl) <| htend <| hsub (ρ' := [(5, _), (4, _), (3, _), (2, _), (24, _), (12, _), (6, _), (0, _)]) ⟨rfl, rfl, rfl, rfl, rfl, rfl, rfl, rfl, trivial⟩ <| hthen <| hret <| ?_
      exact hret4 trivial rfl rfl rfl rfl rfl [] rfl [] rfl ⟨rfl, rfl, rfl⟩
theorem unpackC {A : Option Addr} {c : Nat} {l : List UInt8} {z : Int} (hc : l.length ≤ c) (hn : l.length ≤ 10000000) (hz : z ≤ 10000000) : Con Tryd.prog 114 [.slice A l.length c, .int .i64 z] [] [RRd 1 A l.length (b8s l)] (fun v_ X_ S_ => ∃ v, v_ = (.tuple #[v, .int .i64 (unp z l []).2]) ∧ X_ = [ROwn 5 1 v (unp z l []).1.length (b8s (unp z l []).1)] ∧ S_ = []) := by
  refine henter (N := 66) Tryd.func114 rfl rfl (by simp) fun b => ?_
  refine hfactC (fun m => rdB (m.rd 0 rfl)) ?_
  rintro ⟨hl_r, hA_r⟩
  refine hseq <| hreg <| hy (fun _ => y_assign rfl) <| hy (fun _ => y_assign rfl) <| hend <| hthen <| hseq <| hreg <| hy (fun _ => y_assign rfl) <| hend <| hthen <| hseq <| hblock <| ?_
  refine hmemC (fun w m => m.addX (r' := ROwn 5 1 (.slice none 0 0) 0 []) (.refl _ _) (Own.nil _ _ _ _) (fun k hk => hk.elim)) ?_
  refine hloop6 (fun p o A2 c2 A3 c3 => p.length) (fun p o A2 c2 A3 c3 => [(0, .slice A2 p.length c2), (6, .slice A3 o.length c3)]) (fun p o A2 c2 A3 c3 => [ROwn 5 1 (.slice A3 o.length c3) o.length (b8s o)]) (fun p o A2 c2 A3 c3 => [RRd 1 A2 p.length (b8s p)]) (fun p o A2 c2 A3 c3 => p.length ≤ c2 ∧ p.length ≤ 10000000 ∧ o.length ≤ 10000000 ∧ unp z p o = unp z l []) l [] A c none 0 [(1, _)] ⟨rfl, trivial⟩ [0] rfl [0] rfl (⟨hc, hn, by decide, rfl⟩) ⟨rfl, rfl, trivial⟩ (fun p o A2 c2 A3 c3 ⟨hpc, hpn, hon, hU⟩ => ?_)
  refine hseq <| hseq <| hreg <| hy (fun _ => y_move rfl) <| hy (fun _ => y_lenS rfl Tryd.underlying32) <| hy (fun _ => y_gtr rfl rfl) <| hend <| hsub (ρ' := [(14, _), (0, _), (6, _), (1, _)]) ⟨rfl, rfl, rfl, rfl, trivial⟩ <| hthen <| ?_
  refine hif rfl (fun hlt => ?_) (fun hlt => ?_)
  · have hp0 : p ≠ [] := fun e => by rw [e] at hlt; exact absurd hlt (by decide)
    obtain ⟨ht1, ht2⟩ := tokL_n p
    refine hcskip <| hthen <| hblock <| hseq <| hreg <| hy (fun _ => y_move rfl) <| ?_
    refine hx (xh_call rfl Tryd.call145 (tokenC (by omega) (by omega)) [] rfl [0] rfl ?_)
    rintro _ _ _ ⟨rfl, rfl, rfl⟩
    refine hy (fun _ => y_move rfl) <| hy (fun _ => y_extract rfl rfl) <| hy (fun _ => y_extract rfl rfl) <| hy (fun _ => y_extract rfl rfl) <| hy (fun _ => y_extract rfl rfl) <| hy (fun _ => y_assign rfl) <| hy (fun _ => y_assign rfl) <| hy (fun _ => y_assign rfl) <| hy (fun _ => y_assign rfl) <| hend <| hsub (ρ' := [(10, _), (9, _), (8, _), (7, _), (14, _), (0, _), (6, _), (1, _)]) ⟨rfl, rfl, rfl, rfl, rfl, rfl, rfl, rfl, trivial⟩ <| hmemQ (X' := [_]) (S' := [_, _]) (fun _ m => m) <| hthen <| hseq <| hseq <| hreg <| hy (fun _ => y_move rfl) <| hy (fun _ => (y_not rfl)) <| hy (fun _ => y_move rfl) <| ?_
    refine hsplitb 24 rfl (fun hw => ?_) (fun hw => ?_)
    · rw [unp_bad hp0 (fun h => by rw [h.1] at hw; cases hw)] at hU
      rw [← hU]
      refine hskip rfl rfl rfl (by decide) <| hskip rfl rfl rfl (by decide) <| hskip rfl rfl rfl (by decide) <| hskip rfl rfl rfl (by decide) <| hy (fun _ => y_pickT rfl rfl) <| hend <| hsub (ρ' := [(29, _), (10, _), (9, _), (8, _), (7, _), (14, _), (0, _), (6, _), (1, _)]) ⟨rfl, rfl, rfl, rfl, rfl, rfl, rfl, rfl, rfl, trivial⟩ <| hthen <| ?_
      refine hift rfl (rfl) ?_
      refine hseq <| hreg <| hy (fun _ => y_assign rfl) <| hy (fun _ => y_assign rfl) <| hend <| hthen <| hret <| hthen_ret <| hqblock_ret <| hthen_ret <| hqblock_ret <| hthen_ret <| ?_
      refine hmemQ (fun w m => m.addX (r' := ROwn 5 1 (.slice none 0 0) 0 []) (.refl _ _) (Own.nil _ _ _ _) (fun k hk => hk.elim)) ?_
      exact hret2 trivial rfl rfl rfl [0] rfl [] rfl ⟨_, rfl, rfl, rfl⟩
    · have hw1 : (tokL p).2.2.2 = true := by simpa using hw
      refine hyg (o := _) rfl rfl rfl (fun _ => y_move rfl) <| hyg (o := _) rfl rfl rfl (fun _ => y_move rfl) <| hyg (o := _) rfl rfl rfl (fun _ => y_lenS rfl Tryd.underlying32) <| hyg (o := _) rfl rfl rfl (fun _ => y_gtr rfl rfl) <| hy (fun _ => y_pickF rfl rfl) <| hend <| hsub (ρ' := [(29, _), (10, _), (9, _), (8, _), (7, _), (14, _), (0, _), (6, _), (1, _)]) ⟨rfl, rfl, rfl, rfl, rfl, rfl, rfl, rfl, rfl, trivial⟩ <| hthen <| ?_
      refine hif rfl (fun hd => ?_) (fun hd => ?_)
      · rw [unp_bad hp0 (fun h => by omega)] at hU
        rw [← hU]
        refine hseq <| hreg <| hy (fun _ => y_assign rfl) <| hy (fun _ => y_assign rfl) <| hend <| hthen <| hret <| hthen_ret <| hqblock_ret <| hthen_ret <| hqblock_ret <| hthen_ret <| ?_
        refine hmemQ (fun w m => m.addX (r' := ROwn 5 1 (.slice none 0 0) 0 []) (.refl _ _) (Own.nil _ _ _ _) (fun k hk => hk.elim)) ?_
        exact hret2 trivial rfl rfl rfl [0] rfl [] rfl ⟨_, rfl, rfl, rfl⟩
      · have hd1 : (tokL p).2.2.1 ≤ o.length := by omega
        refine hcskip <| hthen <| hseq <| hseq <| hreg <| hy (fun _ => y_move rfl) <| hy (fun _ => y_lenS rfl Tryd.underlying32) <| hy (fun _ => y_move rfl) <| hy (fun _ => y_add rfl rfl (w64 (by omega) (by omega))) <| hy (fun _ => y_move rfl) <| hy (fun _ => y_gtr rfl rfl) <| hend <| hsub (ρ' := [(35, _), (29, _), (10, _), (9, _), (8, _), (7, _), (14, _), (0, _), (6, _), (1, _)]) ⟨rfl, rfl, rfl, rfl, rfl, rfl, rfl, rfl, rfl, rfl, trivial⟩ <| hthen <| ?_
        refine hif rfl (fun hm => ?_) (fun hm => ?_)
        · rw [unp_far hp0 hw1 hd1 (by omega)] at hU
          rw [← hU]
          refine hseq <| hreg <| hy (fun _ => y_assign rfl) <| hy (fun _ => y_assign rfl) <| hend <| hthen <| hret <| hthen_ret <| hqblock_ret <| hthen_ret <| hqblock_ret <| hthen_ret <| ?_
          refine hmemQ (fun w m => m.addX (r' := ROwn 5 1 (.slice none 0 0) 0 []) (.refl _ _) (Own.nil _ _ _ _) (fun k hk => hk.elim)) ?_
          exact hret2 trivial rfl rfl rfl [0] rfl [] rfl ⟨_, rfl, rfl, rfl⟩
        · rw [unp_go hp0 hw1 hd1 (by omega)] at hU
          obtain ⟨hs2, hs3⟩ := tokL_size hw1
          have hml := made_length (o := o) hw1
          have hmn : (made p o).length ≤ 10000000 := by omega
          have hdl : p.length - (tokL p).1 = (p.drop (tokL p).1).length := by rw [List.length_drop]
          generalize hsz : (tokL p).1 = sz at hs2 hs3 hU hdl ⊢
          refine hcskip <| hthen <| hseq <| hseq <| hreg <| hy (fun _ => y_move rfl) <| hy (fun _ => y_eql rfl rfl) <| hend <| hsub (ρ' := [(37, _), (35, _), (29, _), (10, _), (9, _), (8, _), (7, _), (14, _), (0, _), (6, _), (1, _)]) ⟨rfl, rfl, rfl, rfl, rfl, rfl, rfl, rfl, rfl, rfl, rfl, trivial⟩ <| hthen <| ?_
          refine hif rfl (fun hz0 => ?_) (fun hz0 => ?_)
          · have hd0 : (tokL p).2.2.1 = 0 := by omega
            have hma : made p o = o ++ (p.drop 1).take (sz - 1) := by rw [made, if_pos hd0, hsz]
            refine hmemC (fun w m => m.asV 0 rfl (View.sub (n := p.length) (c := c2) (k := 1) (m := sz - 1) (by omega) (by omega))) ?_
            refine hfactC (fun m => rdB (m.rd 0 rfl)) ?_
            rintro ⟨hl_q, hA_q⟩
            refine hreg <| hy (fun _ => y_move rfl) <| hy (fun _ => y_move rfl) <| hy (fun _ => y_move rfl) <| hy (fun _ => y_slBoth rfl rfl rfl Tryd.underlying32 sz5 (show ((1 : Nat) : Int) = 1 from rfl) (rfl : ((sz : Nat) : Int) = _) (by omega) (by omega)) <| ?_
            refine hx (xh_app 0 rfl rfl rfl Tryd.underlying32 Tryd.underlying32 (by exact .inl rfl) ti5 rfl (fun m => Src.of_rd (m.rd 0 rfl)) b8s_one (by unfold maxLen; omega) (by omega) (fun u => ?_))
            refine hfactL (fun m => (m.own 0 rfl).slice) ?_
            rintro ⟨A_x, c_x, rfl, hc_x⟩
            refine hfactL (fun m => (m.ord 0 rfl).2.1) fun hA_x => ?_
            have hlm : o.length + (sz - 1) = (made p o).length := by rw [hma, List.length_append, List.length_take, List.length_drop]; omega
            rw [hlm] at hc_x hA_x ⊢
            refine hmemL (fun w m => m.eqX 0 rfl (show _ = ROwn 5 1 (.slice A_x (made p o).length c_x) (made p o).length (b8s (made p o)) from congrArg (ROwn _ _ _ _) (by rw [hma, b8s_append]))) ?_
            refine hy (fun _ => y_assign rfl) <| hend <| hsub (ρ' := [(6, _), (37, _), (35, _), (29, _), (10, _), (9, _), (8, _), (7, _), (14, _), (0, _), (1, _)]) ⟨rfl, rfl, rfl, rfl, rfl, rfl, rfl, rfl, rfl, rfl, rfl, trivial⟩ <| hmemQ (X' := [_]) (S' := [_, _, _]) (fun _ m => m) <| hthen <| hseq <| hseq <| hreg <| hy (fun _ => y_assign rfl) <| hend <| hthen <| hblock <| ?_
            refine hloop1 (fun k2 => 1) (fun k2 => [(11, .int .i64 (k2 : Nat)), (6, .slice A_x (made p o).length c_x)]) (fun k2 => [ROwn 5 1 (.slice A_x (made p o).length c_x) (made p o).length (b8s (made p o))]) (fun k2 => []) (fun k2 => True) 0 [(37, _), (35, _), (29, _), (10, _), (9, _), (8, _), (7, _), (14, _), (0, _), (1, _)] ⟨rfl, rfl, rfl, rfl, rfl, rfl, rfl, rfl, rfl, rfl, trivial⟩ [0] rfl [] rfl (trivial) ⟨rfl, rfl, trivial⟩ (fun k2 _ => ?_)
            refine hseq <| hseq <| hreg <| hy (fun _ => y_move rfl) <| hy (fun _ => yF (y_gtr rfl rfl) ((decide_eq_false (by omega)))) <| hy (fun _ => y_move rfl) <| hskip rfl rfl rfl (by decide) <| hskip rfl rfl rfl (by decide) <| hskip rfl rfl rfl (by decide) <| hy (fun _ => y_pickF rfl rfl) <| hend <| hsub (ρ' := [(49, _), (11, _), (6, _), (37, _), (35, _), (29, _), (10, _), (9, _), (8, _), (7, _), (14, _), (0, _), (1, _)]) ⟨rfl, rfl, rfl, rfl, rfl, rfl, rfl, rfl, rfl, rfl, rfl, rfl, rfl, trivial⟩ <| hthen <| ?_
            refine hiff rfl (rfl) ?_
            refine hmemC (fun w m => m.asV 1 rfl (View.drop (n := p.length) (c := c2) (k := sz) (by omega) (by omega))) ?_
            refine hfactC (fun m => rdB (m.rd 0 rfl)) ?_
            rintro ⟨hl_p2, hA_p2⟩
            refine hexit <| hthen_exit <| hthen_exit <| hqblock_exit <| hthen <| hreg <| hy (fun _ => y_move rfl) <| hy (fun _ => y_move rfl) <| hy (fun _ => y_slFrom rfl rfl Tryd.underlying32 sz5 rfl (by omega)) <| hy (fun _ => y_assign rfl) <| hend <| hsub (ρ' := [(0, _), (49, _), (11, _), (6, _), (37, _), (35, _), (29, _), (10, _), (9, _), (8, _), (7, _), (14, _), (1, _)]) ⟨rfl, rfl, rfl, rfl, rfl, rfl, rfl, rfl, rfl, rfl, rfl, rfl, rfl, trivial⟩ <| hqblock <| ?_
            rw [hdl]
            refine hnext6 (p.drop sz) (made p o) _ (c2 - sz) A_x c_x ⟨rfl, rfl, rfl, trivial⟩ [0] rfl [0, 3] rfl (⟨by rw [← hdl]; omega, by rw [← hdl]; omega, hmn, hU⟩) (by rw [← hdl]; omega)
          · have hd0 : 0 < (tokL p).2.2.1 := by omega
            have hma : made p o = again (tokL p).2.2.1 (tokL p).2.1 o := by rw [made, if_neg (by omega)]
            generalize hdd : (tokL p).2.2.1 = dd at *
            generalize hnn : (tokL p).2.1 = nn at *
            refine hcskip <| hthen <| hseq <| hseq <| hreg <| hy (fun _ => y_assign rfl) <| hend <| hthen <| hblock <| ?_
            refine hloop4 (fun k2 o2 A4 c4 => nn - k2) (fun k2 o2 A4 c4 => [(11, .int .i64 (k2 : Nat)), (6, .slice A4 o2.length c4)]) (fun k2 o2 A4 c4 => [ROwn 5 1 (.slice A4 o2.length c4) o2.length (b8s o2)]) (fun k2 o2 A4 c4 => []) (fun k2 o2 A4 c4 => k2 ≤ nn ∧ o2.length = o.length + k2 ∧ again dd (nn - k2) o2 = made p o) 0 o A3 c3 [(37, _), (35, _), (29, _), (10, _), (9, _), (8, _), (7, _), (14, _), (0, _), (1, _)] ⟨rfl, rfl, rfl, rfl, rfl, rfl, rfl, rfl, rfl, rfl, trivial⟩ [0] rfl [] rfl (⟨Nat.zero_le _, rfl, hma.symm⟩) ⟨rfl, rfl, trivial⟩ (fun k2 o2 A4 c4 ⟨hk2, ho2, hag⟩ => ?_)
            refine hseq <| hseq <| hreg <| hy (fun _ => y_move rfl) <| hy (fun _ => yT (y_gtr rfl rfl) ((decide_eq_true (by omega)))) <| hy (fun _ => y_move rfl) <| hyg (o := _) rfl rfl rfl (fun _ => y_move rfl) <| hyg (o := _) rfl rfl rfl (fun _ => y_move rfl) <| hyg (o := _) rfl rfl rfl (fun _ => y_lss rfl rfl) <| hy (fun _ => y_pickT rfl rfl) <| hend <| hsub (ρ' := [(49, _), (11, _), (6, _), (37, _), (35, _), (29, _), (10, _), (9, _), (8, _), (7, _), (14, _), (0, _), (1, _)]) ⟨rfl, rfl, rfl, rfl, rfl, rfl, rfl, rfl, rfl, rfl, rfl, rfl, rfl, trivial⟩ <| hthen <| ?_
            refine hif rfl (fun hkn => ?_) (fun hkn => ?_)
            · have hag2 : again dd (nn - (k2 + 1)) (o2 ++ [o2.getD (o2.length - dd) 0]) = made p o := by
                rw [← hag, show nn - k2 = (nn - (k2 + 1)) + 1 by omega]
                rfl
              refine hfactC (fun m => (m.ord 0 rfl).2.1) fun hA4 => ?_
              refine hcskip <| hthen <| hseq <| hblock <| hreg <| hy (fun _ => y_move rfl) <| hy (fun _ => y_move rfl) <| hy (fun _ => y_move rfl) <| hy (fun _ => y_lenS rfl Tryd.underlying32) <| hy (fun _ => y_move rfl) <| hy (fun _ => y_sub rfl rfl (w64 (by omega) (by omega))) <| hy (fun _ => y_idxS1 rfl rfl Tryd.underlying32 sz5 hA4 (show ((o2.length - dd : Nat) : Int) = _ by omega) (by omega)) <| hy (fun m => y_ld1 rfl ag5 ((m.ord 0 rfl).cell (b8s_get (by omega)))) <| ?_
              refine hx (xh_bsl Tryd.underlying32 ti5 rfl rfl rfl (by simp [Value.cells, B8]) (by decide) (by decide) (fun g60 => ?_))
              have hA_b60 : 0 < 1 → (some (⟨g60, 0, none⟩ : Addr)) ≠ none := fun _ h => by cases h
              refine hmemL (fun w m => m.eqX 0 rfl (show _ = ROwn 5 1 (.slice (some ⟨g60, 0, none⟩) 1 1) 1 (b8s [o2.getD (o2.length - dd) 0]) from rfl)) ?_
              refine hx (xh_app 1 rfl rfl rfl Tryd.underlying32 Tryd.underlying32 (by exact .inl rfl) ti5 rfl (fun m => Src.of_rd (m.ord 0 rfl)) b8s_one (by unfold maxLen; omega) (by omega) (fun u => ?_))
              refine hfactL (fun m => (m.own 0 rfl).slice) ?_
              rintro ⟨A_x, c_x, rfl, hc_x⟩
              refine hfactL (fun m => (m.ord 0 rfl).2.1) fun hA_x => ?_
              refine hmemL (fun w m => m.eqX 0 rfl (show _ = ROwn 5 1 (.slice A_x (o2.length + 1) c_x) (o2.length + 1) (b8s (o2 ++ [o2.getD (o2.length - dd) 0])) from congrArg (ROwn _ _ _ _) (b8s_append _ _).symm)) ?_
              have hl1 : o2.length + 1 = (o2 ++ [o2.getD (o2.length - dd) 0]).length := by simp
              rw [hl1] at hc_x hA_x ⊢
              refine hy (fun _ => y_assign rfl) <| hend <| hsub (ρ' := [(6, _), (49, _), (11, _), (37, _), (35, _), (29, _), (10, _), (9, _), (8, _), (7, _), (14, _), (0, _), (1, _)]) ⟨rfl, rfl, rfl, rfl, rfl, rfl, rfl, rfl, rfl, rfl, rfl, rfl, rfl, trivial⟩ <| hmemQ (X' := [_, _]) (S' := [_, _]) (fun _ m => m) <| hqblock <| hthen <| hreg <| hy (fun _ => y_move rfl) <| hy (fun _ => y_add rfl rfl (w64 (by omega) (by omega))) <| hy (fun _ => y_assign rfl) <| hend <| hsub (ρ' := [(11, _), (6, _), (49, _), (37, _), (35, _), (29, _), (10, _), (9, _), (8, _), (7, _), (14, _), (0, _), (1, _)]) ⟨rfl, rfl, rfl, rfl, rfl, rfl, rfl, rfl, rfl, rfl, rfl, rfl, rfl, trivial⟩ <| ?_
              refine hnext4 (k2 + 1) (o2 ++ [o2.getD (o2.length - dd) 0]) A_x c_x ⟨rfl, rfl, rfl, rfl, rfl, rfl, rfl, rfl, rfl, rfl, rfl, rfl, trivial⟩ [0] rfl [0, 1] rfl (⟨by omega, by rw [← hl1]; omega, hag2⟩) (by omega)
            · obtain rfl : k2 = nn := by omega
              have hag2 : o2 = made p o := by rw [← hag, Nat.sub_self]; rfl
              rw [hag2]
              refine hmemC (fun w m => m.asV 0 rfl (View.drop (n := p.length) (c := c2) (k := sz) (by omega) (by omega))) ?_
              refine hfactC (fun m => rdB (m.rd 0 rfl)) ?_
              rintro ⟨hl_p2, hA_p2⟩
              refine hexit <| hthen_exit <| hthen_exit <| hqblock_exit <| hthen <| hreg <| hy (fun _ => y_move rfl) <| hy (fun _ => y_move rfl) <| hy (fun _ => y_slFrom rfl rfl Tryd.underlying32 sz5 rfl (by omega)) <| hy (fun _ => y_assign rfl) <| hend <| hsub (ρ' := [(0, _), (49, _), (11, _), (6, _), (37, _), (35, _), (29, _), (10, _), (9, _), (8, _), (7, _), (14, _), (1, _)]) ⟨rfl, rfl, rfl, rfl, rfl, rfl, rfl, rfl, rfl, rfl, rfl, rfl, rfl, trivial⟩ <| hqblock <| ?_
              rw [hdl]
              refine hnext6 (p.drop sz) (made p o) _ (c2 - sz) A4 c4 ⟨rfl, rfl, rfl, trivial⟩ [0] rfl [0, 2] rfl (⟨by rw [← hdl]; omega, by rw [← hdl]; omega, hmn, hU⟩) (by rw [← hdl]; omega)
  · have hp0 : p = [] := List.eq_nil_of_length_eq_zero (by omega)
    rw [hp0, unp_nil] at hU
    rw [← hU]
    refine hexit <| hthen_exit <| hthen_exit <| hqblock_exit <| hthen <| hseq <| hreg <| hy (fun _ => y_move rfl) <| hy (fun _ => y_assign rfl) <| hy (fun _ => y_assign rfl) <| hend <| hsub (ρ' := [(5, _), (4, _), (14, _), (0, _), (6, _), (1, _)]) ⟨rfl, rfl, rfl, rfl, rfl, rfl, trivial⟩ <| hthen <| hret <| ?_
    exact hret2 trivial rfl rfl rfl [0] rfl [] rfl ⟨_, rfl, rfl, rfl⟩
end Go.Proofs.YtfikjheicjamhaaDoor
end
section
/- Contracts: frames (layer 6): opening. -/
set_option linter.unusedVariables false
set_option linter.unusedSimpArgs false
set_option maxRecDepth 20000
set_option maxHeartbeats 4000000
namespace Go.Proofs.YtfikjheicjamhaaDoor
open Go.Eng Go.Hx
theorem openL_none {f : List UInt8} {most : Int} (h : lenF f = none) : openL f most = ([], 2) := by unfold openL; rw [h]
theorem openL_far {f : List UInt8} {most : Int} {k : Nat} (h : lenF f = some k) (hm : most < (k : Int)) : openL f most = ([], 3) := by unfold openL; rw [h]; simp only; rw [if_pos hm]
theorem openL_in {f : List UInt8} {most : Int} {k : Nat} (h : lenF f = some k) (hm : ¬ most < (k : Int)) : openL f most = openN f k := by unfold openL; rw [h]; simp only; rw [if_neg hm]
theorem lenF_ten {f : List UInt8} {k : Nat} (h : lenF f = some k) : 10 ≤ f.length ∧ k < 4294967296 := by
  unfold lenF at h
  split at h
  · cases h
  · rename_i hq
    cases h
    exact ⟨by have : ¬ f.length < 10 := fun e => hq (.inl e); omega, num4_lt _⟩
theorem openC {A : Option Addr} {c : Nat} {f : List UInt8} {most : Int} (hc : f.length ≤ c) (hn : f.length ≤ 10000000) (hm : most ≤ 1000000) : Con Tryd.prog 59 [.slice A f.length c, .int .i64 most] [] [RRd 1 A f.length (b8s f)] (fun v_ X_ S_ => ∃ v, v_ = (.tuple #[v, .int .i64 (openL f most).2]) ∧ X_ = [ROwn 5 1 v (openL f most).1.length (b8s (openL f most).1)] ∧ S_ = []) := by
  refine henterD (N := 54) Tryd.func59 rfl rfl (by simp) fun b => ?_
  refine hfactC (fun m => rdB (m.rd 0 rfl)) ?_
  rintro ⟨hl_r, hA_r⟩
  refine hseq <| hreg <| ?_
  refine hx (xh_alloc ti32 (fun g4 => ?_))
  refine hmemL (fun w m => m.eqX 0 rfl (show _ = RBlk g4 32 [.slice none 0 0] from rfl)) ?_
  refine hx (xh_alloc ti33 (fun g5 => ?_))
  refine hmemL (fun w m => m.eqX 0 rfl (show _ = RBlk g5 33 [.int .i64 0] from rfl)) ?_
  rcases hL : lenF f with _ | k
  · refine hend <| hmemQ (X' := [_, _]) (S' := [_]) (fun _ m => m) <| hthen <| hseq <| hreg <| hy (fun _ => y_mkf rfl rfl) <| hdeferv rfl rfl <| hend <| hsub (ρ' := [(5, _), (4, _), (0, _), (1, _)]) ⟨rfl, rfl, rfl, rfl, trivial⟩ <| hthen <| hseq <| hreg <| hy (fun _ => y_move rfl) <| ?_
    refine hx (xh_call rfl Tryd.call111 (lengthC (by omega) (by omega) rfl) [] rfl [0] rfl ?_)
    rintro _ _ _ ⟨rfl, rfl, rfl⟩
    refine hy (fun _ => y_move rfl) <| hy (fun _ => y_extract rfl rfl) <| hy (fun _ => y_extract rfl rfl) <| hy (fun _ => y_assign rfl) <| ?_
    refine hx0 (xh_st1 0 rfl rfl rfl sz33 rfl (by first | exact Nat.le_of_ble_eq_true rfl | simp) ?_)
    refine hend <| hsub (ρ' := [(6, _), (5, _), (4, _), (0, _), (1, _)]) ⟨rfl, rfl, rfl, rfl, rfl, trivial⟩ <| hmemQ (X' := [_, _]) (S' := [_]) (fun _ m => m) <| hthen <| hseq <| hreg <| hy (fun m => y_ld1 rfl ag33 (ld_blk (m.blk 0 rfl) rfl)) <| hy (fun _ => y_eql rfl rfl) <| hy (fun m => y_ld1 rfl ag33 (ld_blk (m.blk 0 rfl) rfl)) <| ?_
    refine hx (xh_callE rfl Tryd.call112 (mustE) [] rfl [] rfl ?_ ?_)
    · rintro _ _ _ ⟨rfl, rfl, rfl, q1⟩
      refine hthen_panic <| hleaveP <| ?_
      rw [hL]
      rw [(openL_none hL)]
      refine hdone (by simp) Tryd.call110 (openCatch) [1, 0] rfl [] rfl ?_
      rintro _ _ _ ⟨rfl, rfl, rfl⟩
      refine humem (fun w m => m.addX (r' := ROwn 5 1 (.slice none 0 0) 0 []) (.refl _ _) (Own.nil _ _ _ _) (fun k hk => hk.elim)) ?_
      exact hlastCC rfl rfl rfl ag32 ag33 (fun m => ld_blk (m.blk 1 rfl) (i := 0) rfl) (fun m => ld_blk (m.blk 2 rfl) (i := 0) rfl) [0] rfl [] rfl ⟨_, rfl, rfl, rfl⟩
    · rintro _ _ _ ⟨rfl, rfl, rfl, q1⟩
      exact absurd q1 (by rw [hL]; simp)
  · refine hend <| hmemQ (X' := [_, _]) (S' := [_]) (fun _ m => m) <| hthen <| hseq <| hreg <| hy (fun _ => y_mkf rfl rfl) <| hdeferv rfl rfl <| hend <| hsub (ρ' := [(5, _), (4, _), (0, _), (1, _)]) ⟨rfl, rfl, rfl, rfl, trivial⟩ <| hthen <| hseq <| hreg <| hy (fun _ => y_move rfl) <| ?_
    refine hx (xh_call rfl Tryd.call111 (lengthC (by omega) (by omega) (by omega)) [] rfl [0] rfl ?_)
    rintro _ _ _ ⟨rfl, rfl, rfl⟩
    refine hy (fun _ => y_move rfl) <| hy (fun _ => y_extract rfl rfl) <| hy (fun _ => y_extract rfl rfl) <| hy (fun _ => y_assign rfl) <| ?_
    refine hx0 (xh_st1 0 rfl rfl rfl sz33 rfl (by first | exact Nat.le_of_ble_eq_true rfl | simp) ?_)
    refine hend <| hsub (ρ' := [(6, _), (5, _), (4, _), (0, _), (1, _)]) ⟨rfl, rfl, rfl, rfl, rfl, trivial⟩ <| hmemQ (X' := [_, _]) (S' := [_]) (fun _ m => m) <| hthen <| hseq <| hreg <| hy (fun m => y_ld1 rfl ag33 (ld_blk (m.blk 0 rfl) rfl)) <| hy (fun _ => y_eql rfl rfl) <| hy (fun m => y_ld1 rfl ag33 (ld_blk (m.blk 0 rfl) rfl)) <| ?_
    refine hx (xh_callE rfl Tryd.call112 (mustE) [] rfl [] rfl ?_ ?_)
    · rintro _ _ _ ⟨rfl, rfl, rfl, q1⟩
      refine hthen_panic <| hleaveP <| ?_
      exact absurd q1 (by rw [hL]; simp)
    · rintro _ _ _ ⟨rfl, rfl, rfl, q1⟩
      rw [hL, Option.getD_some]
      refine hend <| hsub (ρ' := [(6, _), (5, _), (4, _), (0, _), (1, _)]) ⟨rfl, rfl, rfl, rfl, rfl, trivial⟩ <| hmemQ (X' := [_, _]) (S' := [_]) (fun _ m => m) <| hthen <| hseq <| hreg <| hy (fun _ => y_move rfl) <| hy (fun _ => y_move rfl) <| hy (fun _ => y_leq rfl rfl) <| ?_
      refine hx (xh_callE rfl Tryd.call112 (mustE) [] rfl [] rfl ?_ ?_)
      · rintro _ _ _ ⟨rfl, rfl, rfl, q2⟩
        refine hthen_panic <| hleaveP <| ?_
        rw [(openL_far hL (Int.not_le.1 (of_decide_eq_false q2)))]
        refine hdone (by simp) Tryd.call110 (openCatch) [1, 0] rfl [] rfl ?_
        rintro _ _ _ ⟨rfl, rfl, rfl⟩
        refine humem (fun w m => m.addX (r' := ROwn 5 1 (.slice none 0 0) 0 []) (.refl _ _) (Own.nil _ _ _ _) (fun k hk => hk.elim)) ?_
        exact hlastCC rfl rfl rfl ag32 ag33 (fun m => ld_blk (m.blk 1 rfl) (i := 0) rfl) (fun m => ld_blk (m.blk 2 rfl) (i := 0) rfl) [0] rfl [] rfl ⟨_, rfl, rfl, rfl⟩
      · rintro _ _ _ ⟨rfl, rfl, rfl, q2⟩
        obtain ⟨h10, hk32⟩ := lenF_ten hL
        have hkm : (k : Int) ≤ most := of_decide_eq_true q2
        have hopen := openL_in hL (Int.not_lt.2 hkm)
        refine hmemL (fun w m => m.asV 0 rfl (View.sub (n := f.length) (c := c) (k := 6) (m := f.length - 10) (by omega) (by omega))) ?_
        refine hfactL (fun m => rdB (m.rd 0 rfl)) ?_
        rintro ⟨hl_p, hA_p⟩
        refine hend <| hsub (ρ' := [(6, _), (5, _), (4, _), (0, _), (1, _)]) ⟨rfl, rfl, rfl, rfl, rfl, trivial⟩ <| hmemQ (X' := [_, _]) (S' := [_, _]) (fun _ m => m) <| hthen <| hseq <| hreg <| hy (fun _ => y_move rfl) <| hy (fun _ => y_move rfl) <| hy (fun _ => y_lenS rfl Tryd.underlying32) <| hy (fun _ => yV (y_sub rfl rfl (w64 (by omega) (by omega))) ((show Value.int .i64 ((f.length : Int) - 4) = .int .i64 ((f.length - 4 : Nat) : Int) by congr 1; omega))) <| hy (fun _ => yV (y_slBoth rfl rfl rfl Tryd.underlying32 sz5 (show ((6 : Nat) : Int) = 6 from rfl) rfl (by omega) (by omega)) ((show Value.slice (if c = 6 then A else A.map (·.add (6 * 1))) (f.length - 4 - 6) (c - 6) = .slice (if c = 6 then A else A.map (·.add (6 * 1))) (f.length - 10) (c - 6) by congr 1))) <| ?_
        refine hx (xh_call rfl Tryd.call108 (cloneC (by omega)) [] rfl [0] rfl ?_)
        rintro _ _ _ ⟨v, rfl, rfl, rfl⟩
        refine hfactL (fun m => (m.own 0 rfl).slice) ?_
        rintro ⟨A_x, c_x, rfl, hc_x⟩
        refine hfactL (fun m => (m.ord 0 rfl).2.1) fun hA_x => ?_
        have hbl : f.length - 10 = (bodyF f).length := by unfold bodyF; rw [List.length_take, List.length_drop]; omega
        have hb2 : (f.drop 6).take (bodyF f).length = bodyF f := by rw [← hbl]; rfl
        rw [hbl, hb2]
        rw [hbl] at hc_x
        refine hx0 (xh_st1 2 rfl rfl rfl sz32 rfl (by first | exact Nat.le_of_ble_eq_true rfl | simp) ?_)
        refine hend <| hsub (ρ' := [(6, _), (5, _), (4, _), (0, _), (1, _)]) ⟨rfl, rfl, rfl, rfl, rfl, trivial⟩ <| hmemQ (X' := [_, _, _]) (S' := [_, _]) (fun _ m => m) <| hthen <| hseq <| hseq <| hreg <| hy (fun _ => y_move rfl) <| ?_
        refine hx (xh_call rfl Tryd.call113 (packedC (by omega) (by omega) rfl) [] rfl [1] rfl ?_)
        rintro _ _ _ ⟨rfl, rfl, rfl⟩
        refine hend <| hsub (ρ' := [(28, _), (6, _), (5, _), (4, _), (0, _), (1, _)]) ⟨rfl, rfl, rfl, rfl, rfl, rfl, trivial⟩ <| hmemQ (X' := [_, _, _]) (S' := [_, _]) (fun _ m => m) <| hthen <| ?_
        refine hif rfl (fun hpk => ?_) (fun hpk => ?_)
        · have hu : unF f k = unp (k : Int) (bodyF f) [] := by
            unfold unF
            exact if_pos hpk.2
          have hkz : (k : Int) ≤ 10000000 := by omega
          have hul := unp_length (most := (k : Int)) (bodyF f) [] (by simp)
          have hbn : (bodyF f).length ≤ 10000000 := by omega
          refine hseq <| hreg <| hy (fun m => y_ld1 rfl ag32 (ld_blk (m.blk 0 rfl) rfl)) <| hy (fun _ => y_move rfl) <| ?_
          refine hx (xh_calll rfl Tryd.call114 (unpackC hc_x hbn hkz) [] rfl (.x 1 rfl .own .nil) ?_)
          rintro _ _ _ ⟨v2, rfl, rfl, rfl⟩
          refine ⟨rfl, ?_⟩
          refine hfactL (fun m => (m.own 0 rfl).slice) ?_
          rintro ⟨A_x2, c_x2, rfl, hc_x2⟩
          refine hfactL (fun m => (m.ord 0 rfl).2.1) fun hA_x2 => ?_
          refine hy (fun _ => y_move rfl) <| hy (fun _ => y_extract rfl rfl) <| hy (fun _ => y_extract rfl rfl) <| ?_
          refine hx0 (xh_st1 1 rfl rfl rfl sz32 rfl (by first | exact Nat.le_of_ble_eq_true rfl | simp) ?_)
          refine hx0 (xh_st1 3 rfl rfl rfl sz33 rfl (by first | exact Nat.le_of_ble_eq_true rfl | simp) ?_)
          refine hend <| hsub (ρ' := [(28, _), (6, _), (5, _), (4, _), (0, _), (1, _)]) ⟨rfl, rfl, rfl, rfl, rfl, rfl, trivial⟩ <| hmemQ (X' := [_, _, _, _]) (S' := [_, _]) (fun _ m => m) <| hthen <| hreg <| hy (fun m => y_ld1 rfl ag33 (ld_blk (m.blk 0 rfl) rfl)) <| hy (fun _ => y_eql rfl rfl) <| ?_
          refine hx (xh_callE rfl Tryd.call112 (mustE) [] rfl [] rfl ?_ ?_)
          · rintro _ _ _ ⟨rfl, rfl, rfl, q3⟩
            refine hthen_panic <| hleaveP <| ?_
            have hno : openL f most = ([], 2) := by
              rw [hopen]
              unfold openN
              rw [hu]
              exact if_pos (of_decide_eq_false q3)
            rw [hno]
            refine hdone (by simp) Tryd.call110 (openCatch) [1, 0] rfl [] rfl ?_
            rintro _ _ _ ⟨rfl, rfl, rfl⟩
            refine humem (fun w m => m.addX (r' := ROwn 5 1 (.slice none 0 0) 0 []) (.refl _ _) (Own.nil _ _ _ _) (fun k hk => hk.elim)) ?_
            exact hlastCC rfl rfl rfl ag32 ag33 (fun m => ld_blk (m.blk 1 rfl) (i := 0) rfl) (fun m => ld_blk (m.blk 2 rfl) (i := 0) rfl) [0] rfl [] rfl ⟨_, rfl, rfl, rfl⟩
          · rintro _ _ _ ⟨rfl, rfl, rfl, q3⟩
            have hE0 : (unp (k : Int) (bodyF f) []).2 = 0 := of_decide_eq_true q3
            obtain ⟨u, hu2⟩ : ∃ u, unp (k : Int) (bodyF f) [] = (u, 0) := ⟨_, Prod.ext rfl hE0⟩
            rw [hu2] at hu hul
            rw [hu2]
            dsimp only
            have hun : u.length ≤ 1000000 := by
              rcases hul.1 with h | h
              · have h : (u.length : Int) ≤ k := h
                omega
              · have h : u = [] := h
                rw [h]; exact Nat.zero_le _
            refine hend <| hsub (ρ' := [(28, _), (6, _), (5, _), (4, _), (0, _), (1, _)]) ⟨rfl, rfl, rfl, rfl, rfl, rfl, trivial⟩ <| hmemQ (X' := [_, _, _, _]) (S' := [_, _]) (fun _ m => m) <| hthen <| hseq <| hreg <| hy (fun m => y_ld1 rfl ag32 (ld_blk (m.blk 1 rfl) rfl)) <| hy (fun _ => y_lenS rfl Tryd.underlying32) <| hy (fun _ => y_move rfl) <| hy (fun _ => y_eql rfl rfl) <| ?_
            refine hx (xh_callE rfl Tryd.call112 (mustE) [] rfl [] rfl ?_ ?_)
            · rintro _ _ _ ⟨rfl, rfl, rfl, q4⟩
              refine hthen_panic <| hleaveP <| ?_
              have hno : openL f most = ([], 2) := by
                rw [hopen]
                unfold openN
                rw [hu]
                exact (if_neg (by simp)).trans (if_pos (by have := of_decide_eq_false q4; simp only; omega))
              rw [hno]
              refine hdone (by simp) Tryd.call110 (openCatch) [1, 0] rfl [] rfl ?_
              rintro _ _ _ ⟨rfl, rfl, rfl⟩
              refine humem (fun w m => m.addX (r' := ROwn 5 1 (.slice none 0 0) 0 []) (.refl _ _) (Own.nil _ _ _ _) (fun k hk => hk.elim)) ?_
              exact hlastCC rfl rfl rfl ag32 ag33 (fun m => ld_blk (m.blk 1 rfl) (i := 0) rfl) (fun m => ld_blk (m.blk 2 rfl) (i := 0) rfl) [0] rfl [] rfl ⟨_, rfl, rfl, rfl⟩
            · rintro _ _ _ ⟨rfl, rfl, rfl, q4⟩
              have hlen : (u).length = k := by have := of_decide_eq_true q4; omega
              have hgo : openL f most = if le4 (crcSum u) ≠ f.drop (f.length - 4) then ([], 7) else (u, 0) := by
                rw [hopen]
                unfold openN
                rw [hu]
                exact (if_neg (by simp)).trans (if_neg (by simp only; omega))
              refine hmemL (fun w m => m.asV 1 rfl (View.drop (n := f.length) (c := c) (k := f.length - 4) (by omega) (by omega))) ?_
              refine hfactL (fun m => rdB (m.rd 0 rfl)) ?_
              rintro ⟨hl_t, hA_t⟩
              have hcl := crcSum_lt u
              refine hend <| hsub (ρ' := [(28, _), (6, _), (5, _), (4, _), (0, _), (1, _)]) ⟨rfl, rfl, rfl, rfl, rfl, rfl, trivial⟩ <| hmemQ (X' := [_, _, _, _]) (S' := [_, _, _]) (fun _ m => m) <| hthen <| hseq <| hdrwBE [43, 44, 45, 46, 47, 48, 49, 50, 51, 52] [0, 0, 0, 0] [0, 1, 2] rfl rfl [1, 2, 8, 9] [(0, some 0), (3, some 2), (4, some 4), (5, some 2), (6, some 2), (7, some 2), (1, none), (2, none), (8, none), (9, none)] (by kernel_rfl) (by kernel_rfl) (by kernel_rfl) rfl 99 <| hty (fun m => y_ld1 rfl ag32 (ld_blk (m.blk 1 rfl) rfl)) <| htyU (y_move rfl) <| htyU (y_move rfl) <| htyU (y_lenS rfl Tryd.underlying32) <| htyU (yV (y_sub rfl rfl (w64 (by omega) (by omega))) ((show Value.int .i64 ((f.length : Int) - 4) = .int .i64 ((f.length - 4 : Nat) : Int) by congr 1; omega))) <| htyU (y_slFrom rfl rfl Tryd.underlying32 sz5 rfl (by omega)) <| ?_
              refine htx (xh_calll rfl Tryd.call117 (crcSumC (by omega)) [] rfl (.x 2 rfl .own .nil) ?_)
              rintro _ _ _ ⟨rfl, rfl, rfl⟩
              refine ⟨rfl, ?_⟩
              refine ⟨(fun _ => wk [0, 0, 0, 0] [0, 1, 2] rfl rfl), ?_⟩
              refine htx (xh_call rfl Tryd.call116 (fnumberC (by omega)) [] rfl [] rfl ?_)
              rintro _ _ _ ⟨v3, rfl, rfl, rfl⟩
              refine ⟨(fun _ => wk [1, 1, 1, 1] [0, 1, 2] rfl rfl), ?_⟩
              refine htfact (fun m => (m.own 0 rfl).slice) ?_
              rintro ⟨A_x3, c_x3, rfl, hc_x3⟩
              refine htfact (fun m => (m.ord 0 rfl).2.1) fun hA_x3 => ?_
              refine htx (xh_calll rfl Tryd.call115 (bytesEqualC) [] rfl (.x 0 rfl .own (.s 0 rfl .nil)) ?_)
              rintro _ _ _ ⟨rfl, rfl, rfl⟩
              refine ⟨rfl, ?_⟩
              refine ⟨(fun _ => wk [1, 1, 1, 1] [0, 1, 2] rfl rfl), ?_⟩
              refine htx (xh_callE rfl Tryd.call112 (mustE) [] rfl [] rfl ?_ ?_)
              · rintro _ _ _ ⟨rfl, rfl, rfl, q5⟩
                refine hpanq <| hthen_panic <| hleaveP <| ?_
                rw [(hgo.trans (if_pos (of_decide_eq_false q5)))]
                refine hdone (by simp) Tryd.call110 (openCatch) [2, 1] rfl [] rfl ?_
                rintro _ _ _ ⟨rfl, rfl, rfl⟩
                refine humem (fun w m => m.addX (r' := ROwn 5 1 (.slice none 0 0) 0 []) (.refl _ _) (Own.nil _ _ _ _) (fun k hk => hk.elim)) ?_
                exact hlastCC rfl rfl rfl ag32 ag33 (fun m => ld_blk (m.blk 1 rfl) (i := 0) rfl) (fun m => ld_blk (m.blk 2 rfl) (i := 0) rfl) [0] rfl [] rfl ⟨_, rfl, rfl, rfl⟩
              · rintro _ _ _ ⟨rfl, rfl, rfl, q5⟩
                refine ⟨(fun _ => wk [1, 1, 1, 1] [0, 1, 2] rfl rfl), ?_⟩
                rw [hgo.trans (if_neg (fun h => h (of_decide_eq_true q5)))]
                refine htendE <| hsub (ρ' := [(28, _), (6, _), (5, _), (4, _), (0, _), (1, _)]) ⟨rfl, rfl, rfl, rfl, rfl, rfl, trivial⟩ <| hmemQ (X' := [_, _, _, _, _]) (S' := [_, _, _]) (fun _ m => m) <| hthen <| hseq <| hreg <| hy (fun m => y_ld1 rfl ag32 (ld_blk (m.blk 2 rfl) rfl)) <| ?_
                refine hx0 (xh_st1 2 rfl rfl rfl sz32 rfl (by first | exact Nat.le_of_ble_eq_true rfl | simp) ?_)
                refine hx0 (xh_st1 2 rfl rfl rfl sz33 rfl (by first | exact Nat.le_of_ble_eq_true rfl | simp) ?_)
                refine hend <| hsub (ρ' := [(28, _), (6, _), (5, _), (4, _), (0, _), (1, _)]) ⟨rfl, rfl, rfl, rfl, rfl, rfl, trivial⟩ <| hmemQ (X' := [_, _, _, _, _]) (S' := [_, _, _]) (fun _ m => m) <| hthen <| hret <| ?_
                refine hleaveN trivial ?_
                refine hdone (by simp) Tryd.call110 (openIdle) [1, 0] rfl [] rfl ?_
                rintro _ _ _ ⟨rfl, rfl, rfl⟩
                exact hlastCC rfl rfl rfl ag32 ag33 (fun m => ld_blk (m.blk 0 rfl) (i := 0) rfl) (fun m => ld_blk (m.blk 1 rfl) (i := 0) rfl) [3] rfl [] rfl ⟨_, rfl, rfl, rfl⟩
        · have hu : unF f k = (bodyF f, 0) := by
            unfold unF
            exact if_neg fun e => hpk ⟨by rw [hL]; rfl, e⟩
          refine hcskip <| hthen <| hseq <| hreg <| hy (fun m => y_ld1 rfl ag32 (ld_blk (m.blk 0 rfl) rfl)) <| hy (fun _ => y_lenS rfl Tryd.underlying32) <| hy (fun _ => y_move rfl) <| hy (fun _ => y_eql rfl rfl) <| ?_
          refine hx (xh_callE rfl Tryd.call112 (mustE) [] rfl [] rfl ?_ ?_)
          · rintro _ _ _ ⟨rfl, rfl, rfl, q4⟩
            refine hthen_panic <| hleaveP <| ?_
            have hno : openL f most = ([], 2) := by
              rw [hopen]
              unfold openN
              rw [hu]
              exact (if_neg (by simp)).trans (if_pos (by have := of_decide_eq_false q4; simp only; omega))
            rw [hno]
            refine hdone (by simp) Tryd.call110 (openCatch) [0, 1] rfl [] rfl ?_
            rintro _ _ _ ⟨rfl, rfl, rfl⟩
            refine humem (fun w m => m.addX (r' := ROwn 5 1 (.slice none 0 0) 0 []) (.refl _ _) (Own.nil _ _ _ _) (fun k hk => hk.elim)) ?_
            exact hlastCC rfl rfl rfl ag32 ag33 (fun m => ld_blk (m.blk 1 rfl) (i := 0) rfl) (fun m => ld_blk (m.blk 2 rfl) (i := 0) rfl) [0] rfl [] rfl ⟨_, rfl, rfl, rfl⟩
          · rintro _ _ _ ⟨rfl, rfl, rfl, q4⟩
            have hlen : ((bodyF f)).length = k := by have := of_decide_eq_true q4; omega
            have hgo : openL f most = if le4 (crcSum (bodyF f)) ≠ f.drop (f.length - 4) then ([], 7) else ((bodyF f), 0) := by
              rw [hopen]
              unfold openN
              rw [hu]
              exact (if_neg (by simp)).trans (if_neg (by simp only; omega))
            refine hmemL (fun w m => m.asV 1 rfl (View.drop (n := f.length) (c := c) (k := f.length - 4) (by omega) (by omega))) ?_
            refine hfactL (fun m => rdB (m.rd 0 rfl)) ?_
            rintro ⟨hl_t, hA_t⟩
            have hcl := crcSum_lt (bodyF f)
            refine hend <| hsub (ρ' := [(28, _), (6, _), (5, _), (4, _), (0, _), (1, _)]) ⟨rfl, rfl, rfl, rfl, rfl, rfl, trivial⟩ <| hmemQ (X' := [_, _, _]) (S' := [_, _, _]) (fun _ m => m) <| hthen <| hseq <| hdrwBE [43, 44, 45, 46, 47, 48, 49, 50, 51, 52] [0, 0, 0] [0, 1, 2] rfl rfl [1, 2, 8, 9] [(0, some 0), (3, some 2), (4, some 4), (5, some 2), (6, some 2), (7, some 2), (1, none), (2, none), (8, none), (9, none)] (by kernel_rfl) (by kernel_rfl) (by kernel_rfl) rfl 99 <| hty (fun m => y_ld1 rfl ag32 (ld_blk (m.blk 0 rfl) rfl)) <| htyU (y_move rfl) <| htyU (y_move rfl) <| htyU (y_lenS rfl Tryd.underlying32) <| htyU (yV (y_sub rfl rfl (w64 (by omega) (by omega))) ((show Value.int .i64 ((f.length : Int) - 4) = .int .i64 ((f.length - 4 : Nat) : Int) by congr 1; omega))) <| htyU (y_slFrom rfl rfl Tryd.underlying32 sz5 rfl (by omega)) <| ?_
            refine htx (xh_calll rfl Tryd.call117 (crcSumC (by omega)) [] rfl (.x 1 rfl .own .nil) ?_)
            rintro _ _ _ ⟨rfl, rfl, rfl⟩
            refine ⟨rfl, ?_⟩
            refine ⟨(fun _ => wk [0, 0, 0] [0, 1, 2] rfl rfl), ?_⟩
            refine htx (xh_call rfl Tryd.call116 (fnumberC (by omega)) [] rfl [] rfl ?_)
            rintro _ _ _ ⟨v2, rfl, rfl, rfl⟩
            refine ⟨(fun _ => wk [1, 1, 1] [0, 1, 2] rfl rfl), ?_⟩
            refine htfact (fun m => (m.own 0 rfl).slice) ?_
            rintro ⟨A_x2, c_x2, rfl, hc_x2⟩
            refine htfact (fun m => (m.ord 0 rfl).2.1) fun hA_x2 => ?_
            refine htx (xh_calll rfl Tryd.call115 (bytesEqualC) [] rfl (.x 0 rfl .own (.s 0 rfl .nil)) ?_)
            rintro _ _ _ ⟨rfl, rfl, rfl⟩
            refine ⟨rfl, ?_⟩
            refine ⟨(fun _ => wk [1, 1, 1] [0, 1, 2] rfl rfl), ?_⟩
            refine htx (xh_callE rfl Tryd.call112 (mustE) [] rfl [] rfl ?_ ?_)
            · rintro _ _ _ ⟨rfl, rfl, rfl, q5⟩
              refine hpanq <| hthen_panic <| hleaveP <| ?_
              rw [(hgo.trans (if_pos (of_decide_eq_false q5)))]
              refine hdone (by simp) Tryd.call110 (openCatch) [1, 2] rfl [] rfl ?_
              rintro _ _ _ ⟨rfl, rfl, rfl⟩
              refine humem (fun w m => m.addX (r' := ROwn 5 1 (.slice none 0 0) 0 []) (.refl _ _) (Own.nil _ _ _ _) (fun k hk => hk.elim)) ?_
              exact hlastCC rfl rfl rfl ag32 ag33 (fun m => ld_blk (m.blk 1 rfl) (i := 0) rfl) (fun m => ld_blk (m.blk 2 rfl) (i := 0) rfl) [0] rfl [] rfl ⟨_, rfl, rfl, rfl⟩
            · rintro _ _ _ ⟨rfl, rfl, rfl, q5⟩
              refine ⟨(fun _ => wk [1, 1, 1] [0, 1, 2] rfl rfl), ?_⟩
              rw [hgo.trans (if_neg (fun h => h (of_decide_eq_true q5)))]
              refine htendE <| hsub (ρ' := [(28, _), (6, _), (5, _), (4, _), (0, _), (1, _)]) ⟨rfl, rfl, rfl, rfl, rfl, rfl, trivial⟩ <| hmemQ (X' := [_, _, _, _]) (S' := [_, _, _]) (fun _ m => m) <| hthen <| hseq <| hreg <| hy (fun m => y_ld1 rfl ag32 (ld_blk (m.blk 1 rfl) rfl)) <| ?_
              refine hx0 (xh_st1 1 rfl rfl rfl sz32 rfl (by first | exact Nat.le_of_ble_eq_true rfl | simp) ?_)
              refine hx0 (xh_st1 3 rfl rfl rfl sz33 rfl (by first | exact Nat.le_of_ble_eq_true rfl | simp) ?_)
              refine hend <| hsub (ρ' := [(28, _), (6, _), (5, _), (4, _), (0, _), (1, _)]) ⟨rfl, rfl, rfl, rfl, rfl, rfl, trivial⟩ <| hmemQ (X' := [_, _, _, _]) (S' := [_, _, _]) (fun _ m => m) <| hthen <| hret <| ?_
              refine hleaveN trivial ?_
              refine hdone (by simp) Tryd.call110 (openIdle) [1, 0] rfl [] rfl ?_
              rintro _ _ _ ⟨rfl, rfl, rfl⟩
              exact hlastCC rfl rfl rfl ag32 ag33 (fun m => ld_blk (m.blk 0 rfl) (i := 0) rfl) (fun m => ld_blk (m.blk 1 rfl) (i := 0) rfl) [3] rfl [] rfl ⟨_, rfl, rfl, rfl⟩
end Go.Proofs.YtfikjheicjamhaaDoor
end
section
/- Contracts: the program's digest of bytes (layer 2): its state. -/
set_option linter.unusedVariables false
set_option linter.unusedSimpArgs false
set_option maxRecDepth 20000
namespace Go.Proofs.YtfikjheicjamhaaDoor
open Go.Eng Go.Hx
structure ShSt where
  h : List UInt32
  n : Nat
  A : Option Addr
  c : Nat
  rest : List UInt8
def stc (h : List UInt32) (n : Nat) (A : Option Addr) (m c : Nat) : List Value := wds h ++ [.int .i64 (n : Int), .slice A m c]
abbrev RSha (g : Nat) (s : ShSt) : Res := RPack [RBlk g 224 (stc s.h s.n s.A s.rest.length s.c), ROwn 5 1 (.slice s.A s.rest.length s.c) s.rest.length (b8s s.rest)]
/-- what a state has gone through -/
structure ShSt.ok (s : ShSt) (all : List UInt8) : Prop where
  len : s.h.length = 8
  n : s.n = all.length
  mid : ∃ d, d ++ s.rest = all ∧ d.length % 64 = 0 ∧ s.h = foldB h0L d
theorem stc_len {h : List UInt32} {n : Nat} {A : Option Addr} {m c : Nat} (hh : h.length = 8) : (stc h n A m c).length = 10 := by simp [stc, wds, hh]
theorem stc_8 {h : List UInt32} {n : Nat} {A : Option Addr} {m c : Nat} (hh : h.length = 8) : (stc h n A m c)[8]? = some (.int .i64 (n : Int)) := by
  rw [stc, List.getElem?_append_right (by rw [wds_length]; omega), wds_length, hh]; rfl
theorem stc_9 {h : List UInt32} {n : Nat} {A : Option Addr} {m c : Nat} (hh : h.length = 8) : (stc h n A m c)[9]? = some (.slice A m c) := by
  rw [stc, List.getElem?_append_right (by rw [wds_length]; omega), wds_length, hh]; rfl
theorem stc_h {h : List UInt32} {n : Nat} {A : Option Addr} {m c : Nat} {j : Nat} {u : Value} (hu : (wds h)[j]? = some u) : (stc h n A m c)[j]? = some u := by
  rw [stc, List.getElem?_append_left ((List.getElem?_eq_some_iff.1 hu).1)]; exact hu
theorem stc_set8 {h : List UInt32} {n n' : Nat} {A : Option Addr} {m c : Nat} (hh : h.length = 8) : (stc h n A m c).set 8 (.int .i64 (n' : Int)) = stc h n' A m c := by
  rw [stc, List.set_append_right _ _ (by rw [wds_length]; omega), wds_length, hh]; rfl
theorem stc_set9 {h : List UInt32} {n : Nat} {A A' : Option Addr} {m c m' c' : Nat} (hh : h.length = 8) : (stc h n A m c).set 9 (.slice A' m' c') = stc h n A' m' c' := by
  rw [stc, List.set_append_right _ _ (by rw [wds_length]; omega), wds_length, hh]; rfl
theorem stc_spl {h h' : List UInt32} {n : Nat} {A : Option Addr} {m c : Nat} (hh : h.length = 8) (hh' : h'.length = 8) : splice (stc h n A m c) 0 (wds h') = stc h' n A m c := by
  rw [splice, List.take_zero, List.nil_append, Nat.zero_add, wds_length, hh', stc, List.drop_append_of_le_length (by rw [wds_length]; omega), List.drop_of_length_le (by rw [wds_length]; omega)]; rfl
theorem newSC  : Con Tryd.prog 128 [] [] [] (fun v_ X_ S_ => ∃ g, v_ = (.pointer (some ⟨g, 0, none⟩)) ∧ X_ = [RSha g ⟨h0L, 0, none, 0, []⟩] ∧ S_ = []) := by
  refine henter (N := 4) Tryd.func128 rfl rfl (by simp) fun b => ?_
  refine hseq <| hreg <| hy (fun _ => y_assign rfl) <| hend <| hthen <| hseq <| hreg <| hy (fun _ => yV (y_buildA (n := 8) ti222 (by kernel_rfl) rfl (by kernel_rfl) rfl (by kernel_rfl) (by kernel_rfl) (wds_cells (l := [1779033703, 3144134277, 1013904242, 2773480762, 1359893119, 2600822924, 528734635, 1541459225]))) ((rfl : _ = Value.agg (wds h0L).toArray))) <| hy (fun _ => yV (y_build ti224 rfl rfl (by kernel_rfl) (.cons (o := 0) (sz := 8) (by kernel_rfl) rfl rfl (Nat.le_of_ble_eq_true rfl) .nil)) ((rfl : _ = Value.agg (stc h0L 0 none 0 0).toArray))) <| ?_
  refine hx (xh_box rfl (fun g3 => ?_))
  refine hy (fun _ => y_assign rfl) <| hend <| hsub (ρ' := [(0, _)]) ⟨rfl, trivial⟩ <| hmemQ (X' := [_]) (S' := []) (fun _ m => m) <| hthen <| hret <| ?_
  refine hmemQ (fun w m => m.eqX 0 rfl (show _ = RBlk g3 224 (stc h0L 0 none 0 0) from congrArg (RBlk _ _) (cells_agg _))) ?_
  refine hmemQ (fun w m => m.addX (r' := ROwn 5 1 (.slice none 0 0) 0 []) (.refl _ _) (Own.nil _ _ _ _) (fun k hk => hk.elim)) ?_
  refine hmemQ (X' := RSha g3 ⟨h0L, 0, none, 0, []⟩ :: _) (fun w m => (m.perm (takeR_perm [1, 0] _ [_, _] _ rfl)).pack) ?_
  exact hret1 trivial rfl rfl [0] rfl [] rfl ⟨_, rfl, rfl, rfl⟩
theorem ok_new : ShSt.ok ⟨h0L, 0, none, 0, []⟩ [] := ⟨rfl, rfl, [], rfl, rfl, rfl⟩
theorem writeSC {g : Nat} {s : ShSt} {B : Option Addr} {mb mc : Nat} {l : List UInt8} (hh : s.h.length = 8) (hn : s.n + mb ≤ 1000000000000000) (hr : s.rest.length + mb ≤ 140737488355328) : Con Tryd.prog 129 [.pointer (some ⟨g, 0, none⟩), .slice B mb mc] [RSha g s] [RRd 1 B mb (b8s l), RRoots] (fun v_ X_ S_ => ∃ s1, v_ = (.tuple #[]) ∧ X_ = [RSha g s1] ∧ S_ = [] ∧ (s1.rest.length < 64 ∧ ∀ all, s.ok all → s1.ok (all ++ l))) := by
  refine henter (N := 49) Tryd.func129 rfl rfl (by simp) fun b => ?_
  refine hfactC (fun m => rdB (m.rd 0 rfl)) ?_
  rintro ⟨hl_r, hA_r⟩
  have hlm : l.length = mb := hl_r
  have hl0 := stc_len (n := s.n) (A := s.A) (m := s.rest.length) (c := s.c) hh
  refine hmemC (fun w m => (m.perm (takeR_perm [0] _ [_] _ rfl)).unpack) ?_
  refine hseq <| hreg <| hy (fun _ => y_move rfl) <| hy (fun _ => y_nilp rfl) <| hy (fun _ => y_fld rfl fa224_1 (by decide)) <| hy (fun m => y_ld1 rfl ag3 ((m.blk 0 rfl).cells0 8 _ (stc_8 hh))) <| hy (fun _ => y_move rfl) <| hy (fun _ => y_lenS rfl Tryd.underlying32) <| hy (fun _ => y_add rfl rfl (w64 (by omega) (by omega))) <| hy (fun _ => y_nilp rfl) <| hy (fun _ => y_fld rfl fa224_1 (by decide)) <| ?_
  refine hx0 (xh_st1a 0 rfl rfl rfl sz3 rfl (by rw [hl0]; decide) ?_)
  refine hend <| hsub (ρ' := [(0, _), (1, _)]) ⟨rfl, rfl, trivial⟩ <| hmemQ (X' := [_, _]) (S' := [_, _]) (fun _ m => m) <| hthen <| hseq <| hreg <| ?_
  refine hmemL (fun w m => m.eqX 0 rfl (show _ = RBlk g 224 (stc s.h (s.n + mb) s.A s.rest.length s.c) from by rw [Nat.zero_add, ← Int.natCast_add, stc_set8 hh])) ?_
  refine hy (fun _ => y_move rfl) <| hy (fun _ => y_move rfl) <| hy (fun _ => y_nilp rfl) <| hy (fun _ => y_fld rfl fa224_2 (by decide)) <| hy (fun m => y_ld1 rfl ag32 ((m.blk 0 rfl).cells0 9 _ (stc_9 hh))) <| hy (fun _ => y_move rfl) <| ?_
  refine hx (xh_app 1 rfl rfl rfl Tryd.underlying32 Tryd.underlying32 (by exact .inl rfl) ti5 rfl (fun m => Src.of_rd (m.rd 0 rfl)) b8s_one (by unfold maxLen; omega) (by omega) (fun u => ?_))
  refine hfactL (fun m => (m.own 0 rfl).slice) ?_
  rintro ⟨A_d1, c_d1, rfl, hc_d1⟩
  refine hfactL (fun m => (m.ord 0 rfl).2.1) fun hA_d1 => ?_
  refine hmemL (fun w m => m.eqX 0 rfl (show _ = ROwn 5 1 (.slice A_d1 (s.rest ++ l).length c_d1) (s.rest ++ l).length (b8s (s.rest ++ l)) from by rw [List.length_append, hlm]; simp [b8s])) ?_
  have hls := stc_len (n := s.n + mb) (A := s.A) (m := s.rest.length) (c := s.c) hh
  refine hy (fun _ => y_nilp rfl) <| hy (fun _ => y_fld rfl fa224_2 (by decide)) <| ?_
  refine hx0 (xh_st1a 1 rfl rfl rfl sz32 rfl (by rw [hls]; decide) ?_)
  refine hend <| hsub (ρ' := [(0, _), (1, _)]) ⟨rfl, rfl, trivial⟩ <| hmemQ (X' := [_, _]) (S' := [_, _]) (fun _ m => m) <| hthen <| hblock <| ?_
  refine hmemC (fun w m => m.eqX 0 rfl (show _ = RBlk g 224 (stc s.h (s.n + mb) A_d1 (s.rest ++ l).length c_d1) from by rw [Nat.zero_add, stc_set9 hh, List.length_append, hlm])) ?_
  have hlen : (s.rest ++ l).length = s.rest.length + mb := by rw [List.length_append, hlm]
  refine hloop5 (fun h A1 c1 q dn => q.length) (fun h A1 c1 q dn => []) (fun h A1 c1 q dn => [RBlk g 224 (stc h (s.n + mb) A1 q.length c1), ROwn 5 1 (.slice A1 q.length c1) q.length (b8s q)]) (fun h A1 c1 q dn => []) (fun h A1 c1 q dn => h.length = 8 ∧ q.length ≤ c1 ∧ dn ++ q = s.rest ++ l ∧ dn.length % 64 = 0 ∧ ∀ D, D.length % 64 = 0 → s.h = foldB h0L D → h = foldB h0L (D ++ dn)) s.h A_d1 c_d1 (s.rest ++ l) [] [(0, _), (1, _)] ⟨rfl, rfl, trivial⟩ [0, 0] rfl [] rfl (⟨hh, (by omega), rfl, rfl, fun D _ e => by rw [List.append_nil]; exact e⟩) trivial (fun h A1 c1 q dn ⟨h8, hqc, hdq, hd64, hD⟩ => ?_)
  have hls := stc_len (n := s.n + mb) (A := A1) (m := q.length) (c := c1) h8
  refine hseq <| hseq <| hreg <| hy (fun _ => y_move rfl) <| hy (fun _ => y_nilp rfl) <| hy (fun _ => y_fld rfl fa224_2 (by decide)) <| hy (fun m => y_ld1 rfl ag32 ((m.blk 0 rfl).cells0 9 _ (stc_9 h8))) <| hy (fun _ => y_lenS rfl Tryd.underlying32) <| hy (fun _ => y_geq rfl rfl) <| hend <| hsub (ρ' := [(27, _), (0, _), (1, _)]) ⟨rfl, rfl, rfl, trivial⟩ <| hthen <| ?_
  refine hif rfl (fun hge => ?_) (fun hge => ?_)
  · have hq64 : 64 ≤ q.length := by omega
    refine hcskip <| hthen <| hblock <| hseq <| hdrw [10, 13] [(0, some 1), (1, some 0), (2, some 0), (3, some 0), (4, some 0), (5, some 1), (6, some 0), (7, some 0), (8, some 0), (9, some 0), (10, none), (11, some 1), (12, some 1), (13, none)] (by kernel_rfl) (by kernel_rfl) rfl 1 <| htyU (y_move rfl) <| htyU (y_move rfl) <| htyU (y_nilp rfl) <| htyU (y_fld rfl fa224_0 (by decide)) <| hty (fun m => yV (y_ldN rfl ag222 sz222 (by rw [wds_length, h8]) (fun j u hu => (m.blk 0 rfl).cells0 j u (stc_h hu))) ((rfl : _ = Value.agg (wds h).toArray))) <| htyU (y_move rfl) <| htyU (y_nilp rfl) <| htyU (y_fld rfl fa224_2 (by decide)) <| hty (fun m => y_ld1 rfl ag32 ((m.blk 0 rfl).cells0 9 _ (stc_9 h8))) <| htyU (y_slTo rfl rfl Tryd.underlying32 sz5 (show ((64 : Nat) : Int) = 64 from rfl) (by omega)) <| ?_
    refine htx (xh_calll rfl Tryd.call154 (mixC (by omega) h8 (l := (q.take 64))) [] rfl (.x 1 rfl (View.own.trans (View.take hq64)) (.s 1 rfl .nil)) ?_)
    rintro _ _ _ ⟨rfl, rfl, rfl⟩
    refine ⟨rfl, ?_⟩
    refine ⟨(fun _ => wk [0, 0] [0, 1] rfl rfl), ?_⟩
    refine htyU (y_nilp rfl) <| htyU (y_fld rfl fa224_0 (by decide)) <| ?_
    have hb8 := blockL_length h8 (q.take 64)
    refine htx0 (xh_stNa 0 rfl rfl rfl sz222 (by rw [wds_length, hb8]) wds_one (by rw [hls]; decide) ⟨(fun h => absurd h (by decide)), ?_⟩)
    refine htmem (fun w m => m.eqX 0 rfl (show _ = RBlk g 224 (stc (blockL h (q.take 64)) (s.n + mb) A1 q.length c1) from by rw [Nat.zero_add, stc_spl h8 hb8])) ?_
    have hls2 := stc_len (n := s.n + mb) (A := A1) (m := q.length) (c := c1) hb8
    refine htmem (X' := ROwn 5 1 (.slice (if c1 = 64 then A1 else A1.map (·.add (64 * 1))) (q.length - 64) (c1 - 64)) (q.length - 64) ((b8s q).drop (64 * 1)) :: _) (fun w m => (m.perm (takeR_perm [1] _ [_] _ rfl)).viewX (View.ownDrop hq64 hqc)) ?_
    refine htend <| hsub (ρ' := [(27, _), (0, _), (1, _)]) ⟨rfl, rfl, rfl, trivial⟩ <| hmemQ (X' := [_, _]) (S' := [_, _]) (fun _ m => m) <| hthen <| hreg <| hy (fun _ => y_move rfl) <| hy (fun _ => y_move rfl) <| hy (fun _ => y_nilp rfl) <| hy (fun _ => y_fld rfl fa224_2 (by decide)) <| hy (fun m => y_ld1 rfl ag32 ((m.blk 1 rfl).cells0 9 _ (stc_9 hb8))) <| hy (fun _ => y_slFrom rfl rfl Tryd.underlying32 sz5 (show ((64 : Nat) : Int) = 64 from rfl) (by omega)) <| hy (fun _ => y_nilp rfl) <| hy (fun _ => y_fld rfl fa224_2 (by decide)) <| ?_
    refine hx0 (xh_st1a 1 rfl rfl rfl sz32 rfl (by rw [hls2]; decide) ?_)
    refine hend <| hsub (ρ' := [(27, _), (0, _), (1, _)]) ⟨rfl, rfl, rfl, trivial⟩ <| hmemQ (X' := [_, _]) (S' := [_, _]) (fun _ m => m) <| hqblock <| ?_
    have hqd : (q.drop 64).length = q.length - 64 := List.length_drop
    have e9 : (b8s q).drop (64 * 1) = b8s (q.drop 64) := by simp [b8s, List.map_drop]
    generalize hA2 : (if c1 = 64 then A1 else A1.map (·.add (64 * 1))) = A2
    refine hmemQ (fun w m => m.eqX 0 rfl (show _ = RBlk g 224 (stc (blockL h (q.take 64)) (s.n + mb) A2 (q.drop 64).length (c1 - 64)) from by rw [Nat.zero_add, stc_set9 hb8, hqd])) ?_
    refine hmemQ (fun w m => m.eqX 1 rfl (show _ = ROwn 5 1 (.slice A2 (q.drop 64).length (c1 - 64)) (q.drop 64).length (b8s (q.drop 64)) from by rw [hqd, e9])) ?_
    refine hnext5 (blockL h (q.take 64)) A2 (c1 - 64) (q.drop 64) (dn ++ q.take 64) ⟨rfl, rfl, trivial⟩ [1, 0] rfl [0, 1] rfl (⟨hb8, by omega, by rw [List.append_assoc, List.take_append_drop]; exact hdq, by rw [List.length_append, List.length_take]; omega, fun D h1 h2 => by rw [← List.append_assoc, foldB_snoc (by rw [List.length_append]; omega) (by rw [List.length_take]; omega), ← hD D h1 h2]⟩) (by omega)
  · refine hexit <| hthen_exit <| hthen_exit <| hqblock_exit <| ?_
    have hok : ∀ all, s.ok all → ShSt.ok ⟨h, s.n + mb, A1, c1, q⟩ (all ++ l) := fun all ok => by
      obtain ⟨D, e1, e2, e3⟩ := ok.mid
      refine ⟨h8, ?_, D ++ dn, ?_, ?_, hD D e2 e3⟩
      · show s.n + mb = _
        rw [List.length_append, ok.n, hlm]
      · show (D ++ dn) ++ q = _
        rw [List.append_assoc, hdq, ← List.append_assoc, e1]
      · rw [List.length_append]; omega
    refine hmemQ (X' := RSha g ⟨h, s.n + mb, A1, c1, q⟩ :: _) (fun w m => (m.perm (takeR_perm [0, 0] _ [_, _] _ rfl)).pack) ?_
    exact hret0 trivial rfl [0] rfl [] rfl ⟨_, rfl, rfl, rfl, ⟨(by show q.length < 64; omega), hok⟩⟩
theorem stc_new {h : List UInt32} {n : Nat} {A : Option Addr} {m c : Nat} (hh : h.length = 8) {z : List Value} (hz : z.length = 10) : splice (splice (splice z 0 (wds h)) 8 [.int .i64 (n : Int)]) 9 [.slice A m c] = stc h n A m c := by
  have hw : (wds h).length = 8 := by rw [wds_length, hh]
  have e1 : splice z 0 (wds h) = wds h ++ z.drop 8 := by simp [splice, hw]
  match hq : z.drop 8, (show (z.drop 8).length = 2 by rw [List.length_drop, hz]) with
  | [x, y], _ =>
    rw [e1, hq]
    have e2 : splice (wds h ++ [x, y]) 8 [.int .i64 (n : Int)] = wds h ++ [.int .i64 (n : Int), y] := by
      rw [splice, List.take_append_of_le_length (by omega), List.take_of_length_le (by omega), List.drop_append, List.drop_of_length_le (by omega)]
      simp [hw]
    rw [e2, splice, List.take_append, List.take_of_length_le (by omega), List.drop_of_length_le (by simp [hw])]
    simp [hw, stc]
theorem bld_st {P : Program} {pl : Nat → Option (Nat × Nat)} {h : List UInt32} (hh : h.length = 8) {zs : List Value} (hz : zs.length = 10) (p0 : pl 0 = some (0, 8)) (p1 : pl 1 = some (8, 1)) (p2 : pl 2 = some (9, 1)) {n : Nat} {A : Option Addr} {m c : Nat} :
    Bld P pl zs [(0, .agg (wds h).toArray), (1, .int .i64 (n : Int)), (2, .slice A m c)] (stc h n A m c) := by
  have hw : (wds h).length = 8 := by rw [wds_length, hh]
  have l1 : (splice zs 0 (wds h)).length = 10 := by rw [splice_length (by omega), hz]
  have l2 : (splice (splice zs 0 (wds h)) 8 [Value.int .i64 (n : Int)]).length = 10 := by rw [splice_length (by rw [l1]; show 8 + 1 ≤ 10; decide), l1]
  refine .cons (vs := wds h) p0 rfl hw (by omega) (.cons (vs := [.int .i64 (n : Int)]) p1 rfl rfl (by omega) (.cons (vs := [.slice A m c]) p2 rfl rfl (by omega) ?_))
  have e := stc_new (n := n) (A := A) (m := m) (c := c) hh hz
  show Bld P pl (splice (splice (splice zs 0 (wds h)) 8 [.int .i64 (n : Int)]) 9 [.slice A m c]) [] _
  rw [e]
  exact .nil
theorem cloneSC {g : Nat} {s : ShSt} (hh : s.h.length = 8) (hr : s.rest.length ≤ 140737488351232) : Con Tryd.prog 155 [.pointer (some ⟨g, 0, none⟩)] [RSha g s] [] (fun v_ X_ S_ => ∃ g2 s2, v_ = (.pointer (some ⟨g2, 0, none⟩)) ∧ X_ = [RSha g s, RSha g2 s2] ∧ S_ = [] ∧ (s2.h = s.h ∧ s2.n = s.n ∧ s2.rest = s.rest)) := by
  refine henter (N := 18) Tryd.func155 rfl rfl (by simp) fun b => ?_
  refine hmemC (fun w m => (m.perm (takeR_perm [0] _ [_] _ rfl)).unpack) ?_
  have hl0 := stc_len (n := s.n) (A := s.A) (m := s.rest.length) (c := s.c) hh
  refine hseq <| hreg <| hy (fun _ => y_assign rfl) <| hend <| hthen <| hseq <| hdrw [12, 14] [(0, some 2), (1, some 1), (2, some 1), (3, some 1), (4, some 2), (5, some 1), (6, some 1), (7, some 1), (8, some 2), (9, some 2), (10, some 0), (11, some 0), (12, none), (13, some 1), (14, none), (15, some 2)] (by kernel_rfl) (by kernel_rfl) rfl 99 <| htyU (y_move rfl) <| htyU (y_nilp rfl) <| htyU (y_fld rfl fa224_0 (by decide)) <| hty (fun m => yV (y_ldN rfl ag222 sz222 (by rw [wds_length, hh]) (fun j u hu => (m.blk 0 rfl).cells0 j u (stc_h hu))) ((rfl : _ = Value.agg (wds s.h).toArray))) <| htyU (y_move rfl) <| htyU (y_nilp rfl) <| htyU (y_fld rfl fa224_1 (by decide)) <| hty (fun m => y_ld1 rfl ag3 ((m.blk 0 rfl).cells0 8 _ (stc_8 hh))) <| htyU (y_move rfl) <| htyU (y_nilp rfl) <| htyU (y_fld rfl fa224_2 (by decide)) <| hty (fun m => y_ld1 rfl ag32 ((m.blk 0 rfl).cells0 9 _ (stc_9 hh))) <| ?_
  refine htx (xh_calll rfl Tryd.call108 (cloneC (by omega)) [] rfl (.x 1 rfl .own .nil) ?_)
  rintro _ _ _ ⟨v, rfl, rfl, rfl⟩
  refine ⟨rfl, ?_⟩
  refine ⟨(fun _ => wk [1, 1] [] rfl rfl), ?_⟩
  refine htfact (fun m => (m.own 0 rfl).slice) ?_
  rintro ⟨A_x, c_x, rfl, hc_x⟩
  refine htfact (fun m => (m.ord 0 rfl).2.1) fun hA_x => ?_
  refine htyU (y_build ti224 rfl rfl (by kernel_rfl) (bld_st hh rfl (by kernel_rfl) (by kernel_rfl) (by kernel_rfl))) <| ?_
  refine htx (xh_box rfl (fun g17 => ⟨(fun _ => wk [2, 2] [] rfl rfl), ?_⟩))
  refine htyU (y_assign rfl) <| htend <| hsub (ρ' := [(2, _), (0, _)]) ⟨rfl, rfl, trivial⟩ <| hmemQ (X' := [_, _, _, _]) (S' := []) (fun _ m => m) <| hthen <| hret <| ?_
  refine hmemQ (fun w m => m.eqX 0 rfl (show _ = RBlk g17 224 (stc s.h s.n A_x s.rest.length c_x) from congrArg (RBlk _ _) (cells_agg _))) ?_
  refine hmemQ (X' := RSha g s :: _) (fun w m => (m.perm (takeR_perm [2, 2] _ [_, _] _ rfl)).pack) ?_
  refine hmemQ (X' := RSha g17 ⟨s.h, s.n, A_x, c_x, s.rest⟩ :: _) (fun w m => (m.perm (takeR_perm [1, 1] _ [_, _] _ rfl)).pack) ?_
  exact hret1 trivial rfl rfl [1, 0] rfl [] rfl ⟨_, _, rfl, rfl, rfl, ⟨rfl, rfl, rfl⟩⟩
end Go.Proofs.YtfikjheicjamhaaDoor
end
section
/- Contracts: the program's digest of bytes (layer 2): Sum. -/
set_option linter.unusedVariables false
set_option linter.unusedSimpArgs false
set_option maxRecDepth 20000
namespace Go.Proofs.YtfikjheicjamhaaDoor
open Go.Eng Go.Hx
theorem u64mod (n : Nat) (h : n < 18446744073709551616) : IntKind.u64.wrap (n : Int) = (n : Int) := by
  simp [IntKind.wrap, IntKind.signed, IntKind.bits]; omega
theorem be8_snoc {n i : Nat} (hi : i < 8) : (be8 n).take (i + 1) = (be8 n).take i ++ [UInt8.ofNat (n / 256 ^ (7 - i))] := by
  rw [be8, ← List.map_take, ← List.map_take, List.take_range, List.take_range, show min (i + 1) 8 = i + 1 by omega, show min i 8 = i by omega, List.range_succ, List.map_append]; rfl
theorem p56 {i : Nat} (hi : i < 8) : 2 ^ (56 - 8 * i) = 256 ^ (7 - i) := by
  rw [show (256 : Nat) = 2 ^ 8 from rfl, ← Nat.pow_mul]; congr 1; omega
theorem be4_get (h : List UInt32) (j : Nat) (hj : j < h.length) : digOf (h.take (j + 1)) = digOf (h.take j) ++ be4 (h.getD j 0) := by
  rw [List.take_succ_eq_append_getElem hj, digOf, digOf, List.flatMap_append]
  simp [List.getD, List.getElem?_eq_getElem hj]
theorem digOf_take (h : List UInt32) : ∀ j, j ≤ h.length → (digOf (h.take j)).length = 4 * j
  | 0, _ => rfl
  | j + 1, hj => by rw [be4_get h j (by omega), List.length_append, digOf_take h j (by omega)]; show 4 * j + 4 = _; omega
theorem set4 {p r : List UInt8} {k : Nat} {a b c d x y z u : UInt8} (hp : p.length = k) :
    ((((b8s (p ++ x :: y :: z :: u :: r)).set k (B8 a)).set (k + 1) (B8 b)).set (k + 2) (B8 c)).set (k + 3) (B8 d) = b8s (p ++ a :: b :: c :: d :: r) := by
  subst hp
  simp [b8s, List.set_append]
theorem sumSC {g : Nat} {s : ShSt} {all : List UInt8} (ok : s.ok all) (hr : s.rest.length < 64) (ha : all.length ≤ 140737488351232) : Con Tryd.prog 130 [.pointer (some ⟨g, 0, none⟩)] [RSha g s] [RRoots] (fun v_ X_ S_ => v_ = (.agg (b8s (shaL all)).toArray) ∧ X_ = [RSha g s] ∧ S_ = []) := by
  have hh := ok.len
  have hsn := ok.n
  have hl0 := stc_len (n := s.n) (A := s.A) (m := s.rest.length) (c := s.c) hh
  have hz64 : padZ s.n < 64 := Nat.mod_lt _ (by decide)
  have hzp : (s.n + (1 + padZ s.n)) % 64 = 56 := by unfold padZ; omega
  have hzm : ∀ j, j < padZ s.n → (s.n + (1 + j)) % 64 ≠ 56 := fun j hj => by unfold padZ at hj; omega
  refine henter (N := 83) Tryd.func130 rfl rfl (by simp) fun b => ?_
  refine hseq <| hreg <| ?_
  refine hx (xh_alloc ti23 (fun g2 => ?_))
  refine hend <| hmemQ (X' := [_, _]) (S' := [_]) (fun _ m => m) <| hthen <| hseq <| hreg <| hy (fun _ => y_move rfl) <| ?_
  refine hx (xh_call rfl Tryd.call155 (cloneSC (by omega) (by omega)) [1] rfl [] rfl ?_)
  rintro _ _ _ ⟨g22, s2, rfl, rfl, rfl, hp⟩
  refine hy (fun _ => y_assign rfl) <| hend <| hsub (ρ' := [(3, _), (2, _), (0, _)]) ⟨rfl, rfl, rfl, trivial⟩ <| hmemQ (X' := [_, _, _]) (S' := [_]) (fun _ m => m) <| hthen <| hseq <| hreg <| ?_
  refine hx (xh_bsl Tryd.underlying32 ti5 rfl rfl rfl (by simp [Value.cells, B8]) (by decide) (by decide) (fun g12 => ?_))
  have hA_b12 : 0 < 1 → (some (⟨g12, 0, none⟩ : Addr)) ≠ none := fun _ h => by cases h
  refine hy (fun _ => y_assign rfl) <| hend <| hsub (ρ' := [(4, _), (3, _), (2, _), (0, _)]) ⟨rfl, rfl, rfl, rfl, trivial⟩ <| hmemQ (X' := [_, _, _, _]) (S' := [_]) (fun _ m => m) <| hthen <| hseq <| hblock <| ?_
  obtain ⟨c1, c2, c3⟩ := hp
  refine hmemC (fun w m => m.eqX 0 rfl (show _ = ROwn 5 1 (.slice (some ⟨g12, 0, none⟩) 1 1) (1 + 0) (b8s (128 :: List.replicate 0 0)) from rfl)) ?_
  refine hloop3 (fun j A1 cc => padZ s.n - j) (fun j A1 cc => [(4, .slice A1 (1 + j) cc)]) (fun j A1 cc => [ROwn 5 1 (.slice A1 (1 + j) cc) (1 + j) (b8s (128 :: List.replicate j 0)), RSha g s]) (fun j A1 cc => []) (fun j A1 cc => j ≤ padZ s.n) 0 (some ⟨g12, 0, none⟩) 1 [(3, _), (2, _), (0, _)] ⟨rfl, rfl, rfl, trivial⟩ [0, 0] rfl [] rfl (Nat.zero_le _) ⟨rfl, trivial⟩ (fun j A1 cc hjz => ?_)
  refine hmemC (fun w m => (m.perm (takeR_perm [1] _ [_] _ rfl)).unpack) ?_
  refine hseq <| hseq <| hreg <| hy (fun _ => y_move rfl) <| hy (fun _ => y_nilp rfl) <| hy (fun _ => y_fld rfl fa224_1 (by decide)) <| hy (fun m => y_ld1 rfl ag3 ((m.blk 0 rfl).cells0 8 _ (stc_8 hh))) <| hy (fun _ => y_move rfl) <| hy (fun _ => y_lenS rfl Tryd.underlying32) <| hy (fun _ => y_add rfl rfl (w64 (by omega) (by omega))) <| hy (fun _ => y_rem rfl rfl (by omega) (by omega)) <| hy (fun _ => y_neq rfl rfl) <| hend <| hsub (ρ' := [(21, _), (4, _), (3, _), (2, _), (0, _)]) ⟨rfl, rfl, rfl, rfl, rfl, trivial⟩ <| hthen <| ?_
  refine hmemC (X' := RSha g s :: _) (fun w m => (m.perm (takeR_perm [0, 0] _ [_, _] _ rfl)).pack) ?_
  refine hif rfl (fun hne => ?_) (fun hne => ?_)
  · have hj : j < padZ s.n := by
      rcases Nat.lt_or_eq_of_le hjz with h | h
      · exact h
      · rw [← h] at hzp; omega
    refine hcskip <| hthen <| hblock <| hreg <| hy (fun _ => y_move rfl) <| ?_
    refine hx (xh_bsl Tryd.underlying32 ti5 rfl rfl rfl (by simp [Value.cells, B8]) (by decide) (by decide) (fun g23 => ?_))
    have hA_b23 : 0 < 1 → (some (⟨g23, 0, none⟩ : Addr)) ≠ none := fun _ h => by cases h
    refine hmemL (fun w m => m.eqX 0 rfl (show _ = ROwn 5 1 (.slice (some ⟨g23, 0, none⟩) 1 1) 1 (b8s [0]) from rfl)) ?_
    refine hx (xh_app 2 rfl rfl rfl Tryd.underlying32 Tryd.underlying32 (by exact .inl rfl) ti5 rfl (fun m => Src.of_rd (m.ord 0 rfl)) b8s_one (by unfold maxLen; omega) (by omega) (fun u => ?_))
    refine hfactL (fun m => (m.own 0 rfl).slice) ?_
    rintro ⟨A_b12, c_b12, rfl, hc_b12⟩
    refine hfactL (fun m => (m.ord 0 rfl).2.1) fun hA_b12 => ?_
    refine hy (fun _ => y_assign rfl) <| hend <| hsub (ρ' := [(4, _), (21, _), (3, _), (2, _), (0, _)]) ⟨rfl, rfl, rfl, rfl, rfl, trivial⟩ <| hmemQ (X' := [_, _, _, _, _]) (S' := [_]) (fun _ m => m) <| hqblock <| ?_
    refine hmemQ (fun w m => m.eqX 0 rfl (show _ = ROwn 5 1 (.slice A_b12 (1 + (j + 1)) c_b12) (1 + (j + 1)) (b8s (128 :: List.replicate (j + 1) 0)) from by rw [Nat.add_assoc, List.replicate_succ', b8s, b8s, b8s, ← List.map_append]; rfl)) ?_
    refine hnext3 (j + 1) A_b12 c_b12 ⟨rfl, rfl, rfl, rfl, trivial⟩ [0, 1, 1, 1] rfl [0] rfl (by omega) (by omega)
  · have hj : j = padZ s.n := by
      refine Decidable.byContradiction fun hn => ?_
      have := hzm j (by omega)
      omega
    subst hj
    have hsl : IntKind.u64.wrap ((s.n : Int) * 8) = ((8 * s.n : Nat) : Int) := by
      rw [show (s.n : Int) * 8 = ((8 * s.n : Nat) : Int) by omega]
      exact u64mod _ (by omega)
    refine hexit <| hthen_exit <| hthen_exit <| hqblock_exit <| hthen <| hseq <| hreg <| hy (fun _ => y_move rfl) <| hy (fun _ => y_nilp rfl) <| hy (fun _ => y_fld rfl fa224_1 (by decide)) <| hy (fun m => y_ld1 rfl ag3 ((show Blk _ _ _ _ from m.inP 0 rfl 0 rfl).cells0 8 _ (stc_8 hh))) <| hy (fun _ => y_conv rfl Tryd.underlying3 Tryd.underlying226 (u64mod s.n (by omega))) <| hy (fun _ => y_shl (p := 8) rfl rfl (by decide) (by decide) (by decide) hsl) <| hy (fun _ => y_assign rfl) <| hend <| hsub (ρ' := [(5, _), (21, _), (4, _), (3, _), (2, _), (0, _)]) ⟨rfl, rfl, rfl, rfl, rfl, rfl, trivial⟩ <| hthen <| hseq <| hseq <| hreg <| hy (fun _ => y_move rfl) <| hend <| hthen <| hblock <| ?_
    generalize hz : padZ s.n = z at hz64
    refine hmemC (fun w m => m.eqX 1 rfl (show _ = ROwn 5 1 (.slice A1 (1 + z + 0) cc) (1 + z + 0) (b8s (128 :: List.replicate z 0 ++ (be8 (8 * s.n)).take 0)) from by rw [List.take_zero, List.append_nil]; rfl)) ?_
    refine hloop3 (fun i A2 ce => 8 - i) (fun i A2 ce => [(4, .slice A2 (1 + z + i) ce), (31, .int .i64 (i : Nat))]) (fun i A2 ce => [ROwn 5 1 (.slice A2 (1 + z + i) ce) (1 + z + i) (b8s (128 :: List.replicate z 0 ++ (be8 (8 * s.n)).take i))]) (fun i A2 ce => []) (fun i A2 ce => i ≤ 8) 0 A1 cc [(5, _), (21, _), (3, _), (2, _), (0, _)] ⟨rfl, rfl, rfl, rfl, rfl, trivial⟩ [0] rfl [] rfl (Nat.zero_le _) ⟨rfl, rfl, trivial⟩ (fun i A2 ce hi8 => ?_)
    refine hseq <| hreg <| hy (fun _ => y_lss rfl rfl) <| hend <| hthen <| hseq <| ?_
    refine hif rfl (fun hi => ?_) (fun hi => ?_)
    · have hcv : IntKind.u8.wrap (((8 * s.n : Nat) : Int) / ((2 ^ (56 - 8 * i) : Nat) : Int)) = ((UInt8.ofNat (8 * s.n / 256 ^ (7 - i))).toNat : Int) := by
        rw [← Int.natCast_ediv, p56 (by omega)]
        exact u8mod _
      have hsb : (56 : Int) - 8 * (i : Int) = ((56 - 8 * i : Nat) : Int) := by omega
      refine hcskip <| hthen <| hseq <| hblock <| hseq <| hreg <| hy (fun _ => y_move rfl) <| hy (fun _ => y_assign rfl) <| hend <| hsub (ρ' := [(6, _), (32, _), (4, _), (31, _), (5, _), (21, _), (3, _), (2, _), (0, _)]) ⟨rfl, rfl, rfl, rfl, rfl, rfl, rfl, rfl, rfl, trivial⟩ <| hthen <| hreg <| hy (fun _ => y_move rfl) <| hy (fun _ => y_move rfl) <| hy (fun _ => y_move rfl) <| hy (fun _ => y_mul rfl rfl (w64 (by omega) (by omega))) <| hy (fun _ => y_sub rfl rfl (w64 (by omega) (by omega))) <| ?_
      rw [hsb]
      refine hy (fun _ => y_shr rfl rfl (by omega) (by simp [IntKind.bits]; omega) (show (2 : Int) ^ (((56 - 8 * i : Nat) : Int)).toNat = ((2 ^ (56 - 8 * i) : Nat) : Int) by rw [Int.toNat_natCast]; simp)) <| hy (fun _ => y_conv rfl Tryd.underlying226 Tryd.underlying5 hcv) <| ?_
      refine hx (xh_bsl Tryd.underlying32 ti5 rfl rfl rfl (by simp [Value.cells, B8]) (by decide) (by decide) (fun g41 => ?_))
      have hA_b41 : 0 < 1 → (some (⟨g41, 0, none⟩ : Addr)) ≠ none := fun _ h => by cases h
      refine hmemL (fun w m => m.eqX 0 rfl (show _ = ROwn 5 1 (.slice (some ⟨g41, 0, none⟩) 1 1) 1 (b8s [UInt8.ofNat (8 * s.n / 256 ^ (7 - i))]) from rfl)) ?_
      refine hx (xh_app 1 rfl rfl rfl Tryd.underlying32 Tryd.underlying32 (by exact .inl rfl) ti5 rfl (fun m => Src.of_rd (m.ord 0 rfl)) b8s_one (by unfold maxLen; omega) (by omega) (fun u => ?_))
      refine hfactL (fun m => (m.own 0 rfl).slice) ?_
      rintro ⟨A_b12, c_b12, rfl, hc_b12⟩
      refine hfactL (fun m => (m.ord 0 rfl).2.1) fun hA_b12 => ?_
      refine hy (fun _ => y_assign rfl) <| hend <| hsub (ρ' := [(4, _), (6, _), (32, _), (31, _), (5, _), (21, _), (3, _), (2, _), (0, _)]) ⟨rfl, rfl, rfl, rfl, rfl, rfl, rfl, rfl, rfl, trivial⟩ <| hmemQ (X' := [_, _, _, _, _]) (S' := [_]) (fun _ m => m) <| hqblock <| hthen <| hreg <| hy (fun _ => y_add rfl rfl (w64 (by omega) (by omega))) <| hy (fun _ => y_move rfl) <| hend <| hsub (ρ' := [(31, _), (4, _), (6, _), (32, _), (5, _), (21, _), (3, _), (2, _), (0, _)]) ⟨rfl, rfl, rfl, rfl, rfl, rfl, rfl, rfl, rfl, trivial⟩ <| ?_
      refine hmemQ (fun w m => m.eqX 0 rfl (show _ = ROwn 5 1 (.slice A_b12 (1 + z + (i + 1)) c_b12) (1 + z + (i + 1)) (b8s (128 :: List.replicate z 0 ++ (be8 (8 * s.n)).take (i + 1))) from by rw [be8_snoc (by omega), ← List.append_assoc]; simp [b8s, Nat.add_assoc])) ?_
      refine hnext3 (i + 1) A_b12 c_b12 ⟨rfl, rfl, rfl, rfl, rfl, rfl, rfl, trivial⟩ [0, 1, 1, 1] rfl [0] rfl (by omega) (by omega)
    · obtain rfl : i = 8 := by omega
      have hpad : all ++ (128 :: List.replicate z 0 ++ (be8 (8 * s.n)).take 8) = padL all := by
        rw [List.take_of_length_le (by simp [be8]), padL, ← hsn, hz, List.append_assoc]
      refine hexit <| hthen_exit <| hthen_exit <| hqblock_exit <| hthen <| hseq <| hreg <| hy (fun _ => y_move rfl) <| hy (fun _ => y_move rfl) <| ?_
      refine hx (xh_calll rfl Tryd.call129 (writeSC (by rw [c1]; exact hh) (by rw [c2]; omega) (by rw [c3]; omega) (s := s2) (l := (128 :: List.replicate z 0 ++ (be8 (8 * s.n)).take 8))) [2] rfl (.x 0 rfl .own (.s 0 rfl .nil)) ?_)
      rintro _ _ _ ⟨s1, rfl, rfl, rfl, hw⟩
      refine ⟨rfl, ?_⟩
      obtain ⟨hw1, hw2⟩ := hw
      have ok2 : s2.ok all := ⟨by rw [c1]; exact hh, by rw [c2]; exact hsn, by rw [c1, c3]; exact ok.mid⟩
      have ok3 := hw2 all ok2
      rw [hpad] at ok3
      have hh3 := ok3.len
      have hfin : s1.h = foldB h0L (padL all) := by
        obtain ⟨D, e1, e2, e3⟩ := ok3.mid
        have hl := congrArg List.length e1
        rw [List.length_append] at hl
        have hp := padL_length all
        have : s1.rest = [] := List.eq_nil_of_length_eq_zero (by omega)
        rw [this, List.append_nil] at e1
        rw [e3, e1]
      have hsha : digOf s1.h = shaL all := by rw [hfin]; rfl
      have hd32 := digOf_take s1.h
      have hl3 := stc_len (n := s1.n) (A := s1.A) (m := s1.rest.length) (c := s1.c) hh3
      refine hmemL (fun w m => (m.perm (takeR_perm [0] _ [_] _ rfl)).unpack) ?_
      refine hend <| hsub (ρ' := [(32, _), (4, _), (31, _), (5, _), (21, _), (3, _), (2, _), (0, _)]) ⟨rfl, rfl, rfl, rfl, rfl, rfl, rfl, rfl, trivial⟩ <| hmemQ (X' := [_, _, _, _, _]) (S' := [_]) (fun _ m => m) <| hthen <| hseq <| hreg <| ?_
      refine hx (xh_alloc ti23 (fun g7 => ?_))
      refine hmemL (fun w m => m.eqX 0 rfl (show _ = RBlk g7 23 (b8s (digOf (s1.h.take 0) ++ List.replicate (32 - 4 * 0) 0)) from rfl)) ?_
      refine hend <| hmemQ (X' := [_, _, _, _, _, _]) (S' := [_]) (fun _ m => m) <| hthen <| hseq <| hseq <| hreg <| hy (fun _ => y_move rfl) <| hy (fun _ => y_nilp rfl) <| hy (fun _ => y_fld rfl fa224_0 (by decide)) <| hy (fun m => yV (y_ldN rfl ag222 sz222 (by rw [wds_length, hh3]) (fun j u hu => (m.blk 1 rfl).cells0 j u (stc_h hu))) ((rfl : _ = Value.agg (wds s1.h).toArray))) <| hy (fun _ => y_move rfl) <| hend <| hsub (ρ' := [(51, _), (50, _), (7, _), (32, _), (4, _), (31, _), (5, _), (21, _), (3, _), (2, _), (0, _)]) ⟨rfl, rfl, rfl, rfl, rfl, rfl, rfl, rfl, rfl, rfl, rfl, trivial⟩ <| hthen <| hblock <| ?_
      refine hloop1 (fun k => 8 - k) (fun k => [(51, .int .i64 (k : Nat))]) (fun k => [RBlk g7 23 (b8s (digOf (s1.h.take k) ++ List.replicate (32 - 4 * k) 0))]) (fun k => []) (fun k => k ≤ 8) 0 [(50, _), (7, _), (32, _), (4, _), (31, _), (5, _), (21, _), (3, _), (2, _), (0, _)] ⟨rfl, rfl, rfl, rfl, rfl, rfl, rfl, rfl, rfl, rfl, trivial⟩ [0] rfl [] rfl (Nat.zero_le _) ⟨rfl, trivial⟩ (fun k hk8 => ?_)
      refine hseq <| hreg <| hy (fun _ => y_lss rfl rfl) <| hend <| hthen <| hseq <| ?_
      refine hif rfl (fun hk => ?_) (fun hk => ?_)
      · have hdk := hd32 k (by omega)
        have hr4 : List.replicate (32 - 4 * k) (0 : UInt8) = 0 :: 0 :: 0 :: 0 :: List.replicate (32 - 4 * (k + 1)) 0 := by
          rw [show 32 - 4 * k = (32 - 4 * (k + 1)) + 4 by omega]; rfl
        refine hcskip <| hthen <| hseq <| hblock <| hseq <| hreg <| hy (fun _ => y_move rfl) <| hy (fun _ => yV (y_idxV rfl rfl Tryd.underlying222 sz120 ag120 rfl (by omega) (wds_get (by omega))) ((rfl : _ = Wd (s1.h.getD k 0)))) <| hy (fun _ => y_assign rfl) <| hy (fun _ => y_assign rfl) <| hend <| hsub (ρ' := [(9, _), (8, _), (52, _), (51, _), (50, _), (7, _), (32, _), (4, _), (31, _), (5, _), (21, _), (3, _), (2, _), (0, _)]) ⟨rfl, rfl, rfl, rfl, rfl, rfl, rfl, rfl, rfl, rfl, rfl, rfl, rfl, rfl, trivial⟩ <| hthen <| hreg <| hy (fun _ => y_move rfl) <| hy (fun _ => y_mul rfl rfl (w64 (by omega) (by omega))) <| hy (fun _ => y_move rfl) <| hy (fun _ => y_mul rfl rfl (w64 (by omega) (by omega))) <| hy (fun _ => y_add rfl rfl (w64 (by omega) (by omega))) <| hy (fun _ => y_move rfl) <| hy (fun _ => y_mul rfl rfl (w64 (by omega) (by omega))) <| hy (fun _ => y_add rfl rfl (w64 (by omega) (by omega))) <| hy (fun _ => y_move rfl) <| hy (fun _ => y_mul rfl rfl (w64 (by omega) (by omega))) <| hy (fun _ => y_add rfl rfl (w64 (by omega) (by omega))) <| hy (fun _ => y_move rfl) <| hy (fun _ => y_wshrD (k := 24) (b := 16777216) (by decide) rfl rfl rfl) <| hy (fun _ => y_8w rfl Tryd.underlying120 Tryd.underlying5) <| hy (fun _ => y_move rfl) <| hy (fun _ => y_wshrD (k := 16) (b := 65536) (by decide) rfl rfl rfl) <| hy (fun _ => y_8w rfl Tryd.underlying120 Tryd.underlying5) <| hy (fun _ => y_move rfl) <| hy (fun _ => y_wshrD (k := 8) (b := 256) (by decide) rfl rfl rfl) <| hy (fun _ => y_8w rfl Tryd.underlying120 Tryd.underlying5) <| hy (fun _ => y_move rfl) <| hy (fun _ => y_8w rfl Tryd.underlying120 Tryd.underlying5) <| hy (fun _ => y_idxA1 rfl rfl Tryd.underlying23 sz5 (show ((4 * k : Nat) : Int) = _ by omega) (by omega)) <| ?_
        refine hx0 (xh_st1a 0 rfl rfl rfl sz5 rfl (by simp [b8s]; omega) ?_)
        refine hy (fun _ => y_idxA1 rfl rfl Tryd.underlying23 sz5 (show ((4 * k + 1 : Nat) : Int) = _ by omega) (by omega)) <| ?_
        refine hx0 (xh_st1a 0 rfl rfl rfl sz5 rfl (by simp [b8s]; omega) ?_)
        refine hy (fun _ => y_idxA1 rfl rfl Tryd.underlying23 sz5 (show ((4 * k + 2 : Nat) : Int) = _ by omega) (by omega)) <| ?_
        refine hx0 (xh_st1a 0 rfl rfl rfl sz5 rfl (by simp [b8s]; omega) ?_)
        refine hy (fun _ => y_idxA1 rfl rfl Tryd.underlying23 sz5 (show ((4 * k + 3 : Nat) : Int) = _ by omega) (by omega)) <| ?_
        refine hx0 (xh_st1a 0 rfl rfl rfl sz5 rfl (by simp [b8s]; omega) ?_)
        refine hend <| hsub (ρ' := [(9, _), (8, _), (52, _), (51, _), (50, _), (7, _), (32, _), (4, _), (31, _), (5, _), (21, _), (3, _), (2, _), (0, _)]) ⟨rfl, rfl, rfl, rfl, rfl, rfl, rfl, rfl, rfl, rfl, rfl, rfl, rfl, rfl, trivial⟩ <| hmemQ (X' := [_, _, _, _, _, _]) (S' := [_]) (fun _ m => m) <| hqblock <| hthen <| hreg <| hy (fun _ => y_add rfl rfl (w64 (by omega) (by omega))) <| hy (fun _ => y_move rfl) <| hend <| hsub (ρ' := [(51, _), (9, _), (8, _), (52, _), (50, _), (7, _), (32, _), (4, _), (31, _), (5, _), (21, _), (3, _), (2, _), (0, _)]) ⟨rfl, rfl, rfl, rfl, rfl, rfl, rfl, rfl, rfl, rfl, rfl, rfl, rfl, rfl, trivial⟩ <| ?_
        refine hmemQ (fun w m => m.eqX 0 rfl (show _ = RBlk g7 23 (b8s (digOf (s1.h.take (k + 1)) ++ List.replicate (32 - 4 * (k + 1)) 0)) from by rw [hr4, Nat.zero_add, Nat.zero_add, Nat.zero_add, Nat.zero_add, set4 hdk, be4_get _ _ (by omega)]; simp [be4])) ?_
        refine hnext1 (k + 1) ⟨rfl, rfl, rfl, rfl, rfl, rfl, rfl, rfl, rfl, rfl, rfl, trivial⟩ [0, 0, 0, 0, 0, 0] rfl [0] rfl (by omega) (by omega)
      · obtain rfl : k = 8 := by omega
        refine hmemC (fun w m => m.eqX 0 rfl (show _ = RBlk g7 23 (b8s (shaL all)) from by rw [List.take_of_length_le (by omega), hsha]; simp)) ?_
        refine hexit <| hthen_exit <| hthen_exit <| hqblock_exit <| hthen <| hseq <| hreg <| hy (fun m => yV (y_ldN rfl ag23 sz23 (by rw [b8s_length, shaL_length]) ((m.blk 0 rfl).cells0)) ((rfl : _ = Value.agg (b8s (shaL all)).toArray))) <| ?_
        refine hx0 (xh_stA 5 rfl rfl rfl sz23 (by rw [b8s_length, shaL_length]) b8s_one rfl ?_)
        refine hend <| hsub (ρ' := [(52, _), (51, _), (50, _), (7, _), (32, _), (4, _), (31, _), (5, _), (21, _), (3, _), (2, _), (0, _)]) ⟨rfl, rfl, rfl, rfl, rfl, rfl, rfl, rfl, rfl, rfl, rfl, rfl, trivial⟩ <| hmemQ (X' := [_, _, _, _, _, _]) (S' := [_]) (fun _ m => m) <| hthen <| hret <| ?_
        exact hretN trivial rfl rfl ag23 sz23 (by rw [b8s_length, shaL_length]) (fun m => (m.blk 0 rfl).cells0) [5] rfl [] rfl ⟨rfl, rfl, rfl⟩
theorem shaSumC {A : Option Addr} {n c : Nat} {l : List UInt8} (hn : n ≤ 140737488351232) : Con Tryd.prog 82 [.slice A n c] [] [RRd 1 A n (b8s l), RRoots] (fun v_ X_ S_ => v_ = (.agg (b8s (shaL l)).toArray) ∧ X_ = [] ∧ S_ = []) := by
  refine henter (N := 10) Tryd.func82 rfl rfl (by simp) fun b => ?_
  refine hfactC (fun m => rdB (m.rd 0 rfl)) ?_
  rintro ⟨hl_r, hA_r⟩
  have hln : l.length = n := hl_r
  refine hseq <| hreg <| ?_
  refine hx (xh_alloc ti23 (fun g2 => ?_))
  refine hend <| hmemQ (X' := [_]) (S' := [_, _]) (fun _ m => m) <| hthen <| hseq <| hreg <| ?_
  refine hx (xh_call rfl Tryd.call128 (newSC) [] rfl [] rfl ?_)
  rintro _ _ _ ⟨g, rfl, rfl, rfl⟩
  refine hy (fun _ => y_assign rfl) <| hend <| hsub (ρ' := [(3, _), (2, _), (0, _)]) ⟨rfl, rfl, rfl, trivial⟩ <| hmemQ (X' := [_, _]) (S' := [_, _]) (fun _ m => m) <| hthen <| hseq <| hreg <| hy (fun _ => y_move rfl) <| hy (fun _ => y_move rfl) <| ?_
  refine hx (xh_call rfl Tryd.call129 (writeSC rfl (by show 0 + n ≤ _; omega) (by show 0 + n ≤ _; omega) (s := ⟨h0L, 0, none, 0, []⟩)) [0] rfl [0, 1] rfl ?_)
  rintro _ _ _ ⟨s1, rfl, rfl, rfl, hw⟩
  refine hend <| hsub (ρ' := [(3, _), (2, _), (0, _)]) ⟨rfl, rfl, rfl, trivial⟩ <| hmemQ (X' := [_, _]) (S' := [_, _]) (fun _ m => m) <| hthen <| hseq <| hreg <| ?_
  obtain ⟨hw1, hw2⟩ := hw
  have ok1 := hw2 [] ok_new
  rw [List.nil_append] at ok1
  refine hy (fun _ => y_move rfl) <| ?_
  refine hx (xh_call rfl Tryd.call130 (sumSC ok1 hw1 (by omega) (all := l)) [0] rfl [1] rfl ?_)
  rintro _ _ _ ⟨rfl, rfl, rfl⟩
  refine hx0 (xh_stA 1 rfl rfl rfl sz23 (by rw [b8s_length, shaL_length]) b8s_one rfl ?_)
  refine hend <| hsub (ρ' := [(3, _), (2, _), (0, _)]) ⟨rfl, rfl, rfl, trivial⟩ <| hmemQ (X' := [_, _]) (S' := [_, _]) (fun _ m => m) <| hthen <| hret <| ?_
  exact hretN trivial rfl rfl ag23 sz23 (by rw [b8s_length, shaL_length]) (fun m => (m.blk 0 rfl).cells0) [] rfl [] rfl ⟨rfl, rfl, rfl⟩
end Go.Proofs.YtfikjheicjamhaaDoor
end
section
/- Contracts: chunks by their names (layer 13): Get, Has. -/
set_option linter.unusedVariables false
set_option linter.unusedSimpArgs false
set_option maxRecDepth 20000
set_option maxHeartbeats 4000000
namespace Go.Proofs.YtfikjheicjamhaaDoor
open Go.Eng Go.Hx
theorem getC {g : Nat} {st : DSt} {d : RD} {kk : Nat} {nm : List UInt8} (hD : DS st d kk) (hm : nm.length = 32) : Con Tryd.prog 39 [.pointer (some ⟨g, 0, none⟩), .agg (b8s nm).toArray] [RDisk g st] [RRoots] (fun v_ X_ S_ => ∃ v, v_ = (.tuple #[v, .int .i64 (d.getE nm)]) ∧ X_ = [RDisk g st, ROwn 5 1 v (d.getB nm).length (b8s (d.getB nm))] ∧ S_ = []) := by
  have hlen := hD.rd_len (placeL nm)
  have hol := openL_len (f := d.readB (placeL nm)) (most := 4096) (by decide)
  refine henter (N := 33) Tryd.func39 rfl rfl (by simp) fun b => ?_
  refine hseq <| hreg <| ?_
  refine hx (xh_box rfl (fun g3 => ?_))
  refine hmemL (fun w m => m.eqX 0 rfl (show _ = RBlk g3 23 (b8s nm) from congrArg (RBlk _ _) (cells_agg _))) ?_
  refine hy (fun _ => y_assign rfl) <| hy (fun _ => y_assign rfl) <| hend <| hmemQ (X' := [_, _]) (S' := [_]) (fun _ m => m) <| hthen <| hseq <| hreg <| hy (fun _ => y_move rfl) <| hy (fun m => y_ldN rfl ag23 sz23 (by rw [b8s_length]; exact hm) ((m.blk 0 rfl).cells0)) <| ?_
  refine hx (xh_call rfl Tryd.call34 (placeC hm) [] rfl [] rfl ?_)
  rintro _ _ _ ⟨rfl, rfl, rfl⟩
  refine hx (xh_call rfl Tryd.call65 (dreadC hD) [1] rfl [] rfl ?_)
  rintro _ _ _ ⟨v, rfl, rfl, rfl⟩
  refine hfactL (fun m => (m.own 1 rfl).slice) ?_
  rintro ⟨A_x, c_x, rfl, hc_x⟩
  refine hfactL (fun m => (m.ord 1 rfl).2.1) fun hA_x => ?_
  refine hy (fun _ => y_move rfl) <| hy (fun _ => y_extract rfl rfl) <| hy (fun _ => y_extract rfl rfl) <| hy (fun _ => y_assign rfl) <| hy (fun _ => y_assign rfl) <| hend <| hsub (ρ' := [(7, _), (6, _), (5, _), (4, _), (3, _), (0, _), (1, _)]) ⟨rfl, rfl, rfl, rfl, rfl, rfl, rfl, trivial⟩ <| hmemQ (X' := [_, _, _]) (S' := [_]) (fun _ m => m) <| hthen <| hseq <| hseq <| hreg <| hy (fun _ => y_move rfl) <| hy (fun _ => y_neq rfl rfl) <| hend <| hsub (ρ' := [(17, _), (7, _), (6, _), (5, _), (4, _), (3, _), (0, _), (1, _)]) ⟨rfl, rfl, rfl, rfl, rfl, rfl, rfl, rfl, trivial⟩ <| hthen <| ?_
  refine hif rfl (fun h1 => ?_) (fun h1 => ?_)
  · rw [getE_read h1, getB_no (by rw [getE_read h1]; exact h1)]
    refine hseq <| hreg <| hy (fun _ => y_move rfl) <| hy (fun _ => y_assign rfl) <| hy (fun _ => y_assign rfl) <| hend <| hsub (ρ' := [(5, _), (4, _), (17, _), (7, _), (6, _), (3, _), (0, _), (1, _)]) ⟨rfl, rfl, rfl, rfl, rfl, rfl, rfl, rfl, trivial⟩ <| hthen <| hret <| hthen_ret <| ?_
    refine hmemQ (fun w m => m.addX (r' := ROwn 5 1 (.slice none 0 0) 0 []) (.refl _ _) (Own.nil _ _ _ _) (fun k hk => hk.elim)) ?_
    exact hret2 trivial rfl rfl rfl [1, 0] rfl [] rfl ⟨_, rfl, rfl, rfl⟩
  · have h1 := Decidable.not_not.1 h1
    refine hcskip <| hthen <| hseq <| hreg <| hy (fun _ => y_move rfl) <| ?_
    refine hx (xh_calll rfl Tryd.call59 (openC hc_x (by omega) (show (4096 : Int) ≤ 1000000 by decide)) [] rfl (.x 1 rfl .own .nil) ?_)
    rintro _ _ _ ⟨v2, rfl, rfl, rfl⟩
    refine ⟨rfl, ?_⟩
    refine hfactL (fun m => (m.own 0 rfl).slice) ?_
    rintro ⟨A_x2, c_x2, rfl, hc_x2⟩
    refine hfactL (fun m => (m.ord 0 rfl).2.1) fun hA_x2 => ?_
    refine hy (fun _ => y_move rfl) <| hy (fun _ => y_extract rfl rfl) <| hy (fun _ => y_extract rfl rfl) <| hy (fun _ => y_assign rfl) <| hy (fun _ => y_assign rfl) <| hend <| hsub (ρ' := [(7, _), (8, _), (17, _), (6, _), (5, _), (4, _), (3, _), (0, _), (1, _)]) ⟨rfl, rfl, rfl, rfl, rfl, rfl, rfl, rfl, rfl, trivial⟩ <| hmemQ (X' := [_, _, _, _]) (S' := [_]) (fun _ m => m) <| hthen <| hseq <| hseq <| hdrw [4] [(0, some 0), (1, some 0), (2, some 0), (3, some 0), (5, some 1), (4, none), (6, some 1), (7, some 1)] (by kernel_rfl) (by kernel_rfl) rfl 99 <| htyU (y_move rfl) <| htyU (y_neq rfl rfl) <| htyU (y_move rfl) <| ?_
    refine htsplit 26 rfl (fun h2 => ?_) (fun h2 => ?_)
    · have hE := getE_bad (d := d) (nm := nm) h1 (.inl h2)
      rw [hE, getB_no (by rw [hE]; decide)]
      refine htskip rfl rfl rfl (by decide) <| htskip rfl rfl rfl (by decide) <| htskipx rfl rfl rfl (by decide) (fun _ => wk [0, 0, 0, 0] [0] rfl rfl) <| htskip rfl rfl rfl (by decide) <| htyU (y_pickT rfl rfl) <| htend <| hsub (ρ' := [(31, _), (7, _), (8, _), (17, _), (6, _), (5, _), (4, _), (3, _), (0, _), (1, _)]) ⟨rfl, rfl, rfl, rfl, rfl, rfl, rfl, rfl, rfl, rfl, trivial⟩ <| hthen <| ?_
      refine hift rfl (rfl) ?_
      refine hseq <| hreg <| hy (fun _ => y_assign rfl) <| hy (fun _ => y_assign rfl) <| hend <| hthen <| hret <| hthen_ret <| ?_
      refine hmemQ (fun w m => m.addX (r' := ROwn 5 1 (.slice none 0 0) 0 []) (.refl _ _) (Own.nil _ _ _ _) (fun k hk => hk.elim)) ?_
      exact hret2 trivial rfl rfl rfl [2, 0] rfl [] rfl ⟨_, rfl, rfl, rfl⟩
    · have h2 := Decidable.not_not.1 h2
      refine htyUg (o := _) rfl rfl rfl (y_move rfl) <| htyg (o := _) rfl rfl rfl (fun m => y_ldN rfl ag23 sz23 (by rw [b8s_length]; exact hm) ((m.blk 3 rfl).cells0)) <| ?_
      refine htxg (o := _) rfl rfl rfl (xh_calll rfl Tryd.call82 (shaSumC (by omega)) [] rfl (.x 0 rfl .own (.s 0 rfl .nil)) ?_)
      rintro _ _ _ ⟨rfl, rfl, rfl⟩
      refine ⟨rfl, ?_⟩
      refine ⟨(fun _ => wk [0, 0, 0, 0] [0] rfl rfl), ?_⟩
      refine htyUg (o := _) rfl rfl rfl (y_neD23 rfl rfl (shaL_length _) hm) <| htyU (y_pickF rfl rfl) <| htend <| hsub (ρ' := [(31, _), (7, _), (8, _), (17, _), (6, _), (5, _), (4, _), (3, _), (0, _), (1, _)]) ⟨rfl, rfl, rfl, rfl, rfl, rfl, rfl, rfl, rfl, rfl, trivial⟩ <| hmemQ (X' := [_, _, _, _]) (S' := [_]) (fun _ m => m) <| hthen <| ?_
      refine hif rfl (fun h3 => ?_) (fun h3 => ?_)
      · have hE := getE_bad (d := d) (nm := nm) h1 (.inr h3)
        rw [hE, getB_no (by rw [hE]; decide)]
        refine hseq <| hreg <| hy (fun _ => y_assign rfl) <| hy (fun _ => y_assign rfl) <| hend <| hthen <| hret <| hthen_ret <| ?_
        refine hmemQ (fun w m => m.addX (r' := ROwn 5 1 (.slice none 0 0) 0 []) (.refl _ _) (Own.nil _ _ _ _) (fun k hk => hk.elim)) ?_
        exact hret2 trivial rfl rfl rfl [2, 0] rfl [] rfl ⟨_, rfl, rfl, rfl⟩
      · have hE := getE_ok (d := d) (nm := nm) h1 (fun q => q.elim (fun q => q h2) h3)
        rw [hE, getB_ok hE]
        refine hcskip <| hthen <| hseq <| hreg <| hy (fun _ => y_move rfl) <| hy (fun _ => y_assign rfl) <| hy (fun _ => y_assign rfl) <| hend <| hsub (ρ' := [(5, _), (4, _), (31, _), (7, _), (8, _), (17, _), (6, _), (3, _), (0, _), (1, _)]) ⟨rfl, rfl, rfl, rfl, rfl, rfl, rfl, rfl, rfl, rfl, trivial⟩ <| hthen <| hret <| ?_
        exact hret2 trivial rfl rfl rfl [1, 0] rfl [] rfl ⟨_, rfl, rfl, rfl⟩
end Go.Proofs.YtfikjheicjamhaaDoor
end
section
/- Contracts: chunks by their names (layer 13): steps one behind the other, Put. -/
set_option linter.unusedVariables false
set_option linter.unusedSimpArgs false
set_option maxRecDepth 20000
set_option maxHeartbeats 4000000
namespace Go.Proofs.YtfikjheicjamhaaDoor
open Go.Eng Go.Hx
theorem ag137 : aggB Tryd.prog 137 = some false := by kernel_rfl
theorem sz137 : szB Tryd.prog 137 = some 1 := by kernel_rfl
theorem ti137 : TI Tryd.prog 137 .nilFunc 1 8 := by unfold TI; kernel_rfl
/-- a function value that does a step to a disk -/
def StepV (g : Nat) (L : List Res) (v : Value) (F : RD → RD × Int) : Prop := ∃ (f : Nat) (first cap : List Value), v = .func (.func f) first.toArray cap.toArray ∧ (∀ args w, (callFunc f args).run Tryd.prog w = .ok (.enter f args) w) ∧
  ∀ (st : DSt) (d : RD) (kk : Nat), DS st d kk → kk ≤ 99000 → Con Tryd.prog f (first ++ [] ++ cap) [RDisk g st] [RAll L] (fun v_ X_ S_ => ∃ st1, v_ = .int .i64 (F d).2 ∧ X_ = [RDisk g st1] ∧ S_ = [] ∧ DS st1 (F d).1 (kk + 1))
theorem allC {g : Nat} {st : DSt} {d : RD} {kk : Nat} {A : Option Addr} {n c : Nat} {fs : List Value} {Fs : List (RD → RD × Int)} {L : List Res} (hD : DS st d kk) (hkk : kk + n ≤ 99000) (hn : n ≤ 100000) (hF : Fs.length = n) (hfs : ∀ (i : Nat) (F : RD → RD × Int), Fs[i]? = some F → ∃ v, fs[i]? = some v ∧ StepV g L v F) : Con Tryd.prog 98 [.slice A n c] [RDisk g st] [RRd 1 A n fs, RAll L] (fun v_ X_ S_ => ∃ st1, v_ = (.int .i64 (runF Fs d).2) ∧ X_ = [RDisk g st1] ∧ S_ = [] ∧ (DS st1 (runF Fs d).1 (kk + n))) := by
  obtain ⟨d0, hd0⟩ : ∃ d0, d0 = runF Fs d := ⟨_, rfl⟩
  rw [← hd0]
  refine henter (N := 18) Tryd.func98 rfl rfl (by simp) fun b => ?_
  refine hfactC (fun m => rdX (m.rd 0 rfl)) ?_
  rintro ⟨hl_f, hA_f⟩
  refine hseq <| hreg <| hy (fun _ => y_assign rfl) <| hend <| hthen <| hseq <| hseq <| hreg <| hy (fun _ => y_move rfl) <| hy (fun _ => y_lenS rfl Tryd.underlying207) <| hy (fun _ => y_move rfl) <| hend <| hthen <| hblock <| ?_
  refine hloop3 (fun k st d => n - k) (fun k st d => [(8, .int .i64 (k : Nat))]) (fun k st d => [RDisk g st]) (fun k st d => []) (fun k st d => k ≤ n ∧ DS st d (kk + k) ∧ runF (Fs.drop k) d = d0) 0 st d [(7, _), (6, _), (0, _)] ⟨rfl, rfl, rfl, trivial⟩ [0] rfl [] rfl (⟨Nat.zero_le _, hD, hd0.symm⟩) ⟨rfl, trivial⟩ (fun k st d ⟨hk, hD, hR⟩ => ?_)
  refine hseq <| hreg <| hy (fun _ => y_lss rfl rfl) <| hend <| hthen <| hseq <| ?_
  refine hif rfl (fun hlt => ?_) (fun hlt => ?_)
  · obtain ⟨F, hFk⟩ : ∃ F, Fs[k]? = some F := ⟨_, List.getElem?_eq_getElem (by omega)⟩
    obtain ⟨v, hv, f, first, cap, rfl, hcall, hcon⟩ := hfs k F hFk
    have hdr : Fs.drop k = F :: Fs.drop (k + 1) := by
      have hlt2 : k < Fs.length := by omega
      rw [List.drop_eq_getElem_cons hlt2]
      congr 1
      exact Option.some.inj ((List.getElem?_eq_getElem hlt2).symm.trans hFk)
    rw [hdr] at hR
    refine hcskip <| hthen <| hseq <| hblock <| hseq <| hreg <| hy (fun _ => y_idxS1 rfl rfl Tryd.underlying207 sz137 hA_f rfl (by omega)) <| hy (fun m => y_ld1 rfl ag137 ((m.rd 0 rfl).cell hv)) <| hy (fun _ => y_assign rfl) <| hend <| hsub (ρ' := [(4, _), (9, _), (8, _), (7, _), (6, _), (0, _)]) ⟨rfl, rfl, rfl, rfl, rfl, rfl, trivial⟩ <| hthen <| hseq <| hreg <| hy (fun _ => y_move rfl) <| ?_
    refine hx (xh_callv rfl rfl hcall (hcon st d (kk + k) hD (by omega)) [0] rfl [1] rfl ?_)
    rintro _ _ _ ⟨st1, rfl, rfl, rfl, hD1⟩
    refine hy (fun _ => y_assign rfl) <| hend <| hsub (ρ' := [(5, _), (4, _), (9, _), (8, _), (7, _), (6, _), (0, _)]) ⟨rfl, rfl, rfl, rfl, rfl, rfl, rfl, trivial⟩ <| hmemQ (X' := [_]) (S' := [_, _]) (fun _ m => m) <| hthen <| hseq <| hreg <| hy (fun _ => y_move rfl) <| hy (fun _ => y_neq rfl rfl) <| hend <| hsub (ρ' := [(15, _), (5, _), (4, _), (9, _), (8, _), (7, _), (6, _), (0, _)]) ⟨rfl, rfl, rfl, rfl, rfl, rfl, rfl, rfl, trivial⟩ <| hthen <| ?_
    refine hif rfl (fun he => ?_) (fun he => ?_)
    · have e0 : runF (F :: Fs.drop (k + 1)) d = F d := if_pos he
      rw [e0] at hR
      rw [← hR]
      refine hseq <| hreg <| hy (fun _ => y_move rfl) <| hy (fun _ => y_assign rfl) <| hend <| hsub (ρ' := [(2, _), (15, _), (5, _), (4, _), (9, _), (8, _), (7, _), (6, _), (0, _)]) ⟨rfl, rfl, rfl, rfl, rfl, rfl, rfl, rfl, rfl, trivial⟩ <| hthen <| hret <| hqblock_ret <| hthen_ret <| hthen_ret <| hqblock_ret <| hthen_ret <| ?_
      exact hret1 trivial rfl rfl [0] rfl [] rfl ⟨st1, rfl, rfl, rfl, (hD1.le (by omega))⟩
    · have e0 : runF (F :: Fs.drop (k + 1)) d = runF (Fs.drop (k + 1)) (F d).1 := if_neg he
      rw [e0] at hR
      refine hcskip <| hqblock <| hthen <| hreg <| hy (fun _ => y_add rfl rfl (w64 (by omega) (by omega))) <| hy (fun _ => y_move rfl) <| hend <| hsub (ρ' := [(8, _), (15, _), (5, _), (4, _), (9, _), (7, _), (6, _), (0, _)]) ⟨rfl, rfl, rfl, rfl, rfl, rfl, rfl, rfl, trivial⟩ <| ?_
      refine hnext3 (k + 1) st1 (F d).1 ⟨rfl, rfl, rfl, rfl, trivial⟩ [0] rfl [0, 1] rfl (⟨by omega, hD1, hR⟩) (by omega)
  · obtain rfl : k = n := by omega
    rw [List.drop_of_length_le (by omega)] at hR
    have hR : (d, 0) = d0 := hR
    rw [← hR]
    refine hexit <| hthen_exit <| hthen_exit <| hqblock_exit <| hthen <| hseq <| hreg <| hy (fun _ => y_assign rfl) <| hend <| hthen <| hret <| ?_
    exact hret1 trivial rfl rfl [0] rfl [] rfl ⟨st, rfl, rfl, rfl, hD⟩
end Go.Proofs.YtfikjheicjamhaaDoor
end
section
/- Contracts: chunks by their names (layer 13): Put. -/
set_option linter.unusedVariables false
set_option linter.unusedSimpArgs false
set_option maxRecDepth 20000
set_option maxHeartbeats 4000000
namespace Go.Proofs.YtfikjheicjamhaaDoor
open Go.Eng Go.Hx
theorem put1C {g g2 g9 g3 : Nat} {st : DSt} {d : RD} {kk : Nat} {p : List UInt8} {A : Option Addr} {n c : Nat} {bb : List UInt8} (hD : DS st d kk) (hkk : kk ≤ 99000) (hc : n ≤ c) (hl : bb.length = n) (hn : n ≤ 4096) : Con Tryd.prog 94 [.pointer (some ⟨g2, 0, none⟩), .pointer (some ⟨g9, 0, none⟩), .pointer (some ⟨g3, 0, none⟩)] [RDisk g st] [RBlk g2 58 [.pointer (some ⟨g, 0, none⟩)], RBlk g9 9 [SV p], RBlk g3 32 [.slice A n c], RRd 1 A n (b8s bb)] (fun v_ X_ S_ => ∃ st1, v_ = (.int .i64 (d.writeE p (sealL bb))) ∧ X_ = [RDisk g st1] ∧ S_ = [] ∧ (DS st1 (d.write p (sealL bb)) (kk + 1))) := by
  have hsl := sealL_le bb
  refine henter (N := 9) Tryd.func94 rfl rfl (by simp) fun b => ?_
  refine hfactC (fun m => rdB (m.rd 3 rfl)) ?_
  rintro ⟨hl_r, hA_r⟩
  refine hseq <| hreg <| hy (fun _ => y_assign rfl) <| hend <| hthen <| hseq <| hdrw [3, 4] [(0, some 1), (1, some 1), (2, some 0), (3, none), (4, none), (5, some 2)] (by kernel_rfl) (by kernel_rfl) rfl 1 <| hty (fun m => y_ld1 rfl ag58 (ld_blk (m.blkS 0 rfl) (i := 0) rfl)) <| hty (fun m => y_ld1 rfl ag9 (ld_blk (m.blkS 1 rfl) (i := 0) rfl)) <| hty (fun m => y_ld1 rfl ag32 (ld_blk (m.blkS 2 rfl) (i := 0) rfl)) <| ?_
  refine htx (xh_call rfl Tryd.call95 (sealC (by omega) (by omega) hl) [] rfl [3] rfl ?_)
  rintro _ _ _ ⟨v, rfl, rfl, rfl⟩
  refine ⟨(fun _ => wk [1] [0, 1, 2, 3] rfl rfl), ?_⟩
  refine htfact (fun m => (m.own 0 rfl).slice) ?_
  rintro ⟨A_x, c_x, rfl, hc_x⟩
  refine htfact (fun m => (m.ord 0 rfl).2.1) fun hA_x => ?_
  refine htx (xh_calll rfl Tryd.call79 (dwriteC hD (by omega) rfl (by omega)) [1] rfl (.x 0 rfl .own .nil) ?_)
  rintro _ _ _ ⟨st1, rfl, rfl, rfl, hp⟩
  refine ⟨rfl, ?_⟩
  refine ⟨(fun h => absurd h (by decide)), ?_⟩
  refine htyU (y_assign rfl) <| htend <| hsub (ρ' := [(3, _), (0, _), (1, _), (2, _)]) ⟨rfl, rfl, rfl, rfl, trivial⟩ <| hmemQ (X' := [_, _]) (S' := [_, _, _, _]) (fun _ m => m) <| hthen <| hret <| ?_
  exact hret1 trivial rfl rfl [0] rfl [] rfl ⟨st1, rfl, rfl, rfl, hp⟩
theorem put2C {g g2 g9 g6 : Nat} {st : DSt} {d : RD} {kk : Nat} {p nm : List UInt8} (hD : DS st d kk) (hkk : kk ≤ 99000) (hm : nm.length = 32) : Con Tryd.prog 96 [.pointer (some ⟨g2, 0, none⟩), .pointer (some ⟨g9, 0, none⟩), .pointer (some ⟨g6, 0, none⟩)] [RDisk g st] [RBlk g2 58 [.pointer (some ⟨g, 0, none⟩)], RBlk g9 9 [SV p], RBlk g6 23 (b8s nm)] (fun v_ X_ S_ => ∃ st1, v_ = (.int .i64 (d.renameE p (placeL nm))) ∧ X_ = [RDisk g st1] ∧ S_ = [] ∧ (DS st1 (d.rename p (placeL nm)) (kk + 1))) := by
  refine henter (N := 9) Tryd.func96 rfl rfl (by simp) fun b => ?_
  refine hseq <| hreg <| hy (fun _ => y_assign rfl) <| hend <| hthen <| hseq <| hdrw [3, 4] [(0, some 1), (1, some 1), (2, some 0), (3, none), (4, none), (5, some 2)] (by kernel_rfl) (by kernel_rfl) rfl 1 <| hty (fun m => y_ld1 rfl ag58 (ld_blk (m.blkS 0 rfl) (i := 0) rfl)) <| hty (fun m => y_ld1 rfl ag9 (ld_blk (m.blkS 1 rfl) (i := 0) rfl)) <| hty (fun m => y_ldN rfl ag23 sz23 (by rw [b8s_length]; exact hm) ((m.blkS 2 rfl).cells0)) <| ?_
  refine htx (xh_call rfl Tryd.call34 (placeC hm) [] rfl [] rfl ?_)
  rintro _ _ _ ⟨rfl, rfl, rfl⟩
  refine ⟨(fun _ => wk [0] [0, 1, 2] rfl rfl), ?_⟩
  refine htx (xh_call rfl Tryd.call97 (drenameC hD (by omega) (a := p) (c := placeL nm)) [0] rfl [] rfl ?_)
  rintro _ _ _ ⟨st1, rfl, rfl, rfl, hp⟩
  refine ⟨(fun h => absurd h (by decide)), ?_⟩
  refine htyU (y_assign rfl) <| htend <| hsub (ρ' := [(3, _), (0, _), (1, _), (2, _)]) ⟨rfl, rfl, rfl, rfl, trivial⟩ <| hmemQ (X' := [_]) (S' := [_, _, _]) (fun _ m => m) <| hthen <| hret <| ?_
  exact hret1 trivial rfl rfl [0] rfl [] rfl ⟨st1, rfl, rfl, rfl, hp⟩
abbrev putThings (g g2 g9 g3 g6 : Nat) (A : Option Addr) (n c : Nat) (bb nm p : List UInt8) : List Res := [RBlk g2 58 [.pointer (some ⟨g, 0, none⟩)], RBlk g9 9 [SV p], RBlk g3 32 [.slice A n c], RBlk g6 23 (b8s nm), RRd 1 A n (b8s bb)]
theorem step_write {g g2 g9 g3 g6 : Nat} {A : Option Addr} {n c : Nat} {bb nm p : List UInt8} (hc : n ≤ c) (hl : bb.length = n) (hn : n ≤ 4096) :
    StepV g (putThings g g2 g9 g3 g6 A n c bb nm p) (.func (.func 94) #[] #[.pointer (some ⟨g2, 0, none⟩), .pointer (some ⟨g9, 0, none⟩), .pointer (some ⟨g3, 0, none⟩)]) (wstepF p (sealL bb)) :=
  ⟨94, [], [.pointer (some ⟨g2, 0, none⟩), .pointer (some ⟨g9, 0, none⟩), .pointer (some ⟨g3, 0, none⟩)], rfl, Tryd.call94, fun st d kk hD hk => Con.viaS (put1C hD hk hc hl hn) (by
    intro s hs
    simp only [List.mem_cons, List.not_mem_nil, or_false] at hs
    rcases hs with rfl | rfl | rfl | rfl
    · exact ⟨_, List.mem_singleton.2 rfl, View.alls 0 rfl⟩
    · exact ⟨_, List.mem_singleton.2 rfl, View.alls 1 rfl⟩
    · exact ⟨_, List.mem_singleton.2 rfl, View.alls 2 rfl⟩
    · exact ⟨_, List.mem_singleton.2 rfl, View.alls 4 rfl⟩) (fun v X S h => by
    obtain ⟨st1, h1, h2, h3, h4⟩ := h
    exact ⟨[], ⟨st1, h1, h2, rfl, h4⟩, Der.nil⟩)⟩
theorem step_name {g g2 g9 g3 g6 : Nat} {A : Option Addr} {n c : Nat} {bb nm p : List UInt8} (hm : nm.length = 32) :
    StepV g (putThings g g2 g9 g3 g6 A n c bb nm p) (.func (.func 96) #[] #[.pointer (some ⟨g2, 0, none⟩), .pointer (some ⟨g9, 0, none⟩), .pointer (some ⟨g6, 0, none⟩)]) (nstepF p (placeL nm)) :=
  ⟨96, [], [.pointer (some ⟨g2, 0, none⟩), .pointer (some ⟨g9, 0, none⟩), .pointer (some ⟨g6, 0, none⟩)], rfl, Tryd.call96, fun st d kk hD hk => Con.viaS (put2C hD hk hm) (by
    intro s hs
    simp only [List.mem_cons, List.not_mem_nil, or_false] at hs
    rcases hs with rfl | rfl | rfl
    · exact ⟨_, List.mem_singleton.2 rfl, View.alls 0 rfl⟩
    · exact ⟨_, List.mem_singleton.2 rfl, View.alls 1 rfl⟩
    · exact ⟨_, List.mem_singleton.2 rfl, View.alls 3 rfl⟩) (fun v X S h => by
    obtain ⟨st1, h1, h2, h3, h4⟩ := h
    exact ⟨[], ⟨st1, h1, h2, rfl, h4⟩, Der.nil⟩)⟩
theorem step_sync {g : Nat} {L : List Res} : StepV g L (.func (.func 81) #[.pointer (some ⟨g, 0, none⟩)] #[]) sstepF :=
  ⟨81, [.pointer (some ⟨g, 0, none⟩)], [], rfl, Tryd.call81, fun st d kk hD hk => Con.viaS (dsyncC hD) (fun s hs => by cases hs) (fun v X S h => by
    obtain ⟨st1, h1, h2, h3, h4⟩ := h
    exact ⟨[], ⟨st1, h1, h2, rfl, h4.le (by omega)⟩, Der.nil⟩)⟩
theorem zerosL_length : zerosL.length = 32 := List.length_replicate
theorem z32s : (b8s zerosL).length = 32 := by rw [b8s_length, zerosL_length]
theorem put_big {d : RD} {b : List UInt8} (h : 4096 < b.length) : d.put b = (d, zerosL, 3) := by unfold RD.put; rw [if_pos h]
theorem put_down {d : RD} {b : List UInt8} (h : ¬ 4096 < b.length) (h6 : d.getE (shaL b) = 6) : d.put b = (d, zerosL, 6) := by unfold RD.put; rw [if_neg h, if_pos h6]
theorem put_there {d : RD} {b : List UInt8} (h : ¬ 4096 < b.length) (h6 : d.getE (shaL b) = 0) : d.put b = (d, shaL b, 0) := by unfold RD.put; rw [if_neg h, if_neg (by rw [h6]; decide), if_pos h6]
theorem put_new {d : RD} {b : List UInt8} (h : ¬ 4096 < b.length) (h6 : ¬ d.getE (shaL b) = 6) (h0 : ¬ d.getE (shaL b) = 0) : d.put b = ((d.putR b).1, if (d.putR b).2 = 0 then shaL b else zerosL, (d.putR b).2) := by unfold RD.put; rw [if_neg h, if_neg h6, if_neg h0]
abbrev putVs (g g2 g9 g3 g6 : Nat) : List Value := [.func (.func 94) #[] #[.pointer (some ⟨g2, 0, none⟩), .pointer (some ⟨g9, 0, none⟩), .pointer (some ⟨g3, 0, none⟩)], .func (.func 81) #[.pointer (some ⟨g, 0, none⟩)] #[], .func (.func 96) #[] #[.pointer (some ⟨g2, 0, none⟩), .pointer (some ⟨g9, 0, none⟩), .pointer (some ⟨g6, 0, none⟩)], .func (.func 81) #[.pointer (some ⟨g, 0, none⟩)] #[]]
abbrev putFs (p b nm : List UInt8) : List (RD → RD × Int) := [wstepF p (sealL b), sstepF, nstepF p (placeL nm), sstepF]
theorem put_steps {g g2 g9 g3 g6 : Nat} {A : Option Addr} {n c : Nat} {bb nm p : List UInt8} (hc : n ≤ c) (hl : bb.length = n) (hn : n ≤ 4096) (hm : nm.length = 32) :
    ∀ (i : Nat) (F : RD → RD × Int), (putFs p bb nm)[i]? = some F → ∃ v, (putVs g g2 g9 g3 g6)[i]? = some v ∧ StepV g (putThings g g2 g9 g3 g6 A n c bb nm p) v F := by
  intro i F h
  match i with
  | 0 => cases h; exact ⟨_, rfl, step_write hc hl hn⟩
  | 1 => cases h; exact ⟨_, rfl, step_sync⟩
  | 2 => cases h; exact ⟨_, rfl, step_name hm⟩
  | 3 => cases h; exact ⟨_, rfl, step_sync⟩
  | i + 4 => cases h
theorem putSC {g : Nat} {st : DSt} {d : RD} {kk : Nat} {A : Option Addr} {n c : Nat} {bb : List UInt8} (hD : DS st d kk) (hkk : kk ≤ 90000) (hc : n ≤ c) (hl : bb.length = n) (hn : n ≤ 100000) : Con Tryd.prog 38 [.pointer (some ⟨g, 0, none⟩), .slice A n c] [RDisk g st] [RRd 1 A n (b8s bb), RRoots] (fun v_ X_ S_ => ∃ st1, v_ = (.tuple #[.agg (b8s (d.put bb).2.1).toArray, .int .i64 (d.put bb).2.2]) ∧ X_ = [RDisk g st1] ∧ S_ = [] ∧ (DS st1 (d.put bb).1 (kk + 4))) := by
  have h32 : (b8s (shaL bb)).length = 32 := by rw [b8s_length, shaL_length]
  have hhl : (hexs (shaL bb)).length = 64 := by rw [hexs_length, shaL_length]
  refine henter (N := 53) Tryd.func38 rfl rfl (by simp) fun b => ?_
  refine hfactC (fun m => rdB (m.rd 0 rfl)) ?_
  rintro ⟨hl_r, hA_r⟩
  refine hseq <| hreg <| ?_
  refine hx (xh_box rfl (fun g2 => ?_))
  refine hmemL (fun w m => m.eqX 0 rfl (show _ = RBlk g2 58 [.pointer (some ⟨g, 0, none⟩)] from rfl)) ?_
  refine hx (xh_box rfl (fun g3 => ?_))
  refine hmemL (fun w m => m.eqX 0 rfl (show _ = RBlk g3 32 [.slice A n c] from rfl)) ?_
  refine hx (xh_alloc ti23 (fun g4 => ?_))
  refine hy (fun _ => y_assign rfl) <| hend <| hmemQ (X' := [_, _, _, _]) (S' := [_, _]) (fun _ m => m) <| hthen <| hseq <| hseq <| hreg <| hy (fun m => y_ld1 rfl ag32 (ld_blk (m.blk 1 rfl) rfl)) <| hy (fun _ => y_lenS rfl Tryd.underlying32) <| hy (fun _ => y_gtr rfl rfl) <| hend <| hsub (ρ' := [(15, _), (5, _), (4, _), (3, _), (2, _), (0, _), (1, _)]) ⟨rfl, rfl, rfl, rfl, rfl, rfl, rfl, trivial⟩ <| hthen <| ?_
  refine hif rfl (fun h1 => ?_) (fun h1 => ?_)
  · have hb : 4096 < bb.length := by omega
    rw [put_big hb]
    refine hseq <| hreg <| hy (fun _ => yV (y_build0 ti23 rfl (by kernel_rfl)) ((rfl : _ = Value.agg (b8s zerosL).toArray))) <| ?_
    refine hx0 (xh_stA 0 rfl rfl rfl sz23 z32s b8s_one rfl ?_)
    refine hy (fun _ => y_assign rfl) <| hend <| hsub (ρ' := [(5, _), (15, _), (4, _), (3, _), (2, _), (0, _), (1, _)]) ⟨rfl, rfl, rfl, rfl, rfl, rfl, rfl, trivial⟩ <| hmemQ (X' := [_, _, _, _]) (S' := [_, _]) (fun _ m => m) <| hthen <| hret <| hthen_ret <| ?_
    exact hretN1 trivial rfl rfl rfl ag23 sz23 z32s (fun m => (m.blk 0 rfl).cells0) [3] rfl [] rfl ⟨st, rfl, rfl, rfl, (hD.le (by omega))⟩
  · have hb : ¬ 4096 < bb.length := by omega
    refine hcskip <| hthen <| hseq <| hreg <| hy (fun m => y_ld1 rfl ag32 (ld_blk (m.blk 1 rfl) rfl)) <| ?_
    refine hx (xh_call rfl Tryd.call82 (shaSumC (by omega)) [] rfl [0, 1] rfl ?_)
    rintro _ _ _ ⟨rfl, rfl, rfl⟩
    refine hx (xh_alloc ti23 (fun g6 => ?_))
    refine hx0 (xh_stA 0 rfl rfl rfl sz23 h32 b8s_one rfl ?_)
    refine hend <| hsub (ρ' := [(6, _), (15, _), (5, _), (4, _), (3, _), (2, _), (0, _), (1, _)]) ⟨rfl, rfl, rfl, rfl, rfl, rfl, rfl, rfl, trivial⟩ <| hmemQ (X' := [_, _, _, _, _]) (S' := [_, _]) (fun _ m => m) <| hthen <| hseq <| hreg <| hy (fun m => y_ld1 rfl ag58 (ld_blk (m.blk 3 rfl) rfl)) <| hy (fun m => y_ldN rfl ag23 sz23 h32 ((m.blk 0 rfl).cells0)) <| ?_
    refine hx (xh_call rfl Tryd.call39 (getC hD (shaL_length _)) [4] rfl [1] rfl ?_)
    rintro _ _ _ ⟨v, rfl, rfl, rfl⟩
    refine hfactL (fun m => (m.own 1 rfl).slice) ?_
    rintro ⟨A_x, c_x, rfl, hc_x⟩
    refine hfactL (fun m => (m.ord 1 rfl).2.1) fun hA_x => ?_
    refine hy (fun _ => y_move rfl) <| hy (fun _ => y_extract rfl rfl) <| hy (fun _ => y_extract rfl rfl) <| hy (fun _ => y_assign rfl) <| hy (fun _ => y_assign rfl) <| hend <| hsub (ρ' := [(8, _), (6, _), (15, _), (5, _), (4, _), (3, _), (2, _), (0, _), (1, _)]) ⟨rfl, rfl, rfl, rfl, rfl, rfl, rfl, rfl, rfl, trivial⟩ <| hmemQ (X' := [_, _, _, _, _, _]) (S' := [_, _]) (fun _ m => m) <| hthen <| hseq <| hseq <| hreg <| hy (fun _ => y_move rfl) <| hy (fun _ => y_mki rfl Tryd.underlying33 (fun _ h => by cases h)) <| hy (fun _ => y_mki rfl Tryd.underlying33 (fun _ h => by cases h)) <| ?_
    refine hx (xh_call rfl Tryd.call93 (errIsC) [] rfl [] rfl ?_)
    rintro _ _ _ ⟨rfl, rfl, rfl⟩
    refine hend <| hsub (ρ' := [(28, _), (8, _), (6, _), (15, _), (5, _), (4, _), (3, _), (2, _), (0, _), (1, _)]) ⟨rfl, rfl, rfl, rfl, rfl, rfl, rfl, rfl, rfl, rfl, trivial⟩ <| hmemQ (X' := [_, _, _, _, _, _]) (S' := [_, _]) (fun _ m => m) <| hthen <| ?_
    refine hif rfl (fun h6 => ?_) (fun h6 => ?_)
    · rw [put_down hb h6]
      have h6' : d.getE (shaL bb) = 6 := h6
      rw [h6']
      refine hseq <| hreg <| hy (fun _ => yV (y_build0 ti23 rfl (by kernel_rfl)) ((rfl : _ = Value.agg (b8s zerosL).toArray))) <| hy (fun _ => y_move rfl) <| ?_
      refine hx0 (xh_stA 3 rfl rfl rfl sz23 z32s b8s_one rfl ?_)
      refine hy (fun _ => y_assign rfl) <| hend <| hsub (ρ' := [(5, _), (28, _), (8, _), (6, _), (15, _), (4, _), (3, _), (2, _), (0, _), (1, _)]) ⟨rfl, rfl, rfl, rfl, rfl, rfl, rfl, rfl, rfl, rfl, trivial⟩ <| hmemQ (X' := [_, _, _, _, _, _]) (S' := [_, _]) (fun _ m => m) <| hthen <| hret <| hthen_ret <| ?_
      exact hretN1 trivial rfl rfl rfl ag23 sz23 z32s (fun m => (m.blk 0 rfl).cells0) [1] rfl [] rfl ⟨st, rfl, rfl, rfl, (hD.le (by omega))⟩
    · refine hcskip <| hthen <| hseq <| hseq <| hreg <| hy (fun _ => y_move rfl) <| hy (fun _ => y_eql rfl rfl) <| hend <| hsub (ρ' := [(32, _), (28, _), (8, _), (6, _), (15, _), (5, _), (4, _), (3, _), (2, _), (0, _), (1, _)]) ⟨rfl, rfl, rfl, rfl, rfl, rfl, rfl, rfl, rfl, rfl, rfl, trivial⟩ <| hthen <| ?_
      refine hif rfl (fun h0 => ?_) (fun h0 => ?_)
      · rw [put_there hb h0]
        have h0' : d.getE (shaL bb) = 0 := h0
        rw [h0']
        refine hseq <| hreg <| hy (fun m => y_ldN rfl ag23 sz23 h32 ((m.blk 2 rfl).cells0)) <| hy (fun _ => y_move rfl) <| ?_
        refine hx0 (xh_stA 3 rfl rfl rfl sz23 h32 b8s_one rfl ?_)
        refine hy (fun _ => y_assign rfl) <| hend <| hsub (ρ' := [(5, _), (32, _), (28, _), (8, _), (6, _), (15, _), (4, _), (3, _), (2, _), (0, _), (1, _)]) ⟨rfl, rfl, rfl, rfl, rfl, rfl, rfl, rfl, rfl, rfl, rfl, trivial⟩ <| hmemQ (X' := [_, _, _, _, _, _]) (S' := [_, _]) (fun _ m => m) <| hthen <| hret <| hthen_ret <| ?_
        exact hretN1 trivial rfl rfl rfl ag23 sz23 h32 (fun m => (m.blk 0 rfl).cells0) [1] rfl [] rfl ⟨st, rfl, rfl, rfl, (hD.le (by omega))⟩
      · rw [put_new hb h6 h0]
        refine hcskip <| hthen <| hseq <| hreg <| hy (fun m => y_ldN rfl ag23 sz23 h32 ((m.blk 2 rfl).cells0)) <| ?_
        refine hx (xh_call rfl Tryd.call90 (hnameC (shaL_length _)) [] rfl [] rfl ?_)
        rintro _ _ _ ⟨rfl, rfl, rfl⟩
        refine hy (fun _ => yV (y_sadd rfl rfl (str_sum (a := [116, 47]) (b := hexs (shaL bb)) (by simp [hhl]))) ((show Value.string (strOf [116, 47] ++ strOf (hexs (shaL bb))) = SV (aheadL (shaL bb)) from congrArg Value.string (strOf_append _ _)))) <| ?_
        refine hx (xh_alloc ti9 (fun g9 => ?_))
        refine hx0 (xh_st1 0 rfl rfl rfl sz9 rfl (by first | exact Nat.le_of_ble_eq_true rfl | simp) ?_)
        refine hend <| hsub (ρ' := [(9, _), (32, _), (28, _), (8, _), (6, _), (15, _), (5, _), (4, _), (3, _), (2, _), (0, _), (1, _)]) ⟨rfl, rfl, rfl, rfl, rfl, rfl, rfl, rfl, rfl, rfl, rfl, rfl, trivial⟩ <| hmemQ (X' := [_, _, _, _, _, _, _]) (S' := [_, _]) (fun _ m => m) <| hthen <| hseq <| hreg <| hy (fun _ => y_mkf rfl rfl) <| hy (fun _ => y_assign rfl) <| hend <| hsub (ρ' := [(10, _), (9, _), (32, _), (28, _), (8, _), (6, _), (15, _), (5, _), (4, _), (3, _), (2, _), (0, _), (1, _)]) ⟨rfl, rfl, rfl, rfl, rfl, rfl, rfl, rfl, rfl, rfl, rfl, rfl, rfl, trivial⟩ <| hthen <| hseq <| hreg <| hy (fun _ => y_mkf rfl rfl) <| hy (fun _ => y_assign rfl) <| hend <| hsub (ρ' := [(11, _), (10, _), (9, _), (32, _), (28, _), (8, _), (6, _), (15, _), (5, _), (4, _), (3, _), (2, _), (0, _), (1, _)]) ⟨rfl, rfl, rfl, rfl, rfl, rfl, rfl, rfl, rfl, rfl, rfl, rfl, rfl, rfl, trivial⟩ <| hthen <| hseq <| hseq <| hreg <| hy (fun _ => y_move rfl) <| hy (fun m => y_ld1 rfl ag58 (ld_blk (m.blk 6 rfl) rfl)) <| hy (fun _ => y_mkf rfl rfl) <| hy (fun _ => y_move rfl) <| hy (fun m => y_ld1 rfl ag58 (ld_blk (m.blk 6 rfl) rfl)) <| hy (fun _ => y_mkf rfl rfl) <| ?_
        refine hx (xh_bsl Tryd.underlying207 ti137 rfl rfl rfl (by simp [Value.cells, B8]) (by decide) (by decide) (fun g46 => ?_))
        have hA_b46 : 0 < 4 → (some (⟨g46, 0, none⟩ : Addr)) ≠ none := fun _ h => by cases h
        refine hmemL (fun w m => m.eqX 1 rfl (show _ = RBlk g9 9 [SV (aheadL (shaL bb))] from rfl)) ?_
        refine hmemL (fun w m => m.eqX 4 rfl (show _ = RBlk g6 23 (b8s (shaL bb)) from rfl)) ?_
        refine hmemL (fun w m => m.eqX 2 rfl (show _ = ROwn 137 1 (.slice (some ⟨g46, 0, none⟩) 4 4) 4 (putVs g g2 g9 g3 g6) from rfl)) ?_
        refine hmemL (fun w m => (m.perm (takeR_perm [7] _ [_] _ rfl)).freeze) ?_
        refine hmemL (fun w m => (m.perm (takeR_perm [2] _ [_] _ rfl)).freeze) ?_
        refine hmemL (fun w m => (m.perm (takeR_perm [5] _ [_] _ rfl)).freeze) ?_
        refine hmemL (fun w m => (m.perm (takeR_perm [1] _ [_] _ rfl)).freeze) ?_
        refine hmemL (S' := RAll (putThings g g2 g9 g3 g6 A n c bb (shaL bb) (aheadL (shaL bb))) :: _) (fun w m => m.allS [3, 2, 1, 0, 4] rfl) ?_
        refine hx (xh_calll rfl Tryd.call98 (allC hD (by omega) (show 4 ≤ 100000 by decide) rfl (put_steps hc hl (by omega) (shaL_length _)) (kk := kk) (Fs := (putFs (aheadL (shaL bb)) bb (shaL bb))) (fs := (putVs g g2 g9 g3 g6)) (L := (putThings g g2 g9 g3 g6 A n c bb (shaL bb) (aheadL (shaL bb))))) [1] rfl (.x 0 rfl .own (.s 0 rfl .nil)) ?_)
        rintro _ _ _ ⟨st1, rfl, rfl, rfl, hD1⟩
        refine ⟨rfl, ?_⟩
        refine hy (fun _ => y_assign rfl) <| hend <| hsub (ρ' := [(12, _), (11, _), (10, _), (9, _), (32, _), (28, _), (8, _), (6, _), (15, _), (5, _), (4, _), (3, _), (2, _), (0, _), (1, _)]) ⟨rfl, rfl, rfl, rfl, rfl, rfl, rfl, rfl, rfl, rfl, rfl, rfl, rfl, rfl, rfl, trivial⟩ <| hmemQ (X' := [_, _, _, _]) (S' := [_, _, _, _, _, _, _]) (fun _ m => m) <| hthen <| hseq <| hreg <| hy (fun _ => y_move rfl) <| hy (fun _ => y_neq rfl rfl) <| hend <| hsub (ρ' := [(49, _), (12, _), (11, _), (10, _), (9, _), (32, _), (28, _), (8, _), (6, _), (15, _), (5, _), (4, _), (3, _), (2, _), (0, _), (1, _)]) ⟨rfl, rfl, rfl, rfl, rfl, rfl, rfl, rfl, rfl, rfl, rfl, rfl, rfl, rfl, rfl, rfl, trivial⟩ <| hthen <| ?_
        refine hif rfl (fun h2 => ?_) (fun h2 => ?_)
        · have hn2 : ¬ (d.putR bb).2 = 0 := h2
          rw [if_neg hn2]
          refine hseq <| hreg <| hy (fun _ => yV (y_build0 ti23 rfl (by kernel_rfl)) ((rfl : _ = Value.agg (b8s zerosL).toArray))) <| hy (fun _ => y_move rfl) <| ?_
          refine hx0 (xh_stA 3 rfl rfl rfl sz23 z32s b8s_one rfl ?_)
          refine hy (fun _ => y_assign rfl) <| hend <| hsub (ρ' := [(5, _), (49, _), (12, _), (11, _), (10, _), (9, _), (32, _), (28, _), (8, _), (6, _), (15, _), (4, _), (3, _), (2, _), (0, _), (1, _)]) ⟨rfl, rfl, rfl, rfl, rfl, rfl, rfl, rfl, rfl, rfl, rfl, rfl, rfl, rfl, rfl, rfl, trivial⟩ <| hmemQ (X' := [_, _, _, _]) (S' := [_, _, _, _, _, _, _]) (fun _ m => m) <| hthen <| hret <| hthen_ret <| ?_
          exact hretN1 trivial rfl rfl rfl ag23 sz23 z32s (fun m => (m.blk 0 rfl).cells0) [1] rfl [] rfl ⟨st1, rfl, rfl, rfl, hD1⟩
        · have h2 := Decidable.not_not.1 h2
          have h2' : (runF (putFs (aheadL (shaL bb)) bb (shaL bb)) d).2 = 0 := h2
          have h2'' : (d.putR bb).2 = 0 := h2'
          rw [if_pos h2'', h2'']
          refine hcskip <| hthen <| hseq <| hreg <| hy (fun m => y_ldN rfl ag23 sz23 h32 ((m.blkS 1 rfl).cells0)) <| ?_
          refine hx0 (xh_stA 3 rfl rfl rfl sz23 h32 b8s_one rfl ?_)
          refine hy (fun _ => y_assign rfl) <| hend <| hsub (ρ' := [(5, _), (49, _), (12, _), (11, _), (10, _), (9, _), (32, _), (28, _), (8, _), (6, _), (15, _), (4, _), (3, _), (2, _), (0, _), (1, _)]) ⟨rfl, rfl, rfl, rfl, rfl, rfl, rfl, rfl, rfl, rfl, rfl, rfl, rfl, rfl, rfl, rfl, trivial⟩ <| hmemQ (X' := [_, _, _, _]) (S' := [_, _, _, _, _, _, _]) (fun _ m => m) <| hthen <| hret <| ?_
          exact hretN1 trivial rfl rfl rfl ag23 sz23 h32 (fun m => (m.blk 0 rfl).cells0) [1] rfl [] rfl ⟨st1, rfl, rfl, rfl, hD1⟩
end Go.Proofs.YtfikjheicjamhaaDoor
end
section
/- Superblocks, over plain lists. No program. -/
set_option linter.unusedVariables false
set_option linter.unusedSimpArgs false
namespace Go.Hx
open Go.Eng
/-- a slot -/
structure Sl where
  full : Bool
  image : List UInt8
  size : Int
deriving DecidableEq
def Sl.zero : Sl := ⟨false, List.replicate 32 0, 0⟩
def Sl.cs (x : Sl) : List Value := Value.bool x.full :: (b8s x.image ++ [.int .i64 x.size])
structure Sl.wf (x : Sl) : Prop where
  len : x.image.length = 32
  lo : -9223372036854775808 ≤ x.size
  hi : x.size ≤ 9223372036854775807
/-- may a slot be? -/
def Sl.may (x : Sl) : Prop := 0 ≤ x.size ∧ x.size ≤ 65536 ∧ (x.full = false → x = Sl.zero)
instance (x : Sl) : Decidable x.may := by unfold Sl.may; infer_instance
/-- a superblock -/
structure Sup where
  active : Int
  gen : Int
  s0 : Sl
  s1 : Sl
deriving DecidableEq
def Sup.zero : Sup := ⟨0, 0, Sl.zero, Sl.zero⟩
def Sup.cs (s : Sup) : List Value := .int .i64 s.active :: .int .i64 s.gen :: (s.s0.cs ++ s.s1.cs)
structure Sup.wf (s : Sup) : Prop where
  a0 : -9223372036854775808 ≤ s.active
  a1 : s.active ≤ 9223372036854775807
  g0 : -9223372036854775808 ≤ s.gen
  g1 : s.gen ≤ 9223372036854775807
  w0 : s.s0.wf
  w1 : s.s1.wf
def Sup.may (s : Sup) : Prop := (s.active = 0 ∨ s.active = 1) ∧ 0 ≤ s.gen ∧ s.gen ≤ 2147483647 ∧ s.s0.may ∧ s.s1.may
instance (s : Sup) : Decidable s.may := by unfold Sup.may; infer_instance
def Sl.by_ (x : Sl) : List UInt8 := (if x.full then 1 else 0) :: (x.image ++ le4 x.size.toNat)
def Sup.body (s : Sup) : List UInt8 := [76, 84, 83, 49] ++ [UInt8.ofNat s.active.toNat] ++ le4 s.gen.toNat ++ s.s0.by_ ++ s.s1.by_
def Sup.bytes (s : Sup) : List UInt8 := putL s.body
/-- the slot that is number i -/
def Sup.at (s : Sup) (i : Nat) : Sl := if i = 0 then s.s0 else s.s1
def Sup.put (s : Sup) (i : Nat) (x : Sl) : Sup := if i = 0 then { s with s0 := x } else { s with s1 := x }
end Go.Hx
end
section
/- What is done with superblocks, over plain disks. No program walked. -/
set_option linter.unusedVariables false
set_option linter.unusedSimpArgs false
namespace Go.Proofs.YtfikjheicjamhaaDoor
open Go.Eng Go.Hx
/-- a slot of bytes -/
def rdSl (l : List UInt8) : Sl := ⟨decide (l.getD 0 0 = 1), (l.drop 1).take 32, (num4 (l.drop 33) : Nat)⟩
def rdBody (l : List UInt8) : Sup := ⟨(l.getD 4 0).toNat, (num4 (l.drop 5) : Nat), rdSl (l.drop 9), rdSl (l.drop 46)⟩
/-- the superblock of bytes, or why there is none -/
def rdOk (l : List UInt8) : Prop := l.length = 83 ∧ l.take 4 = [76, 84, 83, 49] ∧ (l.getD 9 0).toNat ≤ 1 ∧ (l.getD 46 0).toNat ≤ 1 ∧ (rdBody l).may
instance (l : List UInt8) : Decidable (rdOk l) := by unfold rdOk; infer_instance
/-- the other slot -/
def _root_.Go.Hx.Sup.other (s : Sup) : Nat := (1 - s.active).toNat
end Go.Proofs.YtfikjheicjamhaaDoor
end
section
/- Plain disks that hold superblocks and their images: what each function of layer 22 leaves. No program. -/
set_option linter.unusedVariables false
set_option linter.unusedSimpArgs false
namespace Go.Proofs.YtfikjheicjamhaaDoor
open Go.Eng Go.Hx
theorem totF_filter (q : FP → Bool) (l : List FP) : totF (l.filter q) ≤ totF l := by
  induction l with
  | nil => exact Nat.le_refl _
  | cons x r ih =>
    rw [List.filter_cons]
    have e : totF (x :: r) = x.2.length + totF r := by simp [totF]
    split
    · have e2 : totF (x :: r.filter q) = x.2.length + totF (r.filter q) := by simp [totF]
      omega
    · omega
theorem totF_filter_mem {q : FP → Bool} {l : List FP} {x : FP} (hx : x ∈ l) (hq : q x = false) : totF (l.filter q) + x.2.length ≤ totF l := by
  induction l with
  | nil => cases hx
  | cons y r ih =>
    rw [List.filter_cons]
    have e : totF (y :: r) = y.2.length + totF r := by simp [totF]
    rcases List.mem_cons.1 hx with rfl | hm
    · rw [hq]
      have := totF_filter q r
      simp only [Bool.false_eq_true, if_false]
      omega
    · have h1 := ih hm
      split
      · have e2 : totF (y :: r.filter q) = y.2.length + totF (r.filter q) := by simp [totF]
        omega
      · omega
theorem totF_ins (l : List FP) (f : FP) : totF (insF l f) ≤ totF l + f.2.length := by
  induction l with
  | nil => simp [insF, totF]
  | cons x r ih =>
    have e : totF (x :: r) = x.2.length + totF r := by simp [totF]
    rw [insF]
    split
    · have e2 : totF (x :: insF r f) = x.2.length + totF (insF r f) := by simp [totF]
      omega
    · have e2 : totF (f :: (x :: r).filter fun y => decide (y.1 ≠ f.1)) = f.2.length + totF ((x :: r).filter fun y => decide (y.1 ≠ f.1)) := by simp [totF]
      have := totF_filter (fun y => decide (y.1 ≠ f.1)) (x :: r)
      omega
/-- a disk that is up for good: what lies on it, how much, and its room -/
structure At (d : RD) (F : List UInt8 → Option (List UInt8)) (T : Nat) (room : Int) : Prop where
  pw : d.pw = -1
  room : d.room = room
  look : ∀ p, lk d.seen p = F p
  tot : totF d.seen ≤ T
def fup (F : List UInt8 → Option (List UInt8)) (p : List UInt8) (v : Option (List UInt8)) : List UInt8 → Option (List UInt8) := fun q => if q = p then v else F q
theorem At.readE {d : RD} {F : List UInt8 → Option (List UInt8)} {T : Nat} {room : Int} (h : At d F T room) (p : List UInt8) : d.readE p = if F p = none then 4 else 0 := by
  have h1 := h.look p
  rw [← lk_find] at h1
  rw [RD.readE, if_neg (by rw [h.pw]; decide)]
  cases hq : d.seen[findN d.seen p]? with
  | none => rw [hq] at h1; rw [if_pos rfl, if_pos (by rw [← h1]; rfl)]
  | some x => rw [hq] at h1; rw [if_neg (by simp), if_neg (by rw [← h1]; simp)]
theorem At.readB {d : RD} {F : List UInt8 → Option (List UInt8)} {T : Nat} {room : Int} (h : At d F T room) (p : List UInt8) : d.readB p = (F p).getD [] := by
  have h1 := h.look p
  rw [← lk_find] at h1
  rw [RD.readB, if_neg (by rw [h.pw]; decide), h1]
theorem At.writeE {d : RD} {F : List UInt8 → Option (List UInt8)} {T : Nat} {room : Int} (h : At d F T room) {p l : List UInt8} (hp : Named p) (hr : (T : Int) + (l.length : Nat) ≤ room) : d.writeE p l = 0 := by
  have h1 := h.tot
  have h2 := h.room
  rw [RD.writeE, if_neg (fun h => h hp), if_neg (by rw [h.pw]; decide), if_neg (by omega)]
theorem At.write {d : RD} {F : List UInt8 → Option (List UInt8)} {T : Nat} {room : Int} (h : At d F T room) {p l : List UInt8} (hp : Named p) (hr : (T : Int) + (l.length : Nat) ≤ room) : At (d.write p l) (fup F p (some l)) (T + l.length) room := by
  have hs : (d.write p l).seen = insF d.seen (p, l) := by
    rw [RD.write, if_pos (h.writeE hp hr)]
    show makeF d.seen 0 p [] l = _
    rw [makeF, if_pos rfl, withF_ins]
  refine ⟨?_, ?_, fun q => ?_, ?_⟩
  · rw [RD.write, if_pos (h.writeE hp hr)]
    show lessP d.pw = -1
    rw [h.pw]; rfl
  · rw [RD.write, if_pos (h.writeE hp hr)]; exact h.room
  · rw [hs, lk_ins]
    unfold fup
    split
    · rfl
    · exact h.look q
  · rw [hs]
    have := totF_ins d.seen (p, l)
    have := h.tot
    have e : (p, l).2.length = l.length := rfl
    omega
theorem At.syncE {d : RD} {F : List UInt8 → Option (List UInt8)} {T : Nat} {room : Int} (h : At d F T room) : d.syncE = 0 := by rw [RD.syncE, if_neg (by rw [h.pw]; decide)]
theorem At.sync {d : RD} {F : List UInt8 → Option (List UInt8)} {T : Nat} {room : Int} (h : At d F T room) : At d.sync F T room := by
  have e : d.sync = { d with lasts := d.seen, waits := [], pw := lessP d.pw } := by rw [RD.sync, if_neg (by rw [h.pw]; decide)]
  rw [e]
  exact ⟨by show lessP d.pw = -1; rw [h.pw]; rfl, h.room, h.look, h.tot⟩
theorem At.renameE {d : RD} {F : List UInt8 → Option (List UInt8)} {T : Nat} {room : Int} (h : At d F T room) {a c x : List UInt8} (hc : Named c) (hx : F a = some x) : d.renameE a c = 0 := by
  rw [RD.renameE, if_neg (fun h => h hc), h.readE, if_neg (by rw [hx]; simp)]
theorem At.rename {d : RD} {F : List UInt8 → Option (List UInt8)} {T : Nat} {room : Int} (h : At d F T room) {a c x : List UInt8} (hc : Named c) (hx : F a = some x) : At (d.rename a c) (fup (fup F a none) c (some x)) T room := by
  have h1 := h.look a
  rw [← lk_find, hx] at h1
  obtain ⟨y, hy, hyx⟩ : ∃ y, d.seen[findN d.seen a]? = some y ∧ y.2 = x := by
    cases hq : d.seen[findN d.seen a]? with
    | none => rw [hq] at h1; cases h1
    | some y => rw [hq] at h1; exact ⟨y, rfl, by simpa using h1⟩
  have hya : y.1 = a := by
    obtain ⟨hi, he⟩ := List.getElem?_eq_some_iff.1 hy
    have := List.findIdx_getElem (p := fun x : FP => decide (x.1 = a)) (xs := d.seen) (w := hi)
    rw [← he]
    exact of_decide_eq_true this
  have hs : (d.rename a c).seen = insF (withoutF d.seen a) (c, x) := by
    rw [RD.rename, if_pos (h.renameE hc hx)]
    show makeF d.seen 1 a c [] = _
    rw [makeF, if_neg (by decide), hy]
    show (if (1 : Int) = 2 then _ else _) = _
    rw [if_neg (by decide), withF_ins, hyx]
  refine ⟨?_, ?_, fun q => ?_, ?_⟩
  · rw [RD.rename, if_pos (h.renameE hc hx)]
    show lessP d.pw = -1
    rw [h.pw]; rfl
  · rw [RD.rename, if_pos (h.renameE hc hx)]; exact h.room
  · rw [hs, lk_ins]
    unfold fup withoutF
    split
    · rfl
    · rw [lk_filter]
      split
      · rfl
      · exact h.look q
  · rw [hs]
    have h2 := totF_ins (withoutF d.seen a) (c, x)
    have h3 : totF (withoutF d.seen a) + y.2.length ≤ totF d.seen := totF_filter_mem (List.mem_of_getElem? hy) (by simp [hya])
    have := h.tot
    have e : (c, x).2.length = x.length := rfl
    rw [hyx] at h3
    omega
end Go.Proofs.YtfikjheicjamhaaDoor
end
section
/- Chunks by their names (layer 13), over plain disks: what was put is got. No program. -/
set_option linter.unusedVariables false
set_option linter.unusedSimpArgs false
namespace Go.Proofs.YtfikjheicjamhaaDoor
open Go.Eng Go.Hx
theorem hexd_ne0 : ∀ i : Nat, i < 16 → hexd.getD i 0 ≠ 0 := by decide
theorem hexs_ne0 (l : List UInt8) : ¬ (0 : UInt8) ∈ hexs l := by
  intro h
  unfold hexs at h
  obtain ⟨x, hx, hc⟩ := List.mem_flatMap.1 h
  have hb := x.toNat_lt
  simp only [hex1, List.mem_cons, List.not_mem_nil, or_false] at hc
  rcases hc with hc | hc
  · exact hexd_ne0 _ (by omega) hc.symm
  · exact hexd_ne0 _ (by omega) hc.symm
theorem nm_place {nm : List UInt8} (h : nm.length = 32) : Named (placeL nm) := by
  refine ⟨by simp [placeL], by rw [placeL_length h]; decide, fun hz => ?_⟩
  unfold placeL at hz
  simp only [List.mem_append, List.mem_cons, List.not_mem_nil, or_false] at hz
  rcases hz with ((hz | hz) | hz) | hz
  · rcases hz with hz | hz <;> exact absurd hz (by decide)
  · exact hexs_ne0 nm (List.mem_of_mem_take hz)
  · exact absurd hz (by decide)
  · exact hexs_ne0 nm hz
theorem nm_ahead {nm : List UInt8} (h : nm.length = 32) : Named (aheadL nm) := by
  refine ⟨by simp [aheadL], by rw [aheadL_length h]; decide, fun hz => ?_⟩
  unfold aheadL at hz
  simp only [List.mem_append, List.mem_cons, List.not_mem_nil, or_false] at hz
  rcases hz with hz | hz
  · rcases hz with hz | hz <;> exact absurd hz (by decide)
  · exact hexs_ne0 nm hz
theorem sync_clean {d : RD} (h : d.pw = -1) : d.sync.lasts = d.sync.seen ∧ d.sync.waits = [] := by
  have e : d.sync = { d with lasts := d.seen, waits := [], pw := lessP d.pw } := by rw [RD.sync, if_neg (by rw [h]; decide)]
  rw [e]
  exact ⟨rfl, rfl⟩
/-- a disk that waits for nothing -/
structure SD (d : RD) (F : List UInt8 → Option (List UInt8)) (T : Nat) (room : Int) : Prop where
  at_ : At d F T room
  same : d.lasts = d.seen
  waits : d.waits = []
theorem SD.new (room : Int) : SD (RD.new room) (fun _ => none) 0 room := ⟨⟨rfl, rfl, fun p => rfl, Nat.le_refl _⟩, rfl, rfl⟩
theorem getE_at {d : RD} {F : List UInt8 → Option (List UInt8)} {T : Nat} {room : Int} (h : At d F T room) {nm : List UInt8} (hF : F (placeL nm) = none) : d.getE nm = 4 := by
  have e : d.readE (placeL nm) = 4 := by rw [h.readE, if_pos hF]
  rw [getE_read (by rw [e]; decide), e]
theorem get_at {d : RD} {F : List UInt8 → Option (List UInt8)} {T : Nat} {room : Int} (h : At d F T room) {b : List UInt8} (hb : b.length ≤ 4096) (hF : F (placeL (shaL b)) = some (sealL b)) : d.getE (shaL b) = 0 ∧ d.getB (shaL b) = b := by
  have e : d.readE (placeL (shaL b)) = 0 := by rw [h.readE, if_neg (by rw [hF]; simp)]
  have eB : d.readB (placeL (shaL b)) = sealL b := by rw [h.readB, hF]; rfl
  have eo : d.opn (shaL b) = (b, 0) := by unfold RD.opn; rw [eB]; exact open_seal (by omega) (by omega)
  have e0 : d.getE (shaL b) = 0 := getE_ok e (by rw [eo]; simp)
  exact ⟨e0, by rw [getB_ok e0, eo]⟩
/-- the files behind a Put -/
def putF (F : List UInt8 → Option (List UInt8)) (b : List UInt8) : List UInt8 → Option (List UInt8) := fup (fup (fup F (aheadL (shaL b)) (some (sealL b))) (aheadL (shaL b)) none) (placeL (shaL b)) (some (sealL b))
theorem putF_place (F : List UInt8 → Option (List UInt8)) (b : List UInt8) : putF F b (placeL (shaL b)) = some (sealL b) := if_pos rfl
theorem SD.putR {d : RD} {F : List UInt8 → Option (List UInt8)} {T : Nat} {room : Int} (h : SD d F T room) {b : List UInt8} (hr : (T : Int) + (sealL b).length ≤ room) :
    ∃ d', d.putR b = (d', 0) ∧ SD d' (putF F b) (T + (sealL b).length) room := by
  have hn := nm_ahead (nm := shaL b) (shaL_length b)
  have hp := nm_place (nm := shaL b) (shaL_length b)
  have h1 := h.at_.write (p := aheadL (shaL b)) (l := sealL b) hn (by omega)
  have h2 := h1.sync
  have hx : fup F (aheadL (shaL b)) (some (sealL b)) (aheadL (shaL b)) = some (sealL b) := if_pos rfl
  have h3 := h2.rename hp hx
  obtain ⟨c1, c2⟩ := sync_clean h3.pw
  refine ⟨_, ?_, ⟨h3.sync, c1, c2⟩⟩
  unfold RD.putR
  rw [runF, if_neg (by show ¬ d.writeE _ _ ≠ 0; rw [h.at_.writeE hn (by omega)]; decide)]
  rw [runF, if_neg (by show ¬ (d.write _ _).syncE ≠ 0; rw [h1.syncE]; decide)]
  rw [runF, if_neg (by show ¬ (d.write _ _).sync.renameE _ _ ≠ 0; rw [h2.renameE hp hx]; decide)]
  rw [runF, if_neg (by show ¬ ((d.write _ _).sync.rename _ _).syncE ≠ 0; rw [h3.syncE]; decide)]
  rfl
theorem SD.put {d : RD} {F : List UInt8 → Option (List UInt8)} {T : Nat} {room : Int} (h : SD d F T room) {b : List UInt8} (hb : b.length ≤ 4096) (hF : F (placeL (shaL b)) = none) (hr : (T : Int) + (sealL b).length ≤ room) :
    ∃ d', d.put b = (d', shaL b, 0) ∧ SD d' (putF F b) (T + (sealL b).length) room := by
  have e4 := getE_at h.at_ hF
  obtain ⟨d', e, hd⟩ := h.putR hr
  refine ⟨d', ?_, hd⟩
  unfold RD.put
  rw [if_neg (by omega), if_neg (by rw [e4]; decide), if_neg (by rw [e4]; decide), e]
  rfl
end Go.Proofs.YtfikjheicjamhaaDoor
end
section
/- Contracts: chunks by their names (layer 13): the law's disk, the document's example. -/
set_option linter.unusedVariables false
set_option linter.unusedSimpArgs false
set_option maxRecDepth 20000
set_option maxHeartbeats 4000000
namespace Go.Proofs.YtfikjheicjamhaaDoor
open Go.Eng Go.Hx
theorem bld_w13 {P : Program} {pl : Nat → Option (Nat × Nat)} {A : Option Addr} {x : RX} {zs : List Value} (hz : zs.length = 6) (p0 : pl 0 = some (0, 1)) (p1 : pl 1 = some (1, 5)) :
    Bld P pl zs [(0, .pointer A), (1, .agg x.cs.toArray)] (.pointer A :: x.cs) := by
  match zs, hz with
  | [_, _, _, _, _, _], _ => exact .cons (vs := [.pointer A]) p0 rfl rfl (by show 0 + 1 ≤ 6; decide) (.cons (vs := x.cs) p1 rfl rfl (by show 1 + 5 ≤ 6; decide) .nil)
theorem begin13C {room : Int} (h1 : 1 ≤ room) (h2 : room ≤ 1048576) : Con Tryd.prog 37 [.int .i64 room] [] [] (fun v_ X_ S_ => ∃ gw gd gs gl y, v_ = (.pointer (some ⟨gw, 0, none⟩)) ∧ X_ = [RBlk gw 82 (.pointer (some ⟨gd, 0, none⟩) :: y.cs), RDisk gd (dinit room gs gl)] ∧ S_ = [RRef y] ∧ (y.d = RD.new room)) := by
  refine henter (N := 21) Tryd.func37 rfl rfl (by simp) fun b => ?_
  refine hseq <| hreg <| hy (fun _ => y_assign rfl) <| hend <| hthen <| hseq <| hreg <| hy (fun _ => y_move rfl) <| ?_
  refine hx (xh_call rfl Tryd.call73 (newC h1 h2) [] rfl [] rfl ?_)
  rintro _ _ _ ⟨g, gs, gl, rfl, rfl, rfl⟩
  refine hy (fun _ => y_move rfl) <| hy (fun _ => y_extract rfl rfl) <| hy (fun _ => y_extract rfl rfl) <| hy (fun _ => y_assign rfl) <| hy (fun _ => y_assign rfl) <| hend <| hsub (ρ' := [(4, _), (3, _), (2, _), (0, _)]) ⟨rfl, rfl, rfl, rfl, trivial⟩ <| hmemQ (X' := [_]) (S' := []) (fun _ m => m) <| hthen <| hseq <| hseq <| hreg <| hy (fun _ => y_move rfl) <| hy (fun _ => y_eqPn rfl rfl (by kernel_rfl)) <| hy (fun _ => y_move rfl) <| ?_
  refine hyg (o := _) rfl rfl rfl (fun _ => y_move rfl) <| hyg (o := _) rfl rfl rfl (fun _ => y_neq rfl rfl) <| hy (fun _ => y_pickF rfl rfl) <| hend <| hsub (ρ' := [(15, _), (4, _), (3, _), (2, _), (0, _)]) ⟨rfl, rfl, rfl, rfl, rfl, trivial⟩ <| hthen <| ?_
  refine hiff rfl ((by decide)) ?_
  refine hcskip <| hthen <| hseq <| hreg <| hy (fun _ => y_move rfl) <| hy (fun _ => y_move rfl) <| ?_
  refine hx (xh_call rfl Tryd.call76 (rnewX) [] rfl [] rfl ?_)
  rintro _ _ _ ⟨y, rfl, rfl, rfl, hy1⟩
  refine hy (fun _ => y_build ti82 rfl rfl (by kernel_rfl) (bld_w13 rfl pl82_0 pl82_1)) <| ?_
  refine hx (xh_box rfl (fun g20 => ?_))
  refine hmemL (fun w m => m.eqX 0 rfl (show _ = RBlk g20 82 (.pointer (some ⟨g, 0, none⟩) :: y.cs) from congrArg (RBlk _ _) (cells_agg _))) ?_
  refine hy (fun _ => y_assign rfl) <| hend <| hsub (ρ' := [(2, _), (15, _), (4, _), (3, _), (0, _)]) ⟨rfl, rfl, rfl, rfl, rfl, trivial⟩ <| hmemQ (X' := [_, _]) (S' := [_]) (fun _ m => m) <| hthen <| hret <| ?_
  exact hret1 trivial rfl rfl [0, 0] rfl [0] rfl ⟨g20, g, gs, gl, y, rfl, rfl, rfl, hy1⟩
def helloL : List UInt8 := [104, 101, 108, 108, 111]
theorem lives13C  : Con Tryd.prog 36 [] [] [RRoots] (fun v_ X_ S_ => v_ = (.bool true) ∧ X_ = [] ∧ S_ = []) := by
  obtain ⟨h10, hsl⟩ := sealL_le helloL
  have hhl : helloL.length = 5 := rfl
  obtain ⟨d', e1, hd⟩ := (SD.new 1000).put (b := helloL) (by decide) rfl (by omega)
  have h32 : (b8s (shaL helloL)).length = 32 := by rw [b8s_length, shaL_length]
  obtain ⟨g1_, g2_⟩ := get_at hd.at_ (b := helloL) (by decide) (putF_place _ _)
  generalize hnm : shaL helloL = nm at h32 g1_ g2_ e1
  have hm : nm.length = 32 := by rw [← hnm, shaL_length]
  refine henter (N := 60) Tryd.func36 rfl rfl (by simp) fun b => ?_
  refine hseq <| hreg <| hy (fun _ => y_assign rfl) <| hend <| hthen <| hseq <| hreg <| ?_
  refine hx (xh_call rfl Tryd.call37 (begin13C (by decide) (by decide)) [] rfl [] rfl ?_)
  rintro _ _ _ ⟨gw, gd, gs, gl, y, rfl, rfl, rfl, hp⟩
  refine hy (fun _ => y_assign rfl) <| hend <| hsub (ρ' := [(1, _), (0, _)]) ⟨rfl, rfl, trivial⟩ <| hmemQ (X' := [_, _]) (S' := [_, _]) (fun _ m => m) <| hthen <| hseq <| hseq <| hreg <| hy (fun _ => y_move rfl) <| hy (fun _ => y_eqPn rfl rfl (by kernel_rfl)) <| hend <| hsub (ρ' := [(9, _), (1, _), (0, _)]) ⟨rfl, rfl, rfl, trivial⟩ <| hthen <| ?_
  refine hiff rfl (rfl) ?_
  have hD0 : DS (dinit 1000 gs gl) (RD.new 1000) 0 := DS.init (by decide)
  refine hcskip <| hthen <| hseq <| hreg <| hy (fun _ => y_move rfl) <| hy (fun _ => y_nilp rfl) <| hy (fun _ => y_fld rfl fa82_0 (by decide)) <| hy (fun m => y_ld1 rfl ag58 (ld_blk (m.blk 0 rfl) (i := 0) rfl)) <| ?_
  refine hx (xh_bsl Tryd.underlying32 ti5 rfl rfl rfl (by simp [Value.cells, B8]) (by decide) (by decide) (fun g15 => ?_))
  have hA_b15 : 0 < 5 → (some (⟨g15, 0, none⟩ : Addr)) ≠ none := fun _ h => by cases h
  refine hx (xh_cvS 0 rfl rfl Tryd.underlying32 Tryd.underlying5 ?_)
  refine hmemL (fun w m => m.eqX 0 rfl (show _ = ROwn 5 1 (.slice (some ⟨g15, 0, none⟩) 5 5) 5 (b8s helloL) from rfl)) ?_
  refine hx (xh_calll rfl Tryd.call38 (putSC hD0 (by decide) (Nat.le_refl 5) hhl (show 5 ≤ 100000 by decide)) [2] rfl (.x 0 rfl .own (.s 1 rfl .nil)) ?_)
  rintro _ _ _ ⟨st1, rfl, rfl, rfl, hD1⟩
  refine ⟨rfl, ?_⟩
  rw [e1]
  rw [e1] at hD1
  refine hy (fun _ => y_move rfl) <| hy (fun _ => y_extract rfl rfl) <| hy (fun _ => y_extract rfl rfl) <| ?_
  refine hx (xh_alloc ti23 (fun g2 => ?_))
  refine hx0 (xh_stA 0 rfl rfl rfl sz23 h32 b8s_one rfl ?_)
  refine hy (fun _ => y_assign rfl) <| hend <| hsub (ρ' := [(3, _), (2, _), (9, _), (1, _), (0, _)]) ⟨rfl, rfl, rfl, rfl, rfl, trivial⟩ <| hmemQ (X' := [_, _, _, _]) (S' := [_, _]) (fun _ m => m) <| hthen <| hseq <| hdrw [5] [(0, some 0), (1, some 0), (2, some 0), (3, some 0), (4, some 0), (5, none), (6, some 1), (7, some 1), (8, some 1), (9, some 1), (10, some 1)] (by kernel_rfl) (by kernel_rfl) rfl 99 <| htyU (y_move rfl) <| htyU (y_nilp rfl) <| htyU (y_fld rfl fa82_0 (by decide)) <| hty (fun m => y_ld1 rfl ag58 (ld_blk (m.blk 3 rfl) (i := 0) rfl)) <| hty (fun m => y_ldN rfl ag23 sz23 h32 ((m.blk 0 rfl).cells0)) <| ?_
  refine htx (xh_call rfl Tryd.call39 (getC hD1 hm) [1] rfl [1] rfl ?_)
  rintro _ _ _ ⟨v, rfl, rfl, rfl⟩
  refine ⟨(fun _ => wk [2, 0, 1, 1] [0, 1] rfl rfl), ?_⟩
  refine htfact (fun m => (m.own 1 rfl).slice) ?_
  rintro ⟨A_x, c_x, rfl, hc_x⟩
  refine htfact (fun m => (m.ord 1 rfl).2.1) fun hA_x => ?_
  rw [g1_, g2_]
  have hw0 : st1.waits.length = 0 := by
    have h := congrArg List.length hD1.waits
    rw [hd.waits] at h
    simpa using h
  have hz6 : strOf ((placeL zerosL).take 6) = ⟨#[99, 47, 48, 48, 47, 48]⟩ := congrArg strOf (show (placeL zerosL).take 6 = [99, 47, 48, 48, 47, 48] by decide)
  refine htyU (y_move rfl) <| htyU (y_extract rfl rfl) <| htyU (y_extract rfl rfl) <| htyU (y_assign rfl) <| htyU (y_assign rfl) <| htend <| hsub (ρ' := [(5, _), (4, _), (3, _), (2, _), (9, _), (1, _), (0, _)]) ⟨rfl, rfl, rfl, rfl, rfl, rfl, rfl, trivial⟩ <| hmemQ (X' := [_, _, _, _, _]) (S' := [_, _]) (fun _ m => m) <| hthen <| hseq <| hreg <| hy (fun _ => yV (y_build0 ti23 rfl (by kernel_rfl)) ((rfl : _ = Value.agg (b8s zerosL).toArray))) <| ?_
  refine hx (xh_call rfl Tryd.call34 (placeC zerosL_length) [] rfl [] rfl ?_)
  rintro _ _ _ ⟨rfl, rfl, rfl⟩
  refine hy (fun _ => y_assign rfl) <| hend <| hsub (ρ' := [(6, _), (5, _), (4, _), (3, _), (2, _), (9, _), (1, _), (0, _)]) ⟨rfl, rfl, rfl, rfl, rfl, rfl, rfl, rfl, trivial⟩ <| hmemQ (X' := [_, _, _, _, _]) (S' := [_, _]) (fun _ m => m) <| hthen <| hseq <| hreg <| hy (fun _ => y_move rfl) <| hy (fun _ => yT (y_eql rfl rfl) ((decide_eq_true rfl))) <| hy (fun _ => y_move rfl) <| hyg (o := _) rfl rfl rfl (fun _ => y_move rfl) <| hyg (o := _) rfl rfl rfl (fun _ => yT (y_eql rfl rfl) ((decide_eq_true rfl))) <| hy (fun _ => y_pickT rfl rfl) <| hy (fun _ => y_move rfl) <| hyg (o := _) rfl rfl rfl (fun _ => y_move rfl) <| hyg (o := _) rfl rfl rfl (fun m => y_b2s rfl Tryd.underlying32 Tryd.underlying5 Tryd.underlying9 (m.ord 1 rfl)) <| hyg (o := _) rfl rfl rfl (fun _ => yT (y_seq rfl rfl) ((decide_eq_true rfl))) <| hy (fun _ => y_pickT rfl rfl) <| hy (fun _ => y_move rfl) <| hyg (o := _) rfl rfl rfl (fun _ => y_move rfl) <| hyg (o := _) rfl rfl rfl (fun _ => y_lenStr rfl Tryd.underlying9) <| hyg (o := _) rfl rfl rfl (fun _ => yT (y_eql rfl rfl) ((decide_eq_true (by rw [strOf_size, placeL_length zerosL_length]; rfl)))) <| hy (fun _ => y_pickT rfl rfl) <| hy (fun _ => y_move rfl) <| hyg (o := _) rfl rfl rfl (fun _ => y_move rfl) <| ?_
  refine hxg (o := _) rfl rfl rfl (xh_call rfl Tryd.call92 (shortC) [] rfl [] rfl ?_)
  rintro _ _ _ ⟨rfl, rfl, rfl⟩
  refine hyg (o := _) rfl rfl rfl (fun _ => yT (y_seq rfl rfl) ((decide_eq_true hz6))) <| hy (fun _ => y_pickT rfl rfl) <| hy (fun _ => y_move rfl) <| hyg (o := _) rfl rfl rfl (fun _ => y_move rfl) <| hyg (o := _) rfl rfl rfl (fun _ => y_nilp rfl) <| hyg (o := _) rfl rfl rfl (fun _ => y_fld rfl fa82_0 (by decide)) <| hyg (o := _) rfl rfl rfl (fun m => y_ld1 rfl ag58 (ld_blk (m.blk 4 rfl) (i := 0) rfl)) <| ?_
  refine hxg (o := _) rfl rfl rfl (xh_call rfl Tryd.call40 (waitsC) [0] rfl [] rfl ?_)
  rintro _ _ _ ⟨rfl, rfl, rfl⟩
  refine hyg (o := _) rfl rfl rfl (fun _ => yT (y_eql rfl rfl) ((decide_eq_true (by rw [hw0]; rfl)))) <| hy (fun _ => y_pickT rfl rfl) <| hy (fun _ => y_assign rfl) <| hend <| hsub (ρ' := [(0, _), (6, _), (5, _), (4, _), (3, _), (2, _), (9, _), (1, _)]) ⟨rfl, rfl, rfl, rfl, rfl, rfl, rfl, rfl, trivial⟩ <| hmemQ (X' := [_, _, _, _, _]) (S' := [_, _]) (fun _ m => m) <| hthen <| hret <| ?_
  exact hret1 trivial rfl rfl [] rfl [] rfl ⟨rfl, rfl, rfl⟩
end Go.Proofs.YtfikjheicjamhaaDoor
end
section
/- The law StorePlaces, computed. -/
set_option linter.unusedVariables false
set_option linter.unusedSimpArgs false
set_option maxRecDepth 20000
set_option maxHeartbeats 4000000
namespace Go.Proofs.YtfikjheicjamhaaDoor
open Go.Eng Go.Hx
theorem same_places {a c : List UInt8} (ha : a.length = 32) (hb : c.length = 32) : (decide (strOf (placeL a) = strOf (placeL c)) == decide (a = c)) = true := by
  by_cases h : a = c
  · subst h; simp
  · have : ¬ strOf (placeL a) = strOf (placeL c) := fun e => h (placeL_inj ha hb (strOf_inj.1 e))
    rw [decide_eq_false this, decide_eq_false h]; rfl
theorem storePlacesC {a b_ : List UInt8} (ha : a.length = 32) (hb : b_.length = 32) : Con Tryd.prog 8 [.agg (b8s a).toArray, .agg (b8s b_).toArray] [] [RRoots] (fun v_ X_ S_ => v_ = (.bool true) ∧ X_ = [] ∧ S_ = []) := by
  have ha32 : (b8s a).length = 32 := by rw [b8s_length, ha]
  have hb32 : (b8s b_).length = 32 := by rw [b8s_length, hb]
  refine henter (N := 24) Tryd.func8 rfl rfl (by simp) fun b => ?_
  refine hseq <| hreg <| ?_
  refine hx (xh_box rfl (fun g2 => ?_))
  refine hmemL (fun w m => m.eqX 0 rfl (show _ = RBlk g2 23 (b8s a) from congrArg (RBlk _ _) (cells_agg _))) ?_
  refine hx (xh_box rfl (fun g3 => ?_))
  refine hmemL (fun w m => m.eqX 0 rfl (show _ = RBlk g3 23 (b8s b_) from congrArg (RBlk _ _) (cells_agg _))) ?_
  refine hy (fun _ => y_assign rfl) <| hend <| hmemQ (X' := [_, _]) (S' := [_]) (fun _ m => m) <| hthen <| hseq <| hdrw [1, 3, 7, 9, 17] [(0, some 5), (2, some 5), (1, none), (3, none), (4, some 2), (5, some 2), (6, some 2), (8, some 3), (11, some 5), (12, some 5), (13, some 4), (7, none), (9, none), (10, some 4), (14, some 4), (15, some 4), (16, some 4), (17, none), (18, some 5), (19, some 5)] (by kernel_rfl) (by kernel_rfl) rfl 99 <| hty (fun m => y_ldN rfl ag23 sz23 ha32 ((m.blk 1 rfl).cells0)) <| hty (fun m => y_ldN rfl ag23 sz23 ha32 ((m.blk 1 rfl).cells0)) <| ?_
  refine htx (xh_call rfl Tryd.call34 (placeC ha) [] rfl [] rfl ?_)
  rintro _ _ _ ⟨rfl, rfl, rfl⟩
  refine ⟨(fun _ => wk [0, 0] [0] rfl rfl), ?_⟩
  refine htx (xh_call rfl Tryd.call35 (rplaceC ha) [] rfl [] rfl ?_)
  rintro _ _ _ ⟨rfl, rfl, rfl⟩
  refine ⟨(fun _ => wk [0, 0] [0] rfl rfl), ?_⟩
  refine htyU (yT (y_seq rfl rfl) ((decide_eq_true rfl))) <| htyU (y_move rfl) <| htyg (o := _) rfl rfl rfl (fun m => y_ldN rfl ag23 sz23 ha32 ((m.blk 1 rfl).cells0)) <| htyg (o := _) rfl rfl rfl (fun m => y_ldN rfl ag23 sz23 hb32 ((m.blk 0 rfl).cells0)) <| htyg (o := _) rfl rfl rfl (fun m => y_ldN rfl ag23 sz23 ha32 ((m.blk 1 rfl).cells0)) <| htyg (o := _) rfl rfl rfl (fun m => y_ldN rfl ag23 sz23 hb32 ((m.blk 0 rfl).cells0)) <| htyUg (o := _) rfl rfl rfl (y_eqD23 rfl rfl ha hb) <| ?_
  refine htxg (o := _) rfl rfl rfl (xh_call rfl Tryd.call34 (placeC ha) [] rfl [] rfl ?_)
  rintro _ _ _ ⟨rfl, rfl, rfl⟩
  refine ⟨(fun _ => wk [0, 0] [0] rfl rfl), ?_⟩
  refine htxg (o := _) rfl rfl rfl (xh_call rfl Tryd.call34 (placeC hb) [] rfl [] rfl ?_)
  rintro _ _ _ ⟨rfl, rfl, rfl⟩
  refine ⟨(fun _ => wk [0, 0] [0] rfl rfl), ?_⟩
  refine htyUg (o := _) rfl rfl rfl (y_seq rfl rfl) <| htyUg (o := _) rfl rfl rfl (yT (y_beq Tryd.underlying4 rfl rfl) ((same_places ha hb))) <| htyU (y_pickT rfl rfl) <| htyU (y_move rfl) <| ?_
  refine htxg (o := _) rfl rfl rfl (xh_call rfl Tryd.call36 (lives13C) [] rfl [0] rfl ?_)
  rintro _ _ _ ⟨rfl, rfl, rfl⟩
  refine ⟨(fun _ => wk [0, 0] [0] rfl rfl), ?_⟩
  refine htyU (y_pickT rfl rfl) <| htyU (y_assign rfl) <| htend <| hsub (ρ' := [(4, _), (3, _), (2, _), (0, _), (1, _)]) ⟨rfl, rfl, rfl, rfl, rfl, trivial⟩ <| hmemQ (X' := [_, _]) (S' := [_]) (fun _ m => m) <| hthen <| hret <| ?_
  exact hret1 trivial rfl rfl [] rfl [] rfl ⟨rfl, rfl, rfl⟩
theorem storePlaces (a c : List UInt8) (W : World) (ha : a.length = 32) (hb : c.length = 32) (hro : RRoots.holds W) :
    Calls Tryd.prog 8 #[.agg (b8s a).toArray, .agg (b8s c).toArray] W fun e w' => e = .returned (.bool true) ∧ Fr No W w' :=
  con_calls (storePlacesC ha hb) (by
    intro s hs
    simp only [List.mem_cons, List.not_mem_nil, or_false] at hs
    rcases hs with rfl
    exact hro)
end Go.Proofs.YtfikjheicjamhaaDoor
end
