/- What the claim leans on, part 2. -/
import Derived.Test.YtfikjheicjamhaaDoorSS1
import Derived.Test.YtfikjheicjamhaaDoorRows
import Derived.ProofKit
import Derived.LaidMore
import Derived.OpenShut
import Derived.MakeChecks
import Derived.LaidHandle
import Derived.LaidLaws
import Derived.Lib.BytesEntry
import Derived.Laws.BitsAllLaws
import Derived.Test.YtfikjheicjamhaaDoorProg
import Derived.Conc.MuLib
import Derived.KernelRfl
import Derived.Recover
import Derived.WideKeyEntry
import Derived.OrdersIn
import Derived.RangeFuncNested
import Derived.RangeFuncLeaves
import Derived.RangeFuncCalls
import Derived.RangeFuncBox
import Derived.Shelf.Abstract
import Derived.WalkKit
import Derived.OwnWalkIn
import Derived.TacticsInMore
import Derived.LoopNIn
import Derived.LoopIn
section
/- Contracts: the program's digest of bytes (layer 2). -/
set_option linter.unusedVariables false
set_option linter.unusedSimpArgs false
set_option maxRecDepth 20000
namespace Go.Proofs.YtfikjheicjamhaaDoor
open Go.Eng Go.Hx
/-- the table of the program -/
def RRoots : Res := RRd 1 (some ⟨0, 0, none⟩) 64 (wds rootsL)
theorem u64neg {n : Nat} (h0 : 0 < n) (hn : n < 32) : IntKind.u64.wrap (-(n : Int)) = ((18446744073709551616 - n : Nat) : Int) := by
  simp [IntKind.wrap, IntKind.signed, IntKind.bits]
  omega
theorem u64and31 {n : Nat} (h0 : 0 < n) (hn : n < 32) : bits .and .u64 ((18446744073709551616 - n : Nat) : Int) 31 = ((32 - n : Nat) : Int) := by
  have h := u64_and_nat (18446744073709551616 - n) 31 (by omega) (by decide)
  rw [show ((31 : Nat) : Int) = 31 from rfl] at h
  rw [h, show (31 : Nat) = 2 ^ 5 - 1 from rfl, Nat.and_two_pow_sub_one_eq_mod]
  congr 1
  show (18446744073709551616 - n) % 32 = 32 - n
  omega
theorem rotC {x : UInt32} {n : Nat} (h0 : 0 < n) (hn : n < 32) : Con Tryd.prog 188 [Wd x, .int .i64 (-(n : Int))] [] [] (fun v_ X_ S_ => v_ = (Wd (rotr n x)) ∧ X_ = [] ∧ S_ = []) := by
  refine henter (N := 17) Tryd.func188 rfl rfl (by simp) fun b => ?_
  have hs : IntKind.u64.wrap (32 - ((32 - n : Nat) : Int)) = (n : Int) := by
    rw [show (32 : Int) - ((32 - n : Nat) : Int) = (n : Int) by omega]
    simp [IntKind.wrap, IntKind.signed, IntKind.bits]
    omega
  refine hseq <| hreg <| hy (fun _ => y_assign rfl) <| hend <| hthen <| hseq <| hreg <| hy (fun _ => y_move rfl) <| hy (fun _ => y_conv rfl Tryd.underlying3 Tryd.underlying174 (u64neg h0 hn)) <| hy (fun _ => y_bits (by simp) rfl rfl (u64and31 h0 hn)) <| hy (fun _ => y_assign rfl) <| hend <| hsub (ρ' := [(5, _), (4, _), (0, _), (1, _)]) ⟨rfl, rfl, rfl, rfl, trivial⟩ <| hthen <| hseq <| hreg <| hy (fun _ => y_move rfl) <| hy (fun _ => y_move rfl) <| hy (fun _ => (y_wshl (k := 32 - n) (by omega) rfl rfl)) <| hy (fun _ => y_move rfl) <| hy (fun _ => y_move rfl) <| hy (fun _ => y_sub rfl rfl hs) <| hy (fun _ => (y_wshr (k := n) hn rfl rfl)) <| hy (fun _ => yV (y_wor rfl rfl) ((show Wd (UInt32.ofNat (x.toNat * 2 ^ (32 - n)) ||| UInt32.ofNat (x.toNat / 2 ^ n)) = Wd (rotr n x) by rw [rotl_or h0 hn]))) <| hy (fun _ => y_assign rfl) <| hend <| hsub (ρ' := [(4, _), (5, _), (0, _), (1, _)]) ⟨rfl, rfl, rfl, rfl, trivial⟩ <| hthen <| hret <| ?_
  exact hret1 trivial rfl rfl [] rfl [] rfl ⟨rfl, rfl, rfl⟩
theorem turnedC {x : UInt32} {n1 n2 n3 : Nat} (h1 : 0 < n1 ∧ n1 < 32) (h2 : 0 < n2 ∧ n2 < 32) (h3 : 0 < n3 ∧ n3 < 32) : Con Tryd.prog 173 [Wd x, .int .i64 (n1 : Int), .int .i64 (n2 : Int), .int .i64 (n3 : Int)] [] [] (fun v_ X_ S_ => v_ = (Wd (turns n1 n2 n3 x)) ∧ X_ = [] ∧ S_ = []) := by
  refine henter (N := 23) Tryd.func173 rfl rfl (by simp) fun b => ?_
  refine hseq <| hreg <| hy (fun _ => y_assign rfl) <| hend <| hthen <| hseq <| hreg <| hy (fun _ => y_move rfl) <| hy (fun _ => y_move rfl) <| hy (fun _ => y_neg rfl (w64 (by omega) (by omega))) <| ?_
  refine hx (xh_call rfl Tryd.call188 (rotC h1.1 h1.2 (n := n1)) [] rfl [] rfl ?_)
  rintro _ _ _ ⟨rfl, rfl, rfl⟩
  refine hy (fun _ => y_move rfl) <| hy (fun _ => y_move rfl) <| hy (fun _ => y_neg rfl (w64 (by omega) (by omega))) <| ?_
  refine hx (xh_call rfl Tryd.call188 (rotC h2.1 h2.2 (n := n2)) [] rfl [] rfl ?_)
  rintro _ _ _ ⟨rfl, rfl, rfl⟩
  refine hy (fun _ => y_wxor rfl rfl) <| hy (fun _ => y_move rfl) <| hy (fun _ => y_move rfl) <| hy (fun _ => y_neg rfl (w64 (by omega) (by omega))) <| ?_
  refine hx (xh_call rfl Tryd.call188 (rotC h3.1 h3.2 (n := n3)) [] rfl [] rfl ?_)
  rintro _ _ _ ⟨rfl, rfl, rfl⟩
  refine hy (fun _ => y_wxor rfl rfl) <| hy (fun _ => y_assign rfl) <| hend <| hsub (ρ' := [(8, _), (0, _), (1, _), (2, _), (3, _)]) ⟨rfl, rfl, rfl, rfl, rfl, trivial⟩ <| hmemQ (X' := []) (S' := []) (fun _ m => m) <| hthen <| hret <| ?_
  exact hret1 trivial rfl rfl [] rfl [] rfl ⟨rfl, rfl, rfl⟩
theorem fill_get {a : List UInt32} {i k n : Nat} (ha : a.length = i) (hk : k < i) : (wds (a ++ List.replicate n 0))[k]? = some (Wd (a.getD k 0)) := by
  rw [wds_get (by simp; omega)]
  simp [List.getD, List.getElem?_append_left (show k < a.length by omega)]
theorem mid_get {a r : List UInt32} {i : Nat} {x : UInt32} (ha : a.length = i) : (wds (a ++ x :: r))[i]? = some (Wd x) := by
  subst ha
  simp [wds]
theorem mid_set {a r : List UInt32} {i : Nat} {x y : UInt32} (ha : a.length = i) : (wds (a ++ x :: r)).set i (Wd y) = wds (a ++ y :: r) := by
  subst ha
  simp [wds, List.set_append]
theorem mid_end {a r : List UInt32} {y : UInt32} : a ++ y :: r = (a ++ [y]) ++ r := by simp
theorem wordsC {A : Option Addr} {c : Nat} {l : List UInt8} (hc : 64 ≤ c) : Con Tryd.prog 172 [.slice A 64 c] [] [RRd 1 A 64 (b8s l)] (fun v_ X_ S_ => v_ = (.agg (wds (wl l 64)).toArray) ∧ X_ = [] ∧ S_ = []) := by
  refine henter (N := 75) Tryd.func172 rfl rfl (by simp) fun b => ?_
  refine hfactC (fun m => rdB (m.rd 0 rfl)) ?_
  rintro ⟨hl_r, hA_r⟩
  have hl : l.length = 64 := hl_r
  refine hseq <| hreg <| ?_
  refine hx (xh_alloc ti254 (fun g2 => ?_))
  refine hend <| hmemQ (X' := [_]) (S' := [_]) (fun _ m => m) <| hthen <| hseq <| hreg <| ?_
  refine hx (xh_alloc ti254 (fun g3 => ?_))
  refine hmemL (fun w m => m.eqX 0 rfl (show _ = RBlk g3 254 (wds (wl l 0 ++ List.replicate (64 - 0) 0)) from rfl)) ?_
  refine hend <| hmemQ (X' := [_, _]) (S' := [_]) (fun _ m => m) <| hthen <| hseq <| hseq <| hreg <| hy (fun _ => y_move rfl) <| hend <| hthen <| hblock <| ?_
  refine hloop1 (fun i => 64 - i) (fun i => [(9, .int .i64 (i : Nat))]) (fun i => [RBlk g3 254 (wds (wl l i ++ List.replicate (64 - i) 0))]) (fun i => []) (fun i => i ≤ 64) 0 [(3, _), (2, _), (0, _)] ⟨rfl, rfl, rfl, trivial⟩ [0] rfl [] rfl (Nat.zero_le _) ⟨rfl, trivial⟩ (fun i hI => ?_)
  have hwl := wl_length l i
  refine hseq <| hreg <| hy (fun _ => y_lss rfl rfl) <| hend <| hthen <| hseq <| ?_
  refine hif rfl (fun h => ?_) (fun h => ?_)
  · have hr64 : (List.replicate (64 - i) (0 : UInt32)) = 0 :: List.replicate (63 - i) 0 := by rw [show 64 - i = (63 - i) + 1 by omega, List.replicate_succ]
    have hr63 : (64 - (i + 1)) = 63 - i := by omega
    refine hcskip <| hthen <| hseq <| hblock <| hseq <| hreg <| hy (fun _ => y_move rfl) <| hy (fun _ => y_assign rfl) <| hend <| hsub (ρ' := [(4, _), (10, _), (9, _), (3, _), (2, _), (0, _)]) ⟨rfl, rfl, rfl, rfl, rfl, rfl, trivial⟩ <| hthen <| hseq <| hseq <| hreg <| hy (fun _ => y_move rfl) <| hy (fun _ => y_lss rfl rfl) <| hend <| hsub (ρ' := [(13, _), (4, _), (10, _), (9, _), (3, _), (2, _), (0, _)]) ⟨rfl, rfl, rfl, rfl, rfl, rfl, rfl, trivial⟩ <| hthen <| ?_
    refine hif rfl (fun h16 => ?_) (fun h16 => ?_)
    · have hws : wl l (i + 1) = wl l i ++ [word4 l (4 * i)] := by rw [wl, if_pos (by omega)]
      refine hmemC (fun w m => m.asV 0 rfl (View.sub (k := 4 * i) (m := 4) hc (by omega))) ?_
      refine hfactC (fun m => rdB (m.rd 0 rfl)) ?_
      rintro ⟨hl_r4, hA_r4⟩
      refine hseq <| hseq <| hreg <| hy (fun _ => y_move rfl) <| hy (fun _ => y_move rfl) <| hy (fun _ => y_mul rfl rfl (w64 (by omega) (by omega))) <| hy (fun _ => y_move rfl) <| hy (fun _ => y_mul rfl rfl (w64 (by omega) (by omega))) <| hy (fun _ => y_add rfl rfl (w64 (by omega) (by omega))) <| hy (fun _ => yV (y_slBoth rfl rfl rfl Tryd.underlying32 sz5 (show ((4 * i : Nat) : Int) = _ by omega) (show ((4 * i + 4 : Nat) : Int) = _ by omega) (by omega) (by omega)) ((show Value.slice (if c = 4 * i then A else A.map (·.add (4 * i * 1))) (4 * i + 4 - 4 * i) (c - 4 * i) = .slice (if c = 4 * i then A else A.map (·.add (4 * i * 1))) 4 (c - 4 * i) by rw [Nat.add_sub_cancel_left]))) <| hy (fun _ => y_lenS rfl Tryd.underlying32) <| hy (fun _ => y_move rfl) <| hend <| hsub (ρ' := [(22, _), (21, _), (20, _), (13, _), (4, _), (10, _), (9, _), (3, _), (2, _), (0, _)]) ⟨rfl, rfl, rfl, rfl, rfl, rfl, rfl, rfl, rfl, rfl, trivial⟩ <| hthen <| hblock <| ?_
      refine hmemC (fun w m => m.eqX 0 rfl (show _ = RBlk g3 254 (wds (wl l i ++ UInt32.ofNat (wp l (4 * i) 0) :: List.replicate (63 - i) 0)) from by rw [hr64]; rfl)) ?_
      refine hloop1 (fun j => 4 - j) (fun j => [(22, .int .i64 (j : Nat))]) (fun j => [RBlk g3 254 (wds (wl l i ++ UInt32.ofNat (wp l (4 * i) j) :: List.replicate (63 - i) 0))]) (fun j => []) (fun j => j ≤ 4) 0 [(21, _), (20, _), (13, _), (4, _), (10, _), (9, _), (3, _), (2, _), (0, _)] ⟨rfl, rfl, rfl, rfl, rfl, rfl, rfl, rfl, rfl, trivial⟩ [0] rfl [] rfl (Nat.zero_le _) ⟨rfl, trivial⟩ (fun j hj4 => ?_)
      refine hseq <| hreg <| hy (fun _ => y_lss rfl rfl) <| hend <| hthen <| hseq <| ?_
      refine hif rfl (fun hj => ?_) (fun hj => ?_)
      · have hgl : ((l.drop (4 * i)).take 4).getD j 0 = l.getD (4 * i + j) 0 := by
          simp [List.getD, List.getElem?_take, List.getElem?_drop, show j < 4 by omega]
        refine hcskip <| hthen <| hseq <| hblock <| hseq <| hreg <| hy (fun _ => y_idxS1 rfl rfl Tryd.underlying32 sz5 hA_r4 rfl (by omega)) <| hy (fun m => y_ld1 rfl ag5 ((m.rd 0 rfl).cell (b8s_get (by omega)))) <| hy (fun _ => y_assign rfl) <| hend <| hsub (ρ' := [(6, _), (23, _), (22, _), (21, _), (20, _), (13, _), (4, _), (10, _), (9, _), (3, _), (2, _), (0, _)]) ⟨rfl, rfl, rfl, rfl, rfl, rfl, rfl, rfl, rfl, rfl, rfl, rfl, trivial⟩ <| hthen <| hreg <| hy (fun _ => y_move rfl) <| hy (fun _ => y_move rfl) <| hy (fun _ => y_idxA1 rfl rfl Tryd.underlying254 sz120 rfl (by omega)) <| hy (fun m => y_ld1 rfl ag120 ((m.blk 0 rfl).cells0 i _ (mid_get hwl))) <| hy (fun _ => y_wshlD (k := 8) (b := 256) (by decide) rfl rfl rfl) <| hy (fun _ => y_move rfl) <| hy (fun _ => y_w8 rfl Tryd.underlying5 Tryd.underlying120) <| hy (fun _ => yV (y_wor rfl rfl) ((show Wd ((UInt32.ofNat (wp l (4 * i) j) * 256) ||| (((l.drop (4 * i)).take 4).getD j 0).toUInt32) = Wd (UInt32.ofNat (wp l (4 * i) (j + 1))) by rw [hgl, wp_step (by omega)]))) <| hy (fun _ => y_idxA1 rfl rfl Tryd.underlying254 sz120 rfl (by omega)) <| ?_
        refine hx0 (xh_st1a 0 rfl rfl rfl sz120 rfl (by rw [wds_length]; simp only [List.length_append, List.length_cons, List.length_replicate, hwl]; omega) ?_)
        refine hend <| hsub (ρ' := [(6, _), (23, _), (22, _), (21, _), (20, _), (13, _), (4, _), (10, _), (9, _), (3, _), (2, _), (0, _)]) ⟨rfl, rfl, rfl, rfl, rfl, rfl, rfl, rfl, rfl, rfl, rfl, rfl, trivial⟩ <| hmemQ (X' := [_, _]) (S' := [_, _]) (fun _ m => m) <| hqblock <| hthen <| hreg <| hy (fun _ => y_add rfl rfl (w64 (by omega) (by omega))) <| hy (fun _ => y_move rfl) <| hend <| hsub (ρ' := [(22, _), (6, _), (23, _), (21, _), (20, _), (13, _), (4, _), (10, _), (9, _), (3, _), (2, _), (0, _)]) ⟨rfl, rfl, rfl, rfl, rfl, rfl, rfl, rfl, rfl, rfl, rfl, rfl, trivial⟩ <| ?_
        refine hmemQ (fun w m => m.eqX 0 rfl (show _ = RBlk g3 254 (wds (wl l i ++ UInt32.ofNat (wp l (4 * i) (j + 1)) :: List.replicate (63 - i) 0)) from by rw [Nat.zero_add, mid_set hwl])) ?_
        refine hnext1 (j + 1) ⟨rfl, rfl, rfl, rfl, rfl, rfl, rfl, rfl, rfl, rfl, trivial⟩ [0, 0] rfl [0, 1] rfl (by omega) (by omega)
      · obtain rfl : j = 4 := by omega
        refine hexit <| hthen_exit <| hthen_exit <| hqblock_exit <| hthen <| hexit <| hthen_exit <| hqblock_exit <| hthen <| hreg <| hy (fun _ => y_add rfl rfl (w64 (by omega) (by omega))) <| hy (fun _ => y_move rfl) <| hend <| hsub (ρ' := [(9, _), (23, _), (22, _), (21, _), (20, _), (13, _), (4, _), (10, _), (3, _), (2, _), (0, _)]) ⟨rfl, rfl, rfl, rfl, rfl, rfl, rfl, rfl, rfl, rfl, rfl, trivial⟩ <| ?_
        refine hmemQ (fun w m => m.eqX 0 rfl (show _ = RBlk g3 254 (wds (wl l (i + 1) ++ List.replicate (64 - (i + 1)) 0)) from by rw [wp_four, mid_end, hws, hr63])) ?_
        refine hnext1 (i + 1) ⟨rfl, rfl, rfl, rfl, trivial⟩ [0, 0] rfl [1] rfl (by omega) (by omega)
    · have hws : wl l (i + 1) = wl l i ++ [wnext (wl l i) i] := by rw [wl, if_neg (by omega)]
      refine hcskip <| hthen <| hseq <| hdrw [] [(0, some 0), (1, some 0), (2, some 0), (3, some 0), (4, some 0), (5, some 0), (6, some 0), (7, some 0), (8, some 0), (9, some 0)] (by kernel_rfl) (by kernel_rfl) rfl 99 <| htyU (y_move rfl) <| htyU (y_sub rfl rfl (w64 (by omega) (by omega))) <| htyU (y_idxA1 rfl rfl Tryd.underlying254 sz120 (show ((i - 15 : Nat) : Int) = _ by omega) (by omega)) <| hty (fun m => y_ld1 rfl ag120 ((m.blk 0 rfl).cells0 (i - 15) _ (fill_get hwl (by omega)))) <| htyU (y_move rfl) <| htyU (y_sub rfl rfl (w64 (by omega) (by omega))) <| htyU (y_idxA1 rfl rfl Tryd.underlying254 sz120 (show ((i - 2 : Nat) : Int) = _ by omega) (by omega)) <| hty (fun m => y_ld1 rfl ag120 ((m.blk 0 rfl).cells0 (i - 2) _ (fill_get hwl (by omega)))) <| htyU (y_assign rfl) <| htyU (y_assign rfl) <| htend <| hsub (ρ' := [(8, _), (7, _), (13, _), (4, _), (10, _), (9, _), (3, _), (2, _), (0, _)]) ⟨rfl, rfl, rfl, rfl, rfl, rfl, rfl, rfl, rfl, trivial⟩ <| hthen <| hdrw [6, 8, 20, 22, 29] [(0, some 4), (1, some 4), (2, some 4), (3, some 4), (4, some 4), (5, some 0), (7, some 1), (10, some 4), (11, some 4), (14, some 4), (15, some 4), (16, some 4), (17, some 4), (19, some 2), (21, some 3), (24, some 4), (25, some 4), (6, none), (8, none), (9, some 4), (12, some 4), (13, some 4), (18, some 4), (20, none), (22, none), (23, some 4), (26, some 4), (27, some 4), (28, some 4), (29, none)] (by kernel_rfl) (by kernel_rfl) rfl 4 <| htyU (y_move rfl) <| htyU (y_move rfl) <| htyU (y_sub rfl rfl (w64 (by omega) (by omega))) <| htyU (y_idxA1 rfl rfl Tryd.underlying254 sz120 (show ((i - 16 : Nat) : Int) = _ by omega) (by omega)) <| hty (fun m => y_ld1 rfl ag120 ((m.blk 0 rfl).cells0 (i - 16) _ (fill_get hwl (by omega)))) <| htyU (y_move rfl) <| htyU (y_move rfl) <| htyU (y_move rfl) <| htyU (y_wshrD (k := 3) (b := 8) (by decide) rfl rfl rfl) <| htyU (y_move rfl) <| htyU (y_sub rfl rfl (w64 (by omega) (by omega))) <| htyU (y_idxA1 rfl rfl Tryd.underlying254 sz120 (show ((i - 7 : Nat) : Int) = _ by omega) (by omega)) <| hty (fun m => y_ld1 rfl ag120 ((m.blk 0 rfl).cells0 (i - 7) _ (fill_get hwl (by omega)))) <| htyU (y_move rfl) <| htyU (y_move rfl) <| htyU (y_move rfl) <| htyU (y_wshrD (k := 10) (b := 1024) (by decide) rfl rfl rfl) <| ?_
      refine htx (xh_call rfl Tryd.call188 (rotC (by decide) (by decide) (n := 7)) [] rfl [] rfl ?_)
      rintro _ _ _ ⟨rfl, rfl, rfl⟩
      refine ⟨(fun _ => wk [0, 0] [0] rfl rfl), ?_⟩
      refine htx (xh_call rfl Tryd.call188 (rotC (by decide) (by decide) (n := 18)) [] rfl [] rfl ?_)
      rintro _ _ _ ⟨rfl, rfl, rfl⟩
      refine ⟨(fun _ => wk [0, 0] [0] rfl rfl), ?_⟩
      refine htyU (y_wxor rfl rfl) <| htyU (y_wxor rfl rfl) <| htyU (y_wadd rfl rfl) <| htyU (y_wadd rfl rfl) <| ?_
      refine htx (xh_call rfl Tryd.call188 (rotC (by decide) (by decide) (n := 17)) [] rfl [] rfl ?_)
      rintro _ _ _ ⟨rfl, rfl, rfl⟩
      refine ⟨(fun _ => wk [0, 0] [0] rfl rfl), ?_⟩
      refine htx (xh_call rfl Tryd.call188 (rotC (by decide) (by decide) (n := 19)) [] rfl [] rfl ?_)
      rintro _ _ _ ⟨rfl, rfl, rfl⟩
      refine ⟨(fun _ => wk [0, 0] [0] rfl rfl), ?_⟩
      refine htyU (y_wxor rfl rfl) <| htyU (y_wxor rfl rfl) <| htyU (yV (y_wadd rfl rfl) ((rfl : _ = Wd (wnext (wl l i) i)))) <| htyU (y_idxA1 rfl rfl Tryd.underlying254 sz120 rfl (by omega)) <| ?_
      refine htx0 (xh_st1a 0 rfl rfl rfl sz120 rfl (by rw [wds_length]; simp only [List.length_append, List.length_replicate, hwl]; omega) ⟨(fun h => absurd h (by decide)), ?_⟩)
      refine htend <| hsub (ρ' := [(8, _), (7, _), (13, _), (4, _), (10, _), (9, _), (3, _), (2, _), (0, _)]) ⟨rfl, rfl, rfl, rfl, rfl, rfl, rfl, rfl, rfl, trivial⟩ <| hmemQ (X' := [_, _]) (S' := [_]) (fun _ m => m) <| hqblock <| hthen <| hreg <| hy (fun _ => y_add rfl rfl (w64 (by omega) (by omega))) <| hy (fun _ => y_move rfl) <| hend <| hsub (ρ' := [(9, _), (8, _), (7, _), (13, _), (4, _), (10, _), (3, _), (2, _), (0, _)]) ⟨rfl, rfl, rfl, rfl, rfl, rfl, rfl, rfl, rfl, trivial⟩ <| ?_
      refine hmemQ (fun w m => m.eqX 0 rfl (show _ = RBlk g3 254 (wds (wl l (i + 1) ++ List.replicate (64 - (i + 1)) 0)) from by rw [Nat.zero_add, hr64, mid_set hwl, mid_end, hws, hr63])) ?_
      refine hnext1 (i + 1) ⟨rfl, rfl, rfl, rfl, trivial⟩ [0, 0] rfl [0] rfl (by omega) (by omega)
  · obtain rfl : i = 64 := by omega
    refine hmemC (fun w m => m.eqX 0 rfl (show _ = RBlk g3 254 (wds (wl l 64)) from by rw [Nat.sub_self]; simp)) ?_
    refine hexit <| hthen_exit <| hthen_exit <| hqblock_exit <| hthen <| hseq <| hreg <| hy (fun m => yV (y_ldN rfl ag254 sz254 (by rw [wds_length, wl_length]) ((m.blk 0 rfl).cells0)) ((rfl : _ = Value.agg (wds (wl l 64)).toArray))) <| ?_
    refine hx0 (xh_stA 1 rfl rfl rfl sz254 (by rw [wds_length, wl_length]) wds_one rfl ?_)
    refine hend <| hsub (ρ' := [(10, _), (9, _), (3, _), (2, _), (0, _)]) ⟨rfl, rfl, rfl, rfl, rfl, trivial⟩ <| hmemQ (X' := [_, _]) (S' := [_]) (fun _ m => m) <| hthen <| hret <| ?_
    exact hretN trivial rfl rfl ag254 sz254 (by rw [wds_length, wl_length]) (fun m => (m.blk 0 rfl).cells0) [] rfl [] rfl ⟨rfl, rfl, rfl⟩
theorem hsum_length (v h : List UInt32) (i : Nat) : (hsum v h i).length = v.length := by simp [hsum]
theorem mixC {A : Option Addr} {c : Nat} {l : List UInt8} {h : List UInt32} (hc : 64 ≤ c) (hh : h.length = 8) : Con Tryd.prog 154 [.agg (wds h).toArray, .slice A 64 c] [] [RRd 1 A 64 (b8s l), RRoots] (fun v_ X_ S_ => v_ = (.agg (wds (blockL h l)).toArray) ∧ X_ = [] ∧ S_ = []) := by
  refine henter (N := 99) Tryd.func154 rfl rfl (by simp) fun b => ?_
  refine hfactC (fun m => rdB (m.rd 0 rfl)) ?_
  rintro ⟨hl_r, hA_r⟩
  refine hseq <| hreg <| ?_
  refine hx (xh_box rfl (fun g2 => ?_))
  refine hmemL (fun w m => m.eqX 0 rfl (show _ = RBlk g2 222 (wds h) from congrArg (RBlk _ _) (cells_agg _))) ?_
  refine hx (xh_alloc ti222 (fun g4 => ?_))
  refine hend <| hmemQ (X' := [_, _]) (S' := [_, _]) (fun _ m => m) <| hthen <| hseq <| hreg <| hy (fun _ => y_move rfl) <| ?_
  refine hx (xh_call rfl Tryd.call172 (wordsC (by omega)) [] rfl [0] rfl ?_)
  rintro _ _ _ ⟨rfl, rfl, rfl⟩
  obtain ⟨W, hW⟩ : ∃ W, wl l 64 = W := ⟨_, rfl⟩
  have hw64 : W.length = 64 := by rw [← hW]; exact wl_length l 64
  rw [hW]
  refine hx (xh_alloc ti254 (fun g5 => ?_))
  refine hx0 (xh_stA 0 rfl rfl rfl sz254 (by rw [wds_length, hw64]) wds_one rfl ?_)
  refine hend <| hsub (ρ' := [(5, _), (4, _), (2, _), (0, _), (1, _)]) ⟨rfl, rfl, rfl, rfl, rfl, trivial⟩ <| hmemQ (X' := [_, _, _]) (S' := [_, _]) (fun _ m => m) <| hthen <| hseq <| hreg <| hy (fun m => yV (y_ldN rfl ag222 sz222 (by rw [wds_length, hh]) ((m.blk 2 rfl).cells0)) ((rfl : _ = Value.agg (wds h).toArray))) <| ?_
  refine hx (xh_alloc ti222 (fun g6 => ?_))
  refine hx0 (xh_stA 0 rfl rfl rfl sz222 (by rw [wds_length, hh]) wds_one rfl ?_)
  refine hend <| hsub (ρ' := [(6, _), (5, _), (4, _), (2, _), (0, _), (1, _)]) ⟨rfl, rfl, rfl, rfl, rfl, rfl, trivial⟩ <| hmemQ (X' := [_, _, _, _]) (S' := [_, _]) (fun _ m => m) <| hthen <| hseq <| hseq <| hreg <| hy (fun _ => y_move rfl) <| hend <| hthen <| hblock <| ?_
  refine hloop1 (fun i => 64 - i) (fun i => [(16, .int .i64 (i : Nat))]) (fun i => [RBlk g6 222 (wds (rnds W h i))]) (fun i => []) (fun i => i ≤ 64) 0 [(6, _), (5, _), (4, _), (2, _), (0, _), (1, _)] ⟨rfl, rfl, rfl, rfl, rfl, rfl, trivial⟩ [0] rfl [] rfl (Nat.zero_le _) ⟨rfl, trivial⟩ (fun i hI => ?_)
  have hv := rnds_length (w := W) hh i
  have hro : rootsL.length = 64 := rfl
  refine hseq <| hreg <| hy (fun _ => y_lss rfl rfl) <| hend <| hthen <| hseq <| ?_
  refine hif rfl (fun hlt => ?_) (fun hlt => ?_)
  · generalize hvd : rnds W h i = v at hv ⊢
    refine hcskip <| hthen <| hseq <| hblock <| hseq <| hreg <| hy (fun _ => y_move rfl) <| hy (fun _ => y_assign rfl) <| hend <| hsub (ρ' := [(7, _), (17, _), (16, _), (6, _), (5, _), (4, _), (2, _), (0, _), (1, _)]) ⟨rfl, rfl, rfl, rfl, rfl, rfl, rfl, rfl, rfl, trivial⟩ <| hthen <| hseq <| hdrw [] [(0, some 0), (1, some 0), (2, some 0), (3, some 0), (4, some 0), (5, some 0)] (by kernel_rfl) (by kernel_rfl) rfl 99 <| htyU (y_idxA1 rfl rfl Tryd.underlying222 sz120 (show ((4 : Nat) : Int) = 4 from rfl) (by omega)) <| hty (fun m => y_ld1 rfl ag120 ((m.blk 0 rfl).cells0 4 _ (wds_get (by omega)))) <| htyU (y_idxA1 rfl rfl Tryd.underlying222 sz120 (show ((0 : Nat) : Int) = 0 from rfl) (by omega)) <| hty (fun m => y_ld1 rfl ag120 ((m.blk 0 rfl).cells0 0 _ (wds_get (by omega)))) <| htyU (y_assign rfl) <| htyU (y_assign rfl) <| htend <| hsub (ρ' := [(9, _), (8, _), (7, _), (17, _), (16, _), (6, _), (5, _), (4, _), (2, _), (0, _), (1, _)]) ⟨rfl, rfl, rfl, rfl, rfl, rfl, rfl, rfl, rfl, rfl, rfl, trivial⟩ <| hthen <| hseq <| hdrw [3] [(0, some 1), (1, some 1), (2, some 0), (5, some 1), (6, some 1), (7, some 1), (8, some 1), (9, some 1), (10, some 1), (11, some 1), (12, some 1), (13, some 1), (14, some 1), (16, some 1), (17, some 1), (18, some 1), (20, some 1), (21, some 1), (22, some 1), (3, none), (4, some 1), (15, some 1), (19, some 1), (23, some 1), (24, some 1)] (by kernel_rfl) (by kernel_rfl) rfl 99 <| htyU (y_idxA1 rfl rfl Tryd.underlying222 sz120 (show ((7 : Nat) : Int) = 7 from rfl) (by omega)) <| hty (fun m => y_ld1 rfl ag120 ((m.blk 0 rfl).cells0 7 _ (wds_get (by omega)))) <| htyU (y_move rfl) <| htyU (y_move rfl) <| htyU (y_idxA1 rfl rfl Tryd.underlying222 sz120 (show ((5 : Nat) : Int) = 5 from rfl) (by omega)) <| hty (fun m => y_ld1 rfl ag120 ((m.blk 0 rfl).cells0 5 _ (wds_get (by omega)))) <| htyU (y_wand rfl rfl) <| htyU (y_move rfl) <| htyU (y_wnot rfl) <| htyU (y_idxA1 rfl rfl Tryd.underlying222 sz120 (show ((6 : Nat) : Int) = 6 from rfl) (by omega)) <| hty (fun m => y_ld1 rfl ag120 ((m.blk 0 rfl).cells0 6 _ (wds_get (by omega)))) <| htyU (y_wand rfl rfl) <| htyU (y_wxor rfl rfl) <| htyU (y_move rfl) <| htyU (y_idxA1 rfl rfl Tryd.underlying254 sz120 rfl (by omega)) <| hty (fun m => y_ld1 rfl ag120 ((show Rd _ 1 _ 64 (wds rootsL) from m.sres 1 rfl).cell (j := i) (wds_get (by omega)))) <| htyU (y_move rfl) <| htyU (y_idxA1 rfl rfl Tryd.underlying254 sz120 rfl (by omega)) <| hty (fun m => y_ld1 rfl ag120 ((m.blk 1 rfl).cells0 i _ (wds_get (by omega)))) <| ?_
    refine htx (xh_call rfl Tryd.call173 (turnedC (by decide) (by decide) (by decide) (n1 := 6) (n2 := 11) (n3 := 25)) [] rfl [] rfl ?_)
    rintro _ _ _ ⟨rfl, rfl, rfl⟩
    refine ⟨(fun _ => wk [0, 0, 0, 0] [0, 1] rfl rfl), ?_⟩
    refine htyU (y_wadd rfl rfl) <| htyU (y_wadd rfl rfl) <| htyU (y_wadd rfl rfl) <| ?_
    generalize hk : rootsL.getD i 0 = k
    refine htyU (yV (y_wadd rfl rfl) ((rfl : _ = Wd (rt v k (W.getD i 0))))) <| htyU (y_assign rfl) <| htend <| hsub (ρ' := [(10, _), (9, _), (8, _), (7, _), (17, _), (16, _), (6, _), (5, _), (4, _), (2, _), (0, _), (1, _)]) ⟨rfl, rfl, rfl, rfl, rfl, rfl, rfl, rfl, rfl, rfl, rfl, rfl, trivial⟩ <| hmemQ (X' := [_, _, _, _]) (S' := [_, _]) (fun _ m => m) <| hthen <| hseq <| hdrw [1] [(0, some 0), (2, some 1), (3, some 1), (4, some 1), (5, some 1), (6, some 1), (7, some 1), (8, some 1), (9, some 1), (10, some 1), (11, some 1), (12, some 1), (13, some 1), (14, some 1), (15, some 1), (16, some 1), (1, none), (17, some 1), (18, some 1)] (by kernel_rfl) (by kernel_rfl) rfl 99 <| htyU (y_move rfl) <| htyU (y_move rfl) <| htyU (y_idxA1 rfl rfl Tryd.underlying222 sz120 (show ((1 : Nat) : Int) = 1 from rfl) (by omega)) <| hty (fun m => y_ld1 rfl ag120 ((m.blk 0 rfl).cells0 1 _ (wds_get (by omega)))) <| htyU (y_wand rfl rfl) <| htyU (y_move rfl) <| htyU (y_idxA1 rfl rfl Tryd.underlying222 sz120 (show ((2 : Nat) : Int) = 2 from rfl) (by omega)) <| hty (fun m => y_ld1 rfl ag120 ((m.blk 0 rfl).cells0 2 _ (wds_get (by omega)))) <| htyU (y_wand rfl rfl) <| htyU (y_wxor rfl rfl) <| htyU (y_idxA1 rfl rfl Tryd.underlying222 sz120 (show ((1 : Nat) : Int) = 1 from rfl) (by omega)) <| hty (fun m => y_ld1 rfl ag120 ((m.blk 0 rfl).cells0 1 _ (wds_get (by omega)))) <| htyU (y_idxA1 rfl rfl Tryd.underlying222 sz120 (show ((2 : Nat) : Int) = 2 from rfl) (by omega)) <| hty (fun m => y_ld1 rfl ag120 ((m.blk 0 rfl).cells0 2 _ (wds_get (by omega)))) <| htyU (y_wand rfl rfl) <| htyU (y_wxor rfl rfl) <| ?_
    refine htx (xh_call rfl Tryd.call173 (turnedC (by decide) (by decide) (by decide) (n1 := 2) (n2 := 13) (n3 := 22)) [] rfl [] rfl ?_)
    rintro _ _ _ ⟨rfl, rfl, rfl⟩
    refine ⟨(fun _ => wk [0, 0, 0, 0] [0, 1] rfl rfl), ?_⟩
    refine htyU (yV (y_wadd rfl rfl) ((rfl : _ = Wd (ru v)))) <| htyU (y_assign rfl) <| htend <| hsub (ρ' := [(11, _), (10, _), (9, _), (8, _), (7, _), (17, _), (16, _), (6, _), (5, _), (4, _), (2, _), (0, _), (1, _)]) ⟨rfl, rfl, rfl, rfl, rfl, rfl, rfl, rfl, rfl, rfl, rfl, rfl, rfl, trivial⟩ <| hmemQ (X' := [_, _, _, _]) (S' := [_, _]) (fun _ m => m) <| hthen <| hreg <| hy (fun _ => y_move rfl) <| hy (fun _ => y_move rfl) <| hy (fun _ => y_wadd rfl rfl) <| hy (fun _ => y_idxA1 rfl rfl Tryd.underlying222 sz120 (show ((0 : Nat) : Int) = 0 from rfl) (by omega)) <| hy (fun m => y_ld1 rfl ag120 ((m.blk 0 rfl).cells0 0 _ (wds_get (by omega)))) <| hy (fun _ => y_idxA1 rfl rfl Tryd.underlying222 sz120 (show ((1 : Nat) : Int) = 1 from rfl) (by omega)) <| hy (fun m => y_ld1 rfl ag120 ((m.blk 0 rfl).cells0 1 _ (wds_get (by omega)))) <| hy (fun _ => y_idxA1 rfl rfl Tryd.underlying222 sz120 (show ((2 : Nat) : Int) = 2 from rfl) (by omega)) <| hy (fun m => y_ld1 rfl ag120 ((m.blk 0 rfl).cells0 2 _ (wds_get (by omega)))) <| hy (fun _ => y_idxA1 rfl rfl Tryd.underlying222 sz120 (show ((3 : Nat) : Int) = 3 from rfl) (by omega)) <| hy (fun m => y_ld1 rfl ag120 ((m.blk 0 rfl).cells0 3 _ (wds_get (by omega)))) <| hy (fun _ => y_move rfl) <| hy (fun _ => y_wadd rfl rfl) <| hy (fun _ => y_idxA1 rfl rfl Tryd.underlying222 sz120 (show ((4 : Nat) : Int) = 4 from rfl) (by omega)) <| hy (fun m => y_ld1 rfl ag120 ((m.blk 0 rfl).cells0 4 _ (wds_get (by omega)))) <| hy (fun _ => y_idxA1 rfl rfl Tryd.underlying222 sz120 (show ((5 : Nat) : Int) = 5 from rfl) (by omega)) <| hy (fun m => y_ld1 rfl ag120 ((m.blk 0 rfl).cells0 5 _ (wds_get (by omega)))) <| hy (fun _ => y_idxA1 rfl rfl Tryd.underlying222 sz120 (show ((6 : Nat) : Int) = 6 from rfl) (by omega)) <| hy (fun m => y_ld1 rfl ag120 ((m.blk 0 rfl).cells0 6 _ (wds_get (by omega)))) <| hy (fun _ => yV (y_buildA (n := 8) ti222 (by kernel_rfl) rfl (by kernel_rfl) rfl (by kernel_rfl) (by kernel_rfl) (wds_cells (l := [_, _, _, _, _, _, _, _]))) ((rfl : _ = Value.agg (wds (rnd v k (W.getD i 0))).toArray))) <| ?_
    refine hx0 (xh_stA 0 rfl rfl rfl sz222 rfl wds_one (by rw [wds_length, hv]) ?_)
    refine hend <| hsub (ρ' := [(11, _), (10, _), (9, _), (8, _), (7, _), (17, _), (16, _), (6, _), (5, _), (4, _), (2, _), (0, _), (1, _)]) ⟨rfl, rfl, rfl, rfl, rfl, rfl, rfl, rfl, rfl, rfl, rfl, rfl, rfl, trivial⟩ <| hmemQ (X' := [_, _, _, _]) (S' := [_, _]) (fun _ m => m) <| hqblock <| hthen <| hreg <| hy (fun _ => y_add rfl rfl (w64 (by omega) (by omega))) <| hy (fun _ => y_move rfl) <| hend <| hsub (ρ' := [(16, _), (11, _), (10, _), (9, _), (8, _), (7, _), (17, _), (6, _), (5, _), (4, _), (2, _), (0, _), (1, _)]) ⟨rfl, rfl, rfl, rfl, rfl, rfl, rfl, rfl, rfl, rfl, rfl, rfl, rfl, trivial⟩ <| ?_
    refine hmemQ (fun w m => m.eqX 0 rfl (show _ = RBlk g6 222 (wds (rnds W h (i + 1))) from by rw [← hvd, ← hk]; rfl)) ?_
    refine hnext1 (i + 1) ⟨rfl, rfl, rfl, rfl, rfl, rfl, rfl, trivial⟩ [0, 0, 0, 0] rfl [0, 1] rfl (by omega) (by omega)
  · obtain rfl : i = 64 := by omega
    generalize hvv : rnds W h 64 = v at hv ⊢
    refine hmemC (fun w m => m.eqX 0 rfl (show _ = RBlk g6 222 (wds (hsum v h 0)) from by rw [hsum_zero])) ?_
    refine hexit <| hthen_exit <| hthen_exit <| hqblock_exit <| hthen <| hseq <| hseq <| hreg <| hy (fun _ => y_move rfl) <| hend <| hthen <| hblock <| ?_
    refine hloop1 (fun j => 8 - j) (fun j => [(86, .int .i64 (j : Nat))]) (fun j => [RBlk g6 222 (wds (hsum v h j))]) (fun j => []) (fun j => j ≤ 8) 0 [(17, _), (16, _), (6, _), (5, _), (4, _), (2, _), (0, _), (1, _)] ⟨rfl, rfl, rfl, rfl, rfl, rfl, rfl, rfl, trivial⟩ [0] rfl [] rfl (Nat.zero_le _) ⟨rfl, trivial⟩ (fun j hj8 => ?_)
    have hsl := hsum_length v h j
    refine hseq <| hreg <| hy (fun _ => y_lss rfl rfl) <| hend <| hthen <| hseq <| ?_
    refine hif rfl (fun hj => ?_) (fun hj => ?_)
    · refine hcskip <| hthen <| hseq <| hblock <| hseq <| hreg <| hy (fun _ => y_move rfl) <| hy (fun _ => y_assign rfl) <| hend <| hsub (ρ' := [(12, _), (87, _), (86, _), (17, _), (16, _), (6, _), (5, _), (4, _), (2, _), (0, _), (1, _)]) ⟨rfl, rfl, rfl, rfl, rfl, rfl, rfl, rfl, rfl, rfl, rfl, trivial⟩ <| hthen <| hdrw [8] [(0, some 0), (1, some 0), (2, some 0), (3, some 0), (4, some 0), (5, some 0), (6, some 0), (7, some 0), (8, none)] (by kernel_rfl) (by kernel_rfl) rfl 0 <| htyU (y_move rfl) <| htyU (y_idxA1 rfl rfl Tryd.underlying222 sz120 rfl (by omega)) <| hty (fun m => y_ld1 rfl ag120 ((m.blk 0 rfl).cells0 j _ (wds_get (by omega)))) <| htyU (y_move rfl) <| htyU (y_idxA1 rfl rfl Tryd.underlying222 sz120 rfl (by omega)) <| hty (fun m => y_ld1 rfl ag120 ((m.blk 3 rfl).cells0 j _ (wds_get (by omega)))) <| htyU (yV (y_wadd rfl rfl) ((rfl : _ = Wd (v_ (hsum v h j) j + v_ h j)))) <| htyU (y_idxA1 rfl rfl Tryd.underlying222 sz120 rfl (by omega)) <| ?_
      refine htx0 (xh_st1a 0 rfl rfl rfl sz120 rfl (by rw [wds_length]; omega) ⟨(fun h => absurd h (by decide)), ?_⟩)
      refine htend <| hsub (ρ' := [(12, _), (87, _), (86, _), (17, _), (16, _), (6, _), (5, _), (4, _), (2, _), (0, _), (1, _)]) ⟨rfl, rfl, rfl, rfl, rfl, rfl, rfl, rfl, rfl, rfl, rfl, trivial⟩ <| hmemQ (X' := [_, _, _, _]) (S' := [_, _]) (fun _ m => m) <| hqblock <| hthen <| hreg <| hy (fun _ => y_add rfl rfl (w64 (by omega) (by omega))) <| hy (fun _ => y_move rfl) <| hend <| hsub (ρ' := [(86, _), (12, _), (87, _), (17, _), (16, _), (6, _), (5, _), (4, _), (2, _), (0, _), (1, _)]) ⟨rfl, rfl, rfl, rfl, rfl, rfl, rfl, rfl, rfl, rfl, rfl, trivial⟩ <| ?_
      refine hmemQ (fun w m => m.eqX 0 rfl (show _ = RBlk g6 222 (wds (hsum v h (j + 1))) from by rw [Nat.zero_add, wds_set, hsum_succ (by omega)])) ?_
      refine hnext1 (j + 1) ⟨rfl, rfl, rfl, rfl, rfl, rfl, rfl, rfl, rfl, trivial⟩ [0, 0, 0, 0] rfl [0, 1] rfl (by omega) (by omega)
    · obtain rfl : j = 8 := by omega
      have hB : hsum v h 8 = blockL h l := by rw [blockL, hW, hvv]
      rw [hB]
      have hbl := blockL_length hh l
      refine hexit <| hthen_exit <| hthen_exit <| hqblock_exit <| hthen <| hseq <| hreg <| hy (fun m => yV (y_ldN rfl ag222 sz222 (by rw [wds_length, hbl]) ((m.blk 0 rfl).cells0)) ((rfl : _ = Value.agg (wds (blockL h l)).toArray))) <| ?_
      refine hx0 (xh_stA 2 rfl rfl rfl sz222 (by rw [wds_length, hbl]) wds_one rfl ?_)
      refine hend <| hsub (ρ' := [(87, _), (86, _), (17, _), (16, _), (6, _), (5, _), (4, _), (2, _), (0, _), (1, _)]) ⟨rfl, rfl, rfl, rfl, rfl, rfl, rfl, rfl, rfl, rfl, trivial⟩ <| hmemQ (X' := [_, _, _, _]) (S' := [_, _]) (fun _ m => m) <| hthen <| hret <| ?_
      exact hretN trivial rfl rfl ag222 sz222 (by rw [wds_length, hbl]) (fun m => (m.blk 0 rfl).cells0) [] rfl [] rfl ⟨rfl, rfl, rfl⟩
end Go.Proofs.YtfikjheicjamhaaDoor
end
section
/- What the condition 'laid' gives: the program's table of words. -/
set_option linter.unusedVariables false
set_option linter.unusedSimpArgs false
set_option maxRecDepth 100000
namespace Go.Proofs.YtfikjheicjamhaaDoor
open Go.Eng Go.Hx Go.ChangeShapes Go.WideShapes Go.ChangeAt Go.WideMaps Go.WideElems Go.RowKit
theorem gRoots : Tryd.prog.globalNamed "lighterage/sha.roots" = some 0 := by kernel_rfl
theorem tRoots : (Tryd.prog.globals[0]?).map (·.type) = some 254 := by kernel_rfl
theorem roots_list : (Rows.laid_lighterage_sha_roots : DataW Unit) = .agg (rootsL.map fun x => .lit (.int .u32 (x.toNat : Int))) := by kernel_rfl
theorem door_met (os : Os) (args : Array Value) : laidMetH Tryd.prog [("lighterage/sha.roots", Rows.laid_lighterage_sha_roots)] ((World.doorLaid Tryd.prog 400 os).forCall (fun _ _ => 0) ⟨#[], args, []⟩).memory :=
  laidMetH_of_parts3 (fuel := 8) (laidMet_of_run' 8 (by kernel_rfl) (by kernel_rfl)) (by kernel_rfl) (by kernel_rfl)
theorem roots_of_laid {W : World} (h : laidMetH Tryd.prog [("lighterage/sha.roots", Rows.laid_lighterage_sha_roots)] W) : RRoots.holds W := by
  rw [MakeChecks.laidMetH_plain _ _ _ (by kernel_rfl)] at h
  obtain ⟨ps, ⟨g0, t0, cs0, f0, p0, q0, hg0, ht0, hv0, hd0, _, _⟩, _, _⟩ := h
  obtain rfl := Option.some.inj (gRoots.symm.trans hg0)
  obtain rfl := Option.some.inj (tRoots.symm.trans ht0)
  rw [roots_list] at hd0
  obtain ⟨xs, m1, rfl, hx1, hlen, hn, hel⟩ := DataW.trod_array Tryd.underlying254 hd0
  have c3 : Tryd.prog.cellsOf 120 = 1 := by kernel_rfl
  simp only [Prod.mk.injEq, DataW.agg.injEq] at hx1
  refine ⟨by rw [wds_length]; rfl, fun _ => by simp, fun j u hu => ?_⟩
  have hj : j < 64 := by
    obtain ⟨h1, _⟩ := List.getElem?_eq_some_iff.1 hu
    rw [wds_length] at h1
    exact h1
  have h0 := hel j hj
  have hxj : (xs.map (·.1))[j]? = (rootsL.map fun x => DataW.lit (Lit.int .u32 (x.toNat : Int)))[j]? := by rw [← hx1.1]
  obtain ⟨y, hy⟩ : ∃ y, xs[j]? = some y := ⟨_, List.getElem?_eq_getElem (by omega)⟩
  rw [hy] at h0
  obtain ⟨n, e1, e2, _⟩ := DataW.trod_int Tryd.underlying120 h0
  rw [List.getElem?_map, hy, List.getElem?_map] at hxj
  rw [wds, List.getElem?_map] at hu
  cases hr : rootsL[j]? with
  | none => rw [hr] at hu; cases hu
  | some r =>
    rw [hr] at hu hxj
    rw [e2] at hxj
    have hn2 : n = (r.toNat : Int) := by simpa using hxj
    have hu2 : u = .int .u32 (r.toNat : Int) := by simpa using hu.symm
    have h5 := World.var?_cell hg0 hv0 j
    rw [c3, Nat.mul_one] at e1
    have h6 : cs0[j]? = some (.int .u32 n) := by
      have h7 : (List.take 1 (List.drop j cs0.toList))[0]? = some (.int .u32 n) := by rw [e1]; rfl
      rw [List.getElem?_take, if_pos (by decide), List.getElem?_drop, Nat.add_zero] at h7
      simpa using h7
    show W.cell? ((Option.getD (some _) d0).add j) = some u
    rw [hu2, ← hn2, ← h6, ← h5]
    have e : (⟨0, 0, none⟩ : Addr).add j = ⟨0, j, none⟩ := by simp [Addr.add]; omega
    exact congrArg W.cell? e
end Go.Proofs.YtfikjheicjamhaaDoor
end
section
/- How bytes stand: plain lists; and the entry of bytes.Compare over slices. No program. -/
set_option linter.unusedVariables false
set_option linter.unusedSimpArgs false
namespace Go.Hx
open Go.Eng
abbrev cb := Lib.compareBytes
end Go.Hx
end
section
/- Contracts of small functions on bytes and digests (as in my Hexa texts). -/
set_option linter.unusedVariables false
set_option linter.unusedSimpArgs false
set_option maxRecDepth 20000
namespace Go.Proofs.YtfikjheicjamhaaDoor
open Go.Eng Go.Hx
def around (n m : Int) : Int := (if n < 0 then -(n + 1) else n) % m
theorem around_lt (n m : Int) (hm : 0 < m) : 0 ≤ around n m ∧ around n m < m := ⟨Int.emod_nonneg _ (by omega), Int.emod_lt_of_pos _ hm⟩
theorem around_c (n m : Int) (w : World) (h1 : -9223372036854775808 ≤ n) (h2 : n ≤ 9223372036854775807) (hm : 0 < m) :
    Calls Tryd.prog 14 #[.int .i64 n, .int .i64 m] w fun e w' => e = .returned (.int .i64 (around n m)) ∧ w = w' := by
  refine enter (N := 13) Tryd.func14 rfl rfl (by simp) ?_
  refine cseq <| creg <| nq (y_assign rfl) <| nend <| qthen <| cseq <| cseq <| creg <| nq (y_move rfl) <| nq (y_lss rfl rfl) <| nend <| qsub (sub_cons (t := 6) rfl <| sub_cons (t := 4) rfl <| sub_cons (t := 0) rfl <| sub_cons (t := 1) rfl <| sub_nil) <| qthen <| ?_
  refine cif rfl (fun h => ?_) (fun h => ?_)
  · refine creg <| nq (y_move rfl) <| nq (y_add rfl rfl (w64 (by omega) (by omega))) <| nq (y_neg rfl (w64 (by omega) (by omega))) <| nq (y_assign rfl) <| nend <| qsub (sub_cons (t := 0) rfl <| sub_cons (t := 6) rfl <| sub_cons (t := 4) rfl <| sub_cons (t := 1) rfl <| sub_nil) <| qthen <| cseq <| creg <| nq (y_move rfl) <| nq (y_move rfl) <| nq (y_rem rfl rfl (by omega) (by omega)) <| nq (y_assign rfl) <| nend <| qsub (sub_cons (t := 4) rfl <| sub_cons (t := 0) rfl <| sub_cons (t := 6) rfl <| sub_cons (t := 1) rfl <| sub_nil) <| qthen <| cret <| ?_
    refine ret1 trivial rfl rfl ⟨?_, rfl⟩
    simp only [around, if_pos h]
  · refine cskip <| qthen <| cseq <| creg <| nq (y_move rfl) <| nq (y_move rfl) <| nq (y_rem rfl rfl (by omega) (by omega)) <| nq (y_assign rfl) <| nend <| qsub (sub_cons (t := 4) rfl <| sub_cons (t := 6) rfl <| sub_cons (t := 0) rfl <| sub_cons (t := 1) rfl <| sub_nil) <| qthen <| cret <| ?_
    refine ret1 trivial rfl rfl ⟨?_, rfl⟩
    simp only [around, if_neg h]
theorem take_drop_set {a b : List UInt8} {j n : Nat} (ha : a.length = n) (hb : b.length = n) (hj : j < n) : (a.take j ++ b.drop j).set j (a.getD j 0) = a.take (j + 1) ++ b.drop (j + 1) := by
  rw [List.set_append, if_neg (by rw [List.length_take]; omega), List.length_take, Nat.min_eq_left (by omega), Nat.sub_self, take_snoc (by omega), List.append_assoc]
  congr 1
  rw [List.drop_eq_getElem_cons (by omega)]
  rfl
theorem zeros_eq : (Value.agg (b8s (List.replicate 32 0)).toArray).cells.toList = b8s (List.replicate 32 0) := rfl
theorem of (A : Option Addr) (c : Nat) (l : List UInt8) (w : World) (hr : Rd w 1 A 32 (b8s l)) :
    Calls Tryd.prog 72 #[.slice A 32 c] w fun e w' => e = .returned (.agg (b8s l).toArray) ∧ Fr No w w' := by
  have hl : l.length = 32 := by have := hr.1; rw [b8s_length] at this; omega
  refine enter (N := 16) Tryd.func72 rfl rfl (by simp) ?_
  refine cseq <| creg <| ?_
  refine nx (x_alloc ti23 fun g1 w1 hg1 hf1 hb1 => ?_)
  refine nend <| qthen <| cseq <| creg <| ?_
  refine nx (x_alloc ti23 fun g2 w2 hg2 hf2 hb2 => ?_)
  rw [zeros_eq] at hb1 hb2
  have hlt := hb1.lt
  refine nend <| qthen <| cseq <| cseq <| creg <| nq (y_assign rfl) <| nend <| qthen <| cblock <| ?_
  refine cloop1 (fun j => 32 - j) (fun j => [(0, .slice A 32 c), (2, .pointer (some ⟨g1, 0, none⟩)), (3, .pointer (some ⟨g2, 0, none⟩)), (4, .int .i64 (j : Nat))]) (fun j w' => j ≤ 32 ∧ Fr No w w' ∧ Blk w' g1 23 (b8s (List.replicate 32 0)) ∧ Blk w' g2 23 (b8s (l.take j ++ (List.replicate 32 0).drop j))) 0 (⟨Nat.zero_le _, hf1.trans0 hf2, hb1.fr0 hf2, hb2⟩) (sub_cons (t := 0) rfl <| sub_cons (t := 2) rfl <| sub_cons (t := 3) rfl <| sub_cons (t := 4) rfl <| sub_nil) (fun j w4 ⟨hj, hf4, i1, i2⟩ => ?_)
  refine cseq <| cseq <| creg <| nq (y_move rfl) <| nq (y_lss rfl rfl) <| nend <| qsub (sub_cons (t := 6) rfl <| sub_cons (t := 0) rfl <| sub_cons (t := 2) rfl <| sub_cons (t := 3) rfl <| sub_cons (t := 4) rfl <| sub_nil) <| qthen <| ?_
  refine cif rfl (fun h => ?_) (fun h => ?_)
  · have ga := b8s_get (l := l) (i := j) (by omega)
    have hlen : (l.take j ++ (List.replicate 32 (0 : UInt8)).drop j).length = 32 := by rw [List.length_append, List.length_take, List.length_drop, List.length_replicate]; omega
    have r4 := hr.fr0 hf4
    refine cskip <| qthen <| cseq <| cblock <| creg <| nq (y_move rfl) <| nq (y_move rfl) <| nq (y_move rfl) <| nq (y_idxS1 rfl rfl Tryd.underlying32 sz5 r4.2.1 rfl (by omega)) <| nq (y_ld1 rfl ag5 (r4.cell ga)) <| nq (y_idxA1 rfl rfl Tryd.underlying23 sz5 rfl (by omega)) <| ?_
    refine nx0 (x_st1a rfl rfl sz5 rfl i2 (by rw [b8s_length]; omega) fun w5 hf5 i2' hs5 => ?_)
    rw [Nat.zero_add, ← b8s_set, take_drop_set hl (List.length_replicate ..) (by omega)] at i2'
    refine nend <| qsub (sub_cons (t := 6) rfl <| sub_cons (t := 0) rfl <| sub_cons (t := 2) rfl <| sub_cons (t := 3) rfl <| sub_cons (t := 4) rfl <| sub_nil) <| qblock <| qthen <| creg <| nq (y_move rfl) <| nq (y_add rfl rfl (w64 (by omega) (by omega))) <| nq (y_assign rfl) <| nend <| qsub (sub_cons (t := 4) rfl <| sub_cons (t := 6) rfl <| sub_cons (t := 0) rfl <| sub_cons (t := 2) rfl <| sub_cons (t := 3) rfl <| sub_nil) <| ?_
    refine qloop1 (j + 1) (sub_cons (t := 0) rfl <| sub_cons (t := 2) rfl <| sub_cons (t := 3) rfl <| sub_cons (t := 4) rfl <| sub_nil) (⟨by omega, hf4.new hf5 (fun i hi => by have := hf1.size; omega), i1.fr hf5 (by omega), i2'⟩) (by omega)
  · obtain rfl : j = 32 := by omega
    have e : l.take 32 ++ (List.replicate 32 (0 : UInt8)).drop 32 = l := by
      rw [List.take_of_length_le (by omega), List.drop_of_length_le (by simp)]; simp
    rw [e] at i2
    refine cexit <| qthen_exit <| qthen_exit <| qblock_exit <| qthen <| cseq <| creg <| nq (y_ldN rfl ag23 sz23 ((by rw [b8s_length]; exact hl)) i2.cells0) <| ?_
    refine nx0 (x_stD rfl rfl sz23 hl i1 (by rw [b8s_length]; simp) fun w5 hf5 i1' hs5 => ?_)
    refine nend <| qsub (sub_cons (t := 6) rfl <| sub_cons (t := 0) rfl <| sub_cons (t := 2) rfl <| sub_cons (t := 3) rfl <| sub_cons (t := 4) rfl <| sub_nil) <| qthen <| cret <| ?_
    exact retN trivial rfl rfl ag23 sz23 (by rw [b8s_length]; exact hl) i1'.cells0 ⟨rfl, hf4.new hf5 (fun i hi => by omega)⟩
theorem bytes (a : List UInt8) (w : World) (ha : a.length = 32) :
    Calls Tryd.prog 105 #[.agg (b8s a).toArray] w fun e w' => ∃ v, e = .returned v ∧ Go.Eng.Own w' w.heap.size 5 1 v 32 (b8s a) ∧ Fr No w w' := by
  refine enter (N := 16) Tryd.func105 rfl rfl (by simp) ?_
  refine cseq <| creg <| ?_
  refine nx (x_box rfl fun g1 w1 hg1 hf1 hb1 => ?_)
  rw [cells_agg] at hb1
  refine nq (y_assign rfl) <| nend <| qthen <| cseq <| creg <| nq (y_assign rfl) <| nend <| qthen <| cseq <| cseq <| creg <| nq (y_assign rfl) <| nend <| qthen <| cblock <| ?_
  refine cloop2 (fun k _ => 32 - k) (fun k v => [(1, .pointer (some ⟨g1, 0, none⟩)), (3, v), (4, .int .i64 (k : Nat))]) (fun k v w' => k ≤ 32 ∧ Go.Eng.Own w' w1.heap.size 5 1 v k (b8s (a.take k)) ∧ Fr No w1 w') 0 (.slice none 0 0) (⟨Nat.zero_le _, Own.nil w1 w1.heap.size _ 1, Fr.refl _ _⟩) (sub_cons (t := 1) rfl <| sub_cons (t := 3) rfl <| sub_cons (t := 4) rfl <| sub_nil) (fun k v w2 ⟨hk, ho, hf⟩ => ?_)
  refine cseq <| cseq <| creg <| nq (y_move rfl) <| nq (y_lss rfl rfl) <| nend <| qsub (sub_cons (t := 6) rfl <| sub_cons (t := 1) rfl <| sub_cons (t := 3) rfl <| sub_cons (t := 4) rfl <| sub_nil) <| qthen <| ?_
  refine cif rfl (fun h => ?_) (fun h => ?_)
  · have ga := b8s_get (l := a) (i := k) (by omega)
    refine cskip <| qthen <| cseq <| cblock <| creg <| nq (y_move rfl) <| nq (y_move rfl) <| nq (y_idxA1 rfl rfl Tryd.underlying23 sz5 rfl (by omega)) <| nq (y_ld1 rfl ag5 ((hb1.fr0 hf).cells0 _ _ ga)) <| ?_
    refine nx (x_bsl Tryd.underlying32 ti5 rfl rfl rfl (by simp [Value.cells, B8]) (by decide) (by decide) fun g w3 hg hf3 hb3 => ?_)
    refine nx (x_app rfl rfl Tryd.underlying32 Tryd.underlying32 (by exact .inl rfl) ti5 rfl (ho.fr0 hf3) (Src.of_blk hb3 rfl) (b8s_one (l := [_])) (by unfold maxLen; omega) (by omega) (hf.trans0 hf3).size fun v4 w4 ho4 hf4 hv4 => ?_)
    refine nq (y_assign rfl) <| nend <| qsub (sub_cons (t := 3) rfl <| sub_cons (t := 6) rfl <| sub_cons (t := 1) rfl <| sub_cons (t := 4) rfl <| sub_nil) <| qblock <| qthen <| creg <| nq (y_move rfl) <| nq (y_add rfl rfl (w64 (by omega) (by omega))) <| nq (y_assign rfl) <| nend <| qsub (sub_cons (t := 4) rfl <| sub_cons (t := 3) rfl <| sub_cons (t := 6) rfl <| sub_cons (t := 1) rfl <| sub_nil) <| ?_
    refine qloop2 (k + 1) v4 (sub_cons (t := 1) rfl <| sub_cons (t := 3) rfl <| sub_cons (t := 4) rfl <| sub_nil) (⟨by omega, by rw [take_snoc (by omega), b8s_append]; exact ho4, (hf.trans0 hf3).new hf4 (fun i hi => (ho.from hi).1)⟩) (by omega)
  · obtain rfl : k = 32 := by omega
    refine cexit <| qthen_exit <| qthen_exit <| qblock_exit <| qthen <| cseq <| creg <| nq (y_move rfl) <| nq (y_assign rfl) <| nend <| qsub (sub_cons (t := 2) rfl <| sub_cons (t := 6) rfl <| sub_cons (t := 1) rfl <| sub_cons (t := 3) rfl <| sub_cons (t := 4) rfl <| sub_nil) <| qthen <| cret <| ?_
    rw [List.take_of_length_le (by omega)] at ho
    exact ret1 trivial rfl rfl ⟨v, rfl, ho.wide hf1.size, hf1.trans0 hf⟩
end Go.Proofs.YtfikjheicjamhaaDoor
end
section
/- Lists of digests in a row: plain lists. No program. -/
set_option linter.unusedVariables false
set_option linter.unusedSimpArgs false
namespace Go.Hx
open Go.Eng
/-- each ahead of the next -/
def Rise : List (List UInt8) → Prop
  | [] => True
  | [_] => True
  | a :: b :: r => cb a b < 0 ∧ Rise (b :: r)
instance : (l : List (List UInt8)) → Decidable (Rise l)
  | [] => isTrue trivial
  | [_] => isTrue trivial
  | a :: b :: r => @instDecidableAnd (cb a b < 0) (Rise (b :: r)) inferInstance (instDecidableRise (b :: r))
end Go.Hx
end
section
/- Contracts: what journals may be, their bytes. -/
set_option linter.unusedVariables false
set_option linter.unusedSimpArgs false
set_option maxRecDepth 20000
namespace Go.Proofs.YtfikjheicjamhaaDoor
open Go.Eng Go.Hx
/-- which journals may be -/
def JMay (ds : List (List UInt8)) : Prop := Rise ds ∧ ds.length ≤ 4096
instance (ds : List (List UInt8)) : Decidable (JMay ds) := inferInstanceAs (Decidable (_ ∧ _))
end Go.Proofs.YtfikjheicjamhaaDoor
end
section
/- Contracts: a journal's bytes. -/
set_option linter.unusedVariables false
set_option linter.unusedSimpArgs false
set_option maxRecDepth 20000
namespace Go.Proofs.YtfikjheicjamhaaDoor
open Go.Eng Go.Hx
theorem number (n : Nat) (w : World) (hn : n < 4294967296) :
    Calls Tryd.prog 63 #[.int .i64 (n : Int)] w fun e w' => ∃ v, e = .returned v ∧ Go.Eng.Own w' w.heap.size 5 1 v 4 (b8s (le4 n)) ∧ Fr No w w' := by
  refine enter (N := 21) Tryd.func63 rfl rfl (by simp) ?_
  refine cseq <| creg <| nq (y_assign rfl) <| nend <| qthen <| cseq <| creg <| nq (y_move rfl) <| nq (y_conv rfl Tryd.underlying3 Tryd.underlying120 ((w32 (by omega) (by omega)))) <| nq (y_assign rfl) <| nend <| qsub (sub_cons (t := 3) rfl <| sub_cons (t := 2) rfl <| sub_cons (t := 0) rfl <| sub_nil) <| qthen <| cseq <| creg <| nq (y_move rfl) <| nq (y_rem rfl rfl (by omega) (by omega)) <| nq (y_conv rfl Tryd.underlying120 Tryd.underlying5 ((show IntKind.u8.wrap ((n : Int) % 256) = ((UInt8.ofNat n).toNat : Int) by simp [IntKind.wrap, IntKind.signed, IntKind.bits]))) <| nq (y_move rfl) <| nq (y_quo rfl rfl (by omega) (by omega) (w32 (by omega) (by omega))) <| nq (y_rem rfl rfl (by omega) (by omega)) <| nq (y_conv rfl Tryd.underlying120 Tryd.underlying5 ((show IntKind.u8.wrap ((n : Int) / 256 % 256) = ((UInt8.ofNat (n / 256)).toNat : Int) by simp [IntKind.wrap, IntKind.signed, IntKind.bits]))) <| nq (y_move rfl) <| nq (y_quo rfl rfl (by omega) (by omega) (w32 (by omega) (by omega))) <| nq (y_rem rfl rfl (by omega) (by omega)) <| nq (y_conv rfl Tryd.underlying120 Tryd.underlying5 ((show IntKind.u8.wrap ((n : Int) / 65536 % 256) = ((UInt8.ofNat (n / 65536)).toNat : Int) by simp [IntKind.wrap, IntKind.signed, IntKind.bits]))) <| nq (y_move rfl) <| nq (y_quo rfl rfl (by omega) (by omega) (w32 (by omega) (by omega))) <| nq (y_conv rfl Tryd.underlying120 Tryd.underlying5 ((show IntKind.u8.wrap ((n : Int) / 16777216) = ((UInt8.ofNat (n / 16777216)).toNat : Int) by simp [IntKind.wrap, IntKind.signed, IntKind.bits]))) <| ?_
  refine nx (x_bsl Tryd.underlying32 ti5 rfl rfl rfl (by simp [Value.cells, B8]) (by decide) (by decide) fun g w1 hg hf1 hb1 => ?_)
  refine nq (y_assign rfl) <| nend <| qsub (sub_cons (t := 2) rfl <| sub_cons (t := 3) rfl <| sub_cons (t := 0) rfl <| sub_nil) <| qthen <| cret <| ?_
  exact ret1 trivial rfl rfl ⟨_, rfl, Own.made hb1 hg (Nat.le_refl _) (by decide) rfl, hf1⟩
end Go.Proofs.YtfikjheicjamhaaDoor
end
section
/- Contracts over things in memory, from contracts over worlds: the reference's small functions. -/
set_option linter.unusedVariables false
set_option linter.unusedSimpArgs false
set_option maxRecDepth 20000
namespace Go.Proofs.YtfikjheicjamhaaDoor
open Go.Eng Go.Hx
theorem aroundC {n m : Int} (h1 : -9223372036854775808 ≤ n) (h2 : n ≤ 9223372036854775807) (hm : 0 < m) : Con Tryd.prog 14 [.int .i64 n, .int .i64 m] [] [] (fun v_ X_ S_ => v_ = (.int .i64 (around n m)) ∧ X_ = [] ∧ S_ = []) := by
  exact con_pure fun mm => Calls.mono (around_c n m _ h1 h2 hm) (fun e w' ⟨h, hw⟩ => ⟨_, h, ⟨rfl, rfl, rfl⟩, hw ▸ Fr.refl _ _⟩)
theorem rcrcPutC {A : Option Addr} {n c : Nat} {l : List UInt8} (hn : n ≤ 70368744177664) : Con Tryd.prog 22 [.slice A n c] [] [RRd 1 A n (b8s l)] (fun v_ X_ S_ => ∃ v, v_ = v ∧ X_ = [ROwn 5 1 v (n + 4) (b8s (putL l))] ∧ S_ = []) := by
  exact con_own1 fun m => Calls.mono (rcrcPut A n c l _ (m.rd 0 rfl) hn) (fun e w' ⟨v, h, ho, hf⟩ => ⟨v, v, _, _, _, _, h, ⟨v, rfl, rfl, rfl⟩, ho, hf⟩)
theorem bytesC {a : List UInt8} (ha : a.length = 32) : Con Tryd.prog 105 [.agg (b8s a).toArray] [] [] (fun v_ X_ S_ => ∃ v, v_ = v ∧ X_ = [ROwn 5 1 v 32 (b8s a)] ∧ S_ = []) := by
  exact con_own1 fun m => Calls.mono (bytes a _ ha) (fun e w' ⟨v, h, ho, hf⟩ => ⟨v, v, _, _, _, _, h, ⟨v, rfl, rfl, rfl⟩, ho, hf⟩)
theorem numberC {n : Nat} (hn : n < 4294967296) : Con Tryd.prog 63 [.int .i64 (n : Int)] [] [] (fun v_ X_ S_ => ∃ v, v_ = v ∧ X_ = [ROwn 5 1 v 4 (b8s (le4 n))] ∧ S_ = []) := by
  exact con_own1 fun m => Calls.mono (number n _ hn) (fun e w' ⟨v, h, ho, hf⟩ => ⟨v, v, _, _, _, _, h, ⟨v, rfl, rfl, rfl⟩, ho, hf⟩)
end Go.Proofs.YtfikjheicjamhaaDoor
end
section
/- A journal's bytes, read: plain lists. No program. -/
set_option linter.unusedVariables false
set_option linter.unusedSimpArgs false
namespace Go.Hx
open Go.Eng
def chunks (k : Nat) (l : List UInt8) : List (List UInt8) := (List.range k).map fun i => (l.drop (32 * i)).take 32
/-- the number of four bytes, the lowest one first -/
def num4 (l : List UInt8) : Nat := (l.getD 0 0).toNat + 256 * (l.getD 1 0).toNat + 65536 * (l.getD 2 0).toNat + 16777216 * (l.getD 3 0).toNat
theorem num4_lt (l : List UInt8) : num4 l < 4294967296 := by
  have h0 := (l.getD 0 0).toNat_lt
  have h1 := (l.getD 1 0).toNat_lt
  have h2 := (l.getD 2 0).toNat_lt
  have h3 := (l.getD 3 0).toNat_lt
  unfold num4
  omega
theorem num4_le4 {n : Nat} (h : n < 4294967296) : num4 (le4 n) = n := by
  simp only [le4, num4, List.getD_cons_zero, List.getD_cons_succ, UInt8.toNat_ofNat']
  omega
end Go.Hx
end
section
/- The number of four bytes, read from the highest one down. No program. -/
set_option linter.unusedVariables false
namespace Go.Hx
open Go.Eng
/-- what is read of j bytes, the highest one first -/
def acc (l : List UInt8) : Nat → Nat
  | 0 => 0
  | j + 1 => acc l j * 256 + (l.getD (3 - j) 0).toNat
theorem acc_lt (l : List UInt8) : ∀ j, acc l j < 256 ^ j
  | 0 => by simp [acc]
  | j + 1 => by
    have h1 := acc_lt l j
    have h2 := (l.getD (3 - j) 0).toNat_lt
    rw [acc, Nat.pow_succ]
    omega
theorem acc_le (l : List UInt8) {j : Nat} (h : j ≤ 4) : acc l j < 4294967296 := by
  have h1 := acc_lt l j
  have h2 : 256 ^ j ≤ 256 ^ 4 := Nat.pow_le_pow_right (by decide) h
  have h3 : 256 ^ 4 = 4294967296 := by decide
  omega
theorem acc4 (l : List UInt8) : acc l 4 = num4 l := by
  have e : (3 - 0 = 3) ∧ (3 - 1 = 2) ∧ (3 - 2 = 1) ∧ (3 - 3 = 0) := by decide
  simp only [acc, num4, e.1, e.2.1, e.2.2.1, e.2.2.2]
  omega
theorem or_byte (a b : Nat) (ha : a < 4294967296) (hb : b < 256) : bits .or .i64 (a * 256 : Int) (b : Int) = ((a * 256 + b : Nat) : Int) := by
  have h1 : (a * 256 : Int) = ((a * 256 : Nat) : Int) := by simp
  have h2 : a * 256 ||| b = a * 256 + b := by rw [Nat.mul_comm a 256, show 256 = 2 ^ 8 from rfl, Nat.two_pow_add_eq_or_of_lt (by simpa using hb)]
  have e0 : ∀ n : Nat, n < 18446744073709551616 → (BitVec.ofInt 64 (n : Int)).toNat = n := fun n hn => by
    rw [BitVec.toNat_ofInt]
    simp
    omega
  rw [h1]
  show IntKind.i64.wrap ((BitVec.ofInt 64 ((a * 256 : Nat) : Int) ||| BitVec.ofInt 64 (b : Int)).toNat : Int) = _
  rw [BitVec.toNat_or, e0 _ (by omega), e0 _ (by omega), h2]
  exact w64 (by omega) (by omega)
end Go.Hx
end
section
/- Contracts: what is said (wire, and the document's). -/
set_option linter.unusedVariables false
set_option linter.unusedSimpArgs false
set_option maxRecDepth 20000
namespace Go.Proofs.YtfikjheicjamhaaDoor
open Go.Eng Go.Hx
@[reducible] def mc (k s : Int) (nm : List UInt8) (v : Value) : List Value := .int .i64 k :: .int .i64 s :: (b8s nm ++ [v])
/-- a message's cells -/
theorem mc_len {k s : Int} {nm : List UInt8} {v : Value} (h : nm.length = 32) : (mc k s nm v).length = 35 := by simp [b8s_length, h]
theorem mc_one {k s : Int} {nm : List UInt8} {v : Value} (hv : v.oneCell' = true) : ∀ u ∈ mc k s nm v, u.oneCell' = true := by
  intro u hu
  rcases List.mem_cons.1 hu with rfl | hu
  · rfl
  · rcases List.mem_cons.1 hu with rfl | hu
    · rfl
    · exact j_one hv u hu
theorem mc_get {k s : Int} {nm : List UInt8} {v : Value} (h : nm.length = 32) : (mc k s nm v)[34]? = some v := by
  show (b8s nm ++ [v])[32]? = _
  rw [List.getElem?_append_right (by rw [b8s_length, h]; exact Nat.le_refl _), b8s_length, h]; rfl
theorem mc_set {k s : Int} {nm : List UInt8} {u v : Value} (h : nm.length = 32) : (mc k s nm u).set 34 v = mc k s nm v := by
  show _ :: _ :: (b8s nm ++ [u]).set 32 v = _
  rw [j_set h]
theorem mc_nm {w : World} {g : Nat} {t : TypeId} {k s : Int} {nm : List UInt8} {v : Value} (h : Blk w g t (mc k s nm v)) : ∀ (j : Nat) (u : Value), (b8s nm)[j]? = some u → w.cell? (((⟨g, 0, none⟩ : Addr).add 2).add j) = some u :=
  h.part 2 (fun j u hu => by rw [Nat.add_comm]; show (b8s nm ++ [v])[j]? = _; rw [List.getElem?_append_left (List.getElem?_eq_some_iff.1 hu).1]; exact hu)
theorem mc_v {w : World} {g : Nat} {t : TypeId} {k s : Int} {nm : List UInt8} {v : Value} (h : Blk w g t (mc k s nm v)) (hn : nm.length = 32) : w.cell? ((⟨g, 0, none⟩ : Addr).add 34) = some v := h.cell_add (mc_get hn)
theorem splice_nm {k s : Int} {zi nm : List UInt8} {z : Value} (hz : zi.length = 32) (hn : nm.length = 32) : splice (mc k s zi z) 2 (b8s nm) = mc k s nm z := by
  simp only [splice, List.take_succ_cons, List.take_zero, List.cons_append, List.nil_append, b8s_length, hn, mc]
  congr 2
  show b8s nm ++ (b8s zi ++ [z]).drop 32 = _
  rw [List.drop_append, List.drop_of_length_le (by rw [b8s_length, hz]; omega), b8s_length, hz]
  rfl
theorem bldM {P : Program} {pl : Nat → Option (Nat × Nat)} {zi nm : List UInt8} {z : Value} {k0 k s : Int} (h0 : pl 0 = some (0, 1)) (h2 : pl 2 = some (2, 32)) (hz : zi.length = 32) (hn : nm.length = 32) : Bld P pl (mc k0 s zi z) [(0, .int .i64 k), (2, .agg (b8s nm).toArray)] (mc k s nm z) :=
  .cons h0 rfl rfl (by rw [mc_len hz]; decide) (.cons h2 (cells_agg _) (by rw [b8s_length, hn]) (show 34 ≤ (mc k s zi z).length by rw [mc_len hz]; decide) (by show Bld P pl (splice (mc k s zi z) 2 (b8s nm)) _ _; rw [splice_nm hz hn]; exact .nil))
theorem bldM3 {P : Program} {pl : Nat → Option (Nat × Nat)} {zi nm : List UInt8} {z : Value} {k0 s0 k s : Int} (h0 : pl 0 = some (0, 1)) (h1 : pl 1 = some (1, 1)) (h2 : pl 2 = some (2, 32)) (hz : zi.length = 32) (hn : nm.length = 32) : Bld P pl (mc k0 s0 zi z) [(0, .int .i64 k), (1, .int .i64 s), (2, .agg (b8s nm).toArray)] (mc k s nm z) :=
  .cons h0 rfl rfl (by rw [mc_len hz]; decide) (.cons h1 rfl rfl (show 2 ≤ (mc k s0 zi z).length by rw [mc_len hz]; decide) (.cons h2 (cells_agg _) (by rw [b8s_length, hn]) (show 34 ≤ (mc k s zi z).length by rw [mc_len hz]; decide) (by show Bld P pl (splice (mc k s zi z) 2 (b8s nm)) _ _; rw [splice_nm hz hn]; exact .nil)))
/-- which messages may be -/
def WMay (k s : Int) (n : Nat) : Prop := (1 ≤ k ∧ k ≤ 3 ∧ 0 ≤ s ∧ s ≤ 4294967295) ∧ (n = 0 ∨ (k = 2 ∧ n ≤ 4106))
instance (k s : Int) (n : Nat) : Decidable (WMay k s n) := by unfold WMay; infer_instance
theorem mayC {k s : Int} {nm : List UInt8} {A : Option Addr} {n c : Nat} (hm : nm.length = 32) : Con Tryd.prog 109 [.agg (mc k s nm (.slice A n c)).toArray] [] [] (fun v_ X_ S_ => v_ = (.bool (decide (WMay k s n))) ∧ X_ = [] ∧ S_ = []) := by
  refine henter (N := 36) Tryd.func109 rfl rfl (by simp) fun b => ?_
  refine hseq <| hreg <| ?_
  refine hx (xh_box rfl (fun g1 => ?_))
  refine hmemL (fun w m => m.eqX 0 rfl (show _ = RBlk g1 111 (mc k s nm (.slice A n c)) from congrArg (RBlk _ _) (cells_agg _))) ?_
  by_cases h1 : k < 1
  · refine hy (fun _ => y_assign rfl) <| hend <| hmemQ (X' := [_]) (S' := []) (fun _ m => m) <| hthen <| hseq <| hseq <| hreg <| hy (fun _ => y_fld rfl fa111_0 (by decide)) <| hy (fun m => y_ld1 rfl ag3 (ld_blk (m.blk 0 rfl) rfl)) <| hy (fun _ => yT (y_lss rfl rfl) ((decide_eq_true h1))) <| hy (fun _ => y_move rfl) <| hskip rfl rfl rfl (by decide) <| hskip rfl rfl rfl (by decide) <| hskip rfl rfl rfl (by decide) <| hy (fun _ => y_pickT rfl rfl) <| hy (fun _ => y_move rfl) <| hskip rfl rfl rfl (by decide) <| hskip rfl rfl rfl (by decide) <| hskip rfl rfl rfl (by decide) <| hy (fun _ => y_pickT rfl rfl) <| hy (fun _ => y_move rfl) <| hskip rfl rfl rfl (by decide) <| hskip rfl rfl rfl (by decide) <| hskip rfl rfl rfl (by decide) <| hy (fun _ => y_pickT rfl rfl) <| hend <| hsub (ρ' := [(20, _), (2, _), (1, _), (0, _)]) ⟨rfl, rfl, rfl, rfl, trivial⟩ <| hthen <| ?_
    refine hift rfl (rfl) ?_
    refine hseq <| hreg <| hy (fun _ => y_assign rfl) <| hend <| hthen <| hret <| hthen_ret <| ?_
    exact hret1 trivial rfl rfl [] rfl [] rfl ⟨(congrArg Value.bool (decide_eq_false (fun h => by unfold WMay at h; omega)).symm), rfl, rfl⟩
  · by_cases h2 : 3 < k
    · refine hy (fun _ => y_assign rfl) <| hend <| hthen <| hseq <| hseq <| hreg <| hy (fun _ => y_fld rfl fa111_0 (by decide)) <| hy (fun m => y_ld1 rfl ag3 (ld_blk (m.blk 0 rfl) rfl)) <| hy (fun _ => yF (y_lss rfl rfl) ((decide_eq_false h1))) <| hy (fun _ => y_move rfl) <| hyg (o := _) rfl rfl rfl (fun _ => y_fld rfl fa111_0 (by decide)) <| hyg (o := _) rfl rfl rfl (fun m => y_ld1 rfl ag3 (ld_blk (m.blk 0 rfl) rfl)) <| hyg (o := _) rfl rfl rfl (fun _ => yT (y_gtr rfl rfl) ((decide_eq_true h2))) <| hy (fun _ => y_pickF rfl rfl) <| hy (fun _ => y_move rfl) <| hskip rfl rfl rfl (by decide) <| hskip rfl rfl rfl (by decide) <| hskip rfl rfl rfl (by decide) <| hy (fun _ => y_pickT rfl rfl) <| hy (fun _ => y_move rfl) <| hskip rfl rfl rfl (by decide) <| hskip rfl rfl rfl (by decide) <| hskip rfl rfl rfl (by decide) <| hy (fun _ => y_pickT rfl rfl) <| hend <| hsub (ρ' := [(20, _), (2, _), (1, _), (0, _)]) ⟨rfl, rfl, rfl, rfl, trivial⟩ <| hthen <| ?_
      refine hift rfl (rfl) ?_
      refine hseq <| hreg <| hy (fun _ => y_assign rfl) <| hend <| hthen <| hret <| hthen_ret <| ?_
      exact hret1 trivial rfl rfl [] rfl [] rfl ⟨(congrArg Value.bool (decide_eq_false (fun h => by unfold WMay at h; omega)).symm), rfl, rfl⟩
    · by_cases h3 : s < 0
      · refine hy (fun _ => y_assign rfl) <| hend <| hthen <| hseq <| hseq <| hreg <| hy (fun _ => y_fld rfl fa111_0 (by decide)) <| hy (fun m => y_ld1 rfl ag3 (ld_blk (m.blk 0 rfl) rfl)) <| hy (fun _ => yF (y_lss rfl rfl) ((decide_eq_false h1))) <| hy (fun _ => y_move rfl) <| hyg (o := _) rfl rfl rfl (fun _ => y_fld rfl fa111_0 (by decide)) <| hyg (o := _) rfl rfl rfl (fun m => y_ld1 rfl ag3 (ld_blk (m.blk 0 rfl) rfl)) <| hyg (o := _) rfl rfl rfl (fun _ => yF (y_gtr rfl rfl) ((decide_eq_false h2))) <| hy (fun _ => y_pickF rfl rfl) <| hy (fun _ => y_move rfl) <| hyg (o := _) rfl rfl rfl (fun _ => y_fld rfl fa111_1 (by decide)) <| hyg (o := _) rfl rfl rfl (fun m => y_ld1 rfl ag3 (ld_blk (m.blk 0 rfl) rfl)) <| hyg (o := _) rfl rfl rfl (fun _ => yT (y_lss rfl rfl) ((decide_eq_true h3))) <| hy (fun _ => y_pickF rfl rfl) <| hy (fun _ => y_move rfl) <| hskip rfl rfl rfl (by decide) <| hskip rfl rfl rfl (by decide) <| hskip rfl rfl rfl (by decide) <| hy (fun _ => y_pickT rfl rfl) <| hend <| hsub (ρ' := [(20, _), (2, _), (1, _), (0, _)]) ⟨rfl, rfl, rfl, rfl, trivial⟩ <| hthen <| ?_
        refine hift rfl (rfl) ?_
        refine hseq <| hreg <| hy (fun _ => y_assign rfl) <| hend <| hthen <| hret <| hthen_ret <| ?_
        exact hret1 trivial rfl rfl [] rfl [] rfl ⟨(congrArg Value.bool (decide_eq_false (fun h => by unfold WMay at h; omega)).symm), rfl, rfl⟩
      · by_cases h4 : 4294967295 < s
        · refine hy (fun _ => y_assign rfl) <| hend <| hthen <| hseq <| hseq <| hreg <| hy (fun _ => y_fld rfl fa111_0 (by decide)) <| hy (fun m => y_ld1 rfl ag3 (ld_blk (m.blk 0 rfl) rfl)) <| hy (fun _ => yF (y_lss rfl rfl) ((decide_eq_false h1))) <| hy (fun _ => y_move rfl) <| hyg (o := _) rfl rfl rfl (fun _ => y_fld rfl fa111_0 (by decide)) <| hyg (o := _) rfl rfl rfl (fun m => y_ld1 rfl ag3 (ld_blk (m.blk 0 rfl) rfl)) <| hyg (o := _) rfl rfl rfl (fun _ => yF (y_gtr rfl rfl) ((decide_eq_false h2))) <| hy (fun _ => y_pickF rfl rfl) <| hy (fun _ => y_move rfl) <| hyg (o := _) rfl rfl rfl (fun _ => y_fld rfl fa111_1 (by decide)) <| hyg (o := _) rfl rfl rfl (fun m => y_ld1 rfl ag3 (ld_blk (m.blk 0 rfl) rfl)) <| hyg (o := _) rfl rfl rfl (fun _ => yF (y_lss rfl rfl) ((decide_eq_false h3))) <| hy (fun _ => y_pickF rfl rfl) <| hy (fun _ => y_move rfl) <| hyg (o := _) rfl rfl rfl (fun _ => y_fld rfl fa111_1 (by decide)) <| hyg (o := _) rfl rfl rfl (fun m => y_ld1 rfl ag3 (ld_blk (m.blk 0 rfl) rfl)) <| hyg (o := _) rfl rfl rfl (fun _ => yT (y_gtr rfl rfl) ((decide_eq_true h4))) <| hy (fun _ => y_pickF rfl rfl) <| hend <| hsub (ρ' := [(20, _), (2, _), (1, _), (0, _)]) ⟨rfl, rfl, rfl, rfl, trivial⟩ <| hthen <| ?_
          refine hift rfl (rfl) ?_
          refine hseq <| hreg <| hy (fun _ => y_assign rfl) <| hend <| hthen <| hret <| hthen_ret <| ?_
          exact hret1 trivial rfl rfl [] rfl [] rfl ⟨(congrArg Value.bool (decide_eq_false (fun h => by unfold WMay at h; omega)).symm), rfl, rfl⟩
        · refine hy (fun _ => y_assign rfl) <| hend <| hthen <| hseq <| hseq <| hreg <| hy (fun _ => y_fld rfl fa111_0 (by decide)) <| hy (fun m => y_ld1 rfl ag3 (ld_blk (m.blk 0 rfl) rfl)) <| hy (fun _ => yF (y_lss rfl rfl) ((decide_eq_false h1))) <| hy (fun _ => y_move rfl) <| hyg (o := _) rfl rfl rfl (fun _ => y_fld rfl fa111_0 (by decide)) <| hyg (o := _) rfl rfl rfl (fun m => y_ld1 rfl ag3 (ld_blk (m.blk 0 rfl) rfl)) <| hyg (o := _) rfl rfl rfl (fun _ => yF (y_gtr rfl rfl) ((decide_eq_false h2))) <| hy (fun _ => y_pickF rfl rfl) <| hy (fun _ => y_move rfl) <| hyg (o := _) rfl rfl rfl (fun _ => y_fld rfl fa111_1 (by decide)) <| hyg (o := _) rfl rfl rfl (fun m => y_ld1 rfl ag3 (ld_blk (m.blk 0 rfl) rfl)) <| hyg (o := _) rfl rfl rfl (fun _ => yF (y_lss rfl rfl) ((decide_eq_false h3))) <| hy (fun _ => y_pickF rfl rfl) <| hy (fun _ => y_move rfl) <| hyg (o := _) rfl rfl rfl (fun _ => y_fld rfl fa111_1 (by decide)) <| hyg (o := _) rfl rfl rfl (fun m => y_ld1 rfl ag3 (ld_blk (m.blk 0 rfl) rfl)) <| hyg (o := _) rfl rfl rfl (fun _ => yF (y_gtr rfl rfl) ((decide_eq_false h4))) <| hy (fun _ => y_pickF rfl rfl) <| hend <| hsub (ρ' := [(20, _), (2, _), (1, _), (0, _)]) ⟨rfl, rfl, rfl, rfl, trivial⟩ <| hthen <| ?_
          refine hiff rfl (rfl) ?_
          by_cases h5 : n = 0
          · refine hcskip <| hthen <| hseq <| hreg <| hy (fun _ => y_fld rfl fa111_3 (by decide)) <| hy (fun m => y_ld1 rfl ag32 (mc_v (m.blk 0 rfl) hm)) <| hy (fun _ => y_lenS rfl Tryd.underlying32) <| hy (fun _ => yT (y_eql rfl rfl) ((decide_eq_true (by omega)))) <| hy (fun _ => y_move rfl) <| hskip rfl rfl rfl (by decide) <| hskip rfl rfl rfl (by decide) <| hskip rfl rfl rfl (by decide) <| hskip rfl rfl rfl (by decide) <| hskipU rfl rfl rfl <| hskipU rfl rfl rfl <| hskipU rfl rfl rfl <| hskipU rfl rfl rfl <| hskip rfl rfl rfl (by decide) <| hy (fun _ => y_pickT rfl rfl) <| hy (fun _ => y_assign rfl) <| hend <| hsub (ρ' := [(2, _), (20, _), (1, _), (0, _)]) ⟨rfl, rfl, rfl, rfl, trivial⟩ <| hthen <| hret <| ?_
            exact hret1 trivial rfl rfl [] rfl [] rfl ⟨(congrArg Value.bool (decide_eq_true ⟨by omega, .inl h5⟩).symm), rfl, rfl⟩
          · by_cases h6 : k = 2
            · refine hcskip <| hthen <| hseq <| hreg <| hy (fun _ => y_fld rfl fa111_3 (by decide)) <| hy (fun m => y_ld1 rfl ag32 (mc_v (m.blk 0 rfl) hm)) <| hy (fun _ => y_lenS rfl Tryd.underlying32) <| hy (fun _ => yF (y_eql rfl rfl) ((decide_eq_false (by omega)))) <| hy (fun _ => y_move rfl) <| hyg (o := _) rfl rfl rfl (fun _ => y_fld rfl fa111_0 (by decide)) <| hyg (o := _) rfl rfl rfl (fun m => y_ld1 rfl ag3 (ld_blk (m.blk 0 rfl) rfl)) <| hyg (o := _) rfl rfl rfl (fun _ => yT (y_eql rfl rfl) ((decide_eq_true h6))) <| hyg (o := _) rfl rfl rfl (fun _ => y_move rfl) <| hyg (o := _) rfl rfl rfl (fun _ => y_fld rfl fa111_3 (by decide)) <| hyg (o := _) rfl rfl rfl (fun m => y_ld1 rfl ag32 (mc_v (m.blk 0 rfl) hm)) <| hyg (o := _) rfl rfl rfl (fun _ => y_lenS rfl Tryd.underlying32) <| hyg (o := _) rfl rfl rfl (fun _ => y_leq rfl rfl) <| hyg (o := _) rfl rfl rfl (fun _ => y_pickT rfl rfl) <| hy (fun _ => y_pickF rfl rfl) <| hy (fun _ => y_assign rfl) <| hend <| hsub (ρ' := [(2, _), (20, _), (1, _), (0, _)]) ⟨rfl, rfl, rfl, rfl, trivial⟩ <| hthen <| hret <| ?_
              exact hret1 trivial rfl rfl [] rfl [] rfl ⟨(congrArg Value.bool (decide_eq_decide.2 ⟨fun h => ⟨by omega, .inr ⟨h6, by omega⟩⟩, fun h => by unfold WMay at h; omega⟩)), rfl, rfl⟩
            · refine hcskip <| hthen <| hseq <| hreg <| hy (fun _ => y_fld rfl fa111_3 (by decide)) <| hy (fun m => y_ld1 rfl ag32 (mc_v (m.blk 0 rfl) hm)) <| hy (fun _ => y_lenS rfl Tryd.underlying32) <| hy (fun _ => yF (y_eql rfl rfl) ((decide_eq_false (by omega)))) <| hy (fun _ => y_move rfl) <| hyg (o := _) rfl rfl rfl (fun _ => y_fld rfl fa111_0 (by decide)) <| hyg (o := _) rfl rfl rfl (fun m => y_ld1 rfl ag3 (ld_blk (m.blk 0 rfl) rfl)) <| hyg (o := _) rfl rfl rfl (fun _ => yF (y_eql rfl rfl) ((decide_eq_false h6))) <| hyg (o := _) rfl rfl rfl (fun _ => y_move rfl) <| hskip rfl rfl rfl (by decide) <| hskip rfl rfl rfl (by decide) <| hskip rfl rfl rfl (by decide) <| hskip rfl rfl rfl (by decide) <| hyg (o := _) rfl rfl rfl (fun _ => y_pickF rfl rfl) <| hy (fun _ => y_pickF rfl rfl) <| hy (fun _ => y_assign rfl) <| hend <| hsub (ρ' := [(2, _), (20, _), (1, _), (0, _)]) ⟨rfl, rfl, rfl, rfl, trivial⟩ <| hthen <| hret <| ?_
              exact hret1 trivial rfl rfl [] rfl [] rfl ⟨(congrArg Value.bool (decide_eq_false (fun h => by unfold WMay at h; omega)).symm), rfl, rfl⟩
theorem Rd.part {w : World} {a : Addr} {n k m : Nat} {B : List UInt8} (h : Rd w 1 (some a) n (b8s B)) : ∀ (j : Nat) (u : Value), (b8s ((B.drop k).take m))[j]? = some u → w.cell? ((a.add k).add j) = some u := by
  intro j u hu
  rw [add_add]
  refine h.cell ?_
  unfold b8s at hu ⊢
  rw [List.getElem?_map, List.getElem?_take] at hu
  rw [List.getElem?_map]
  split at hu
  · rw [List.getElem?_drop] at hu; exact hu
  · simp at hu
/-- what is read of bytes -/
def wkd (B : List UInt8) : Int := ((B.getD 0 0).toNat : Nat)
def ws (B : List UInt8) : Nat := num4 ((B.drop 1).take 4)
def OkW (B : List UInt8) : Prop := 37 ≤ B.length ∧ WMay (wkd B) (ws B) (B.length - 37)
def zm : List UInt8 := List.replicate 32 0
def ReadW (l : List UInt8) (k s : Int) (nm body : List UInt8) (err : Int) : Prop :=
  (takeE l ≠ 0 ∧ k = 0 ∧ s = 0 ∧ nm = zm ∧ body = [] ∧ err = takeE l) ∨
  (takeE l = 0 ∧ OkW (takeB l) ∧ k = wkd (takeB l) ∧ s = ws (takeB l) ∧ nm = ((takeB l).drop 5).take 32 ∧ body = (takeB l).drop 37 ∧ err = 0) ∨
  (takeE l = 0 ∧ ¬ OkW (takeB l) ∧ k = 0 ∧ s = 0 ∧ nm = zm ∧ body = [] ∧ err = 2)
theorem wreadC {A : Option Addr} {n c : Nat} {l : List UInt8} (hc : n ≤ c) (hn : n ≤ 1000000) : Con Tryd.prog 58 [.slice A n c] [] [RRd 1 A n (b8s l)] (fun v_ X_ S_ => ∃ k s nm body v err bn, v_ = (.tuple #[.agg (mc k s nm v).toArray, .int .i64 err]) ∧ X_ = [ROwn 5 1 v bn (b8s body)] ∧ S_ = [] ∧ (nm.length = 32 ∧ body.length = bn ∧ ReadW l k s nm body err)) := by
  have z32 : zm.length = 32 := by simp [zm]
  refine henter (N := 53) Tryd.func58 rfl rfl (by simp) fun b => ?_
  refine hfactC (fun m => rdB (m.rd 0 rfl)) ?_
  rintro ⟨hl_r, hA_r⟩
  refine hseq <| hreg <| ?_
  refine hx (xh_alloc ti111 (fun g2 => ?_))
  refine hy (fun _ => y_assign rfl) <| hend <| hmemQ (X' := [_]) (S' := [_]) (fun _ m => m) <| hthen <| hseq <| hreg <| hy (fun _ => y_move rfl) <| ?_
  refine hx (xh_call rfl Tryd.call67 (crcTakeC (by omega) (by omega)) [] rfl [0] rfl ?_)
  rintro _ _ _ ⟨v, rfl, rfl, rfl⟩
  refine hfactL (fun m => (m.own 0 rfl).slice) ?_
  rintro ⟨A_x, c_x, rfl, hc_x⟩
  refine hfactL (fun m => (m.ord 0 rfl).2.1) fun hA_x => ?_
  refine hy (fun _ => y_move rfl) <| hy (fun _ => y_extract rfl rfl) <| hy (fun _ => y_extract rfl rfl) <| hy (fun _ => y_assign rfl) <| hy (fun _ => y_assign rfl) <| hend <| hsub (ρ' := [(5, _), (4, _), (3, _), (2, _), (0, _)]) ⟨rfl, rfl, rfl, rfl, rfl, trivial⟩ <| hmemQ (X' := [_, _]) (S' := [_]) (fun _ m => m) <| hthen <| hseq <| hseq <| hreg <| hy (fun _ => y_move rfl) <| hy (fun _ => y_neq rfl rfl) <| hend <| hsub (ρ' := [(14, _), (5, _), (4, _), (3, _), (2, _), (0, _)]) ⟨rfl, rfl, rfl, rfl, rfl, rfl, trivial⟩ <| hthen <| ?_
  refine hif rfl (fun h => ?_) (fun h => ?_)
  · refine hseq <| hreg <| hy (fun _ => y_build0 ti111 rfl (by kernel_rfl)) <| hy (fun _ => y_move rfl) <| ?_
    refine hx0 (xh_stA 1 rfl rfl rfl sz111 (mc_len z32) (mc_one (v := .slice none 0 0) rfl) rfl ?_)
    refine hy (fun _ => y_assign rfl) <| hend <| hsub (ρ' := [(3, _), (14, _), (5, _), (4, _), (2, _), (0, _)]) ⟨rfl, rfl, rfl, rfl, rfl, rfl, trivial⟩ <| hmemQ (X' := [_, _]) (S' := [_]) (fun _ m => m) <| hthen <| hret <| hthen_ret <| ?_
    refine hmemQ (fun w m => m.addX (r' := ROwn 5 1 (.slice none 0 0) 0 []) (.refl _ _) (Own.nil _ _ _ _) (fun k hk => hk.elim)) ?_
    exact hretN1 trivial rfl rfl rfl ag111 sz111 (mc_len z32) (fun m => (m.blk 1 rfl).cells0) [0] rfl [] rfl ⟨_, _, _, [], _, _, _, rfl, rfl, rfl, ⟨z32, rfl, .inl ⟨h, rfl, rfl, rfl, rfl, rfl⟩⟩⟩
  · have h0 := Decidable.not_not.1 h
    have hn4 : 4 ≤ n := by
      rcases Nat.lt_or_ge l.length 4 with hlt | hge
      · rw [(takeE_2 hlt).1] at h0; omega
      · omega
    have hB : takeB l = l.take (l.length - 4) := by rw [takeB, if_pos h0]
    have hbl := takeB_len h0
    generalize hBB : takeB l = B at hB hbl hc_x hA_x ⊢
    have hbad : ¬ OkW B → ReadW l 0 0 zm [] 2 := fun hb => .inr (.inr ⟨h0, by rw [hBB]; exact hb, rfl, rfl, rfl, rfl, rfl⟩)
    have hok : OkW B → ReadW l (wkd B) (ws B) ((B.drop 5).take 32) (B.drop 37) 0 := fun hb => .inr (.inl ⟨h0, by rw [hBB]; exact hb, by rw [hBB], by rw [hBB], by rw [hBB], by rw [hBB], rfl⟩)
    refine hcskip <| hthen <| hseq <| hseq <| hreg <| hy (fun _ => y_move rfl) <| hy (fun _ => y_lenS rfl Tryd.underlying32) <| hy (fun _ => y_lss rfl rfl) <| hend <| hsub (ρ' := [(19, _), (14, _), (5, _), (4, _), (3, _), (2, _), (0, _)]) ⟨rfl, rfl, rfl, rfl, rfl, rfl, rfl, trivial⟩ <| hthen <| ?_
    refine hif rfl (fun h5 => ?_) (fun h5 => ?_)
    · refine hseq <| hreg <| hy (fun _ => y_build0 ti111 rfl (by kernel_rfl)) <| ?_
      refine hx0 (xh_stA 1 rfl rfl rfl sz111 (mc_len z32) (mc_one (v := .slice none 0 0) rfl) rfl ?_)
      refine hy (fun _ => y_assign rfl) <| hend <| hsub (ρ' := [(3, _), (19, _), (14, _), (5, _), (4, _), (2, _), (0, _)]) ⟨rfl, rfl, rfl, rfl, rfl, rfl, rfl, trivial⟩ <| hmemQ (X' := [_, _]) (S' := [_]) (fun _ m => m) <| hthen <| hret <| hthen_ret <| ?_
      refine hmemQ (fun w m => m.addX (r' := ROwn 5 1 (.slice none 0 0) 0 []) (.refl _ _) (Own.nil _ _ _ _) (fun k hk => hk.elim)) ?_
      exact hretN1 trivial rfl rfl rfl ag111 sz111 (mc_len z32) (fun m => (m.blk 1 rfl).cells0) [0] rfl [] rfl ⟨_, _, _, [], _, _, _, rfl, rfl, rfl, ⟨z32, rfl, hbad (fun hb => by have := hb.1; omega)⟩⟩
    · have h37 : 37 ≤ B.length := by omega
      have hnl : ((B.drop 5).take 32).length = 32 := by rw [List.length_take, List.length_drop]; omega
      refine hfactC (fun m => (m.ord 0 rfl).some (by omega)) fun h_ => ?_
      obtain ⟨a, rfl⟩ : ∃ a_, A_x = some a_ := ⟨_, h_⟩
      clear h_
      refine hcskip <| hthen <| hseq <| hdrw [9, 10] [(0, some 1), (1, some 1), (2, some 1), (3, some 1), (4, some 1), (5, some 1), (6, some 1), (7, some 1), (8, some 1), (9, none), (10, none)] (by kernel_rfl) (by kernel_rfl) rfl 1 <| htyU (y_move rfl) <| htyU (y_idxS1 rfl rfl Tryd.underlying32 sz5 hA_x (show ((0 : Nat) : Int) = 0 from rfl) (by omega)) <| hty (fun m => y_ld1 rfl ag5 ((m.ord 0 rfl).cell (b8s_get (by omega)))) <| htyU (y_conv rfl Tryd.underlying5 Tryd.underlying3 (wb8 _)) <| htyU (y_move rfl) <| htyU (yV (y_slBoth rfl rfl rfl Tryd.underlying32 sz5 (show ((5 : Nat) : Int) = 5 from rfl) (show ((37 : Nat) : Int) = 37 from rfl) (by omega) (by omega)) ((show Value.slice (if c_x = 5 then some a else (some a).map (·.add (5 * 1))) (37 - 5) (c_x - 5) = .slice (some (a.add 5)) 32 (c_x - 5) by rw [if_neg (by omega)]; rfl))) <| htyU (y_arrAt rfl Tryd.underlying23 (by omega)) <| hty (fun m => yV (y_ldN rfl ag23 sz23 (by rw [b8s_length]; exact hnl) (Rd.part (m.ord 0 rfl))) ((rfl : Value.agg _ = .agg (b8s ((B.drop 5).take 32)).toArray))) <| htyU (y_build ti111 rfl rfl (by kernel_rfl) (bldM (k0 := 0) (s := 0) (zi := zm) (z := .slice none 0 0) pl111_0 pl111_2 z32 hnl)) <| ?_
      refine htx (xh_alloc ti111 (fun g6 => ⟨(fun _ => wk [1, 1] [0] rfl rfl), ?_⟩))
      refine htx0 (xh_stA 0 rfl rfl rfl sz111 (mc_len hnl) (mc_one (v := .slice none 0 0) rfl) rfl ⟨(fun h => absurd h (by decide)), ?_⟩)
      refine htmem (fun w m => m.eqX 0 rfl (show _ = RBlk g6 111 (mc (wkd B) ((acc ((B.drop 1).take 4) 0 : Nat) : Int) ((B.drop 5).take 32) (.slice none 0 0)) from rfl)) ?_
      refine htend <| hsub (ρ' := [(6, _), (19, _), (14, _), (5, _), (4, _), (3, _), (2, _), (0, _)]) ⟨rfl, rfl, rfl, rfl, rfl, rfl, rfl, rfl, trivial⟩ <| hmemQ (X' := [_, _, _]) (S' := [_]) (fun _ m => m) <| hthen <| hseq <| hseq <| hreg <| hy (fun _ => y_assign rfl) <| hend <| hthen <| hblock <| ?_
      refine hloop1 (fun j => 4 - j) (fun j => [(7, .int .i64 (4 - (j : Int)))]) (fun j => [RBlk g6 111 (mc (wkd B) ((acc ((B.drop 1).take 4) j : Nat) : Int) ((B.drop 5).take 32) (.slice none 0 0))]) (fun j => []) (fun j => j ≤ 4) 0 [(6, _), (19, _), (14, _), (5, _), (4, _), (3, _), (2, _), (0, _)] ⟨rfl, rfl, rfl, rfl, rfl, rfl, rfl, rfl, trivial⟩ [0] rfl [] rfl (Nat.zero_le _) ⟨rfl, trivial⟩ (fun j hI => ?_)
      refine hseq <| hseq <| hreg <| hy (fun _ => y_move rfl) <| hy (fun _ => y_gtr rfl rfl) <| hend <| hsub (ρ' := [(31, _), (7, _), (6, _), (19, _), (14, _), (5, _), (4, _), (3, _), (2, _), (0, _)]) ⟨rfl, rfl, rfl, rfl, rfl, rfl, rfl, rfl, rfl, rfl, trivial⟩ <| hthen <| ?_
      refine hif rfl (fun hj => ?_) (fun hj => ?_)
      · have hl4 : ((B.drop 1).take 4).length = 4 := by rw [List.length_take, List.length_drop]; omega
        have hac := acc_le ((B.drop 1).take 4) (show j ≤ 4 by omega)
        have hby : (((B.drop 1).take 4).getD (3 - j) 0).toNat < 256 := UInt8.toNat_lt _
        have hget : B.getD (4 - j) 0 = ((B.drop 1).take 4).getD (3 - j) 0 := by
          simp only [List.getD, List.getElem?_take, List.getElem?_drop]
          rw [if_pos (by omega), show 1 + (3 - j) = 4 - j by omega]
        refine hcskip <| hthen <| hseq <| hblock <| hdrw [10] [(0, some 0), (1, some 0), (2, some 0), (3, some 0), (4, some 0), (5, some 0), (6, some 0), (7, some 0), (8, some 0), (9, some 0), (10, none)] (by kernel_rfl) (by kernel_rfl) rfl 0 <| htyU (y_fld rfl fa111_1 (by decide)) <| hty (fun m => y_ld1 rfl ag3 (ld_blk (m.blk 0 rfl) rfl)) <| htyU (y_shl (p := 256) rfl rfl (by decide) (by decide) (by decide) (w64 (by omega) (by omega))) <| htyU (y_move rfl) <| htyU (y_move rfl) <| htyU (y_idxS1 rfl rfl Tryd.underlying32 sz5 hA_x (show ((4 - j : Nat) : Int) = _ by omega) (by omega)) <| hty (fun m => yV (y_ld1 rfl ag5 ((m.ord 1 rfl).cell (b8s_get (by omega)))) ((show B8 (B.getD (4 - j) 0) = B8 (((B.drop 1).take 4).getD (3 - j) 0) by rw [hget]))) <| htyU (y_conv rfl Tryd.underlying5 Tryd.underlying3 (wb8 _)) <| htyU (y_bits (by simp) rfl rfl (or_byte _ _ hac hby)) <| htyU (y_fld rfl fa111_1 (by decide)) <| ?_
        refine htx0 (xh_st1a 0 rfl rfl rfl sz3 rfl (by first | exact Nat.le_of_ble_eq_true rfl | simp) ⟨(fun h => absurd h (by decide)), ?_⟩)
        refine htend <| hsub (ρ' := [(31, _), (7, _), (6, _), (19, _), (14, _), (5, _), (4, _), (3, _), (2, _), (0, _)]) ⟨rfl, rfl, rfl, rfl, rfl, rfl, rfl, rfl, rfl, rfl, trivial⟩ <| hmemQ (X' := [_, _, _]) (S' := [_]) (fun _ m => m) <| hqblock <| hthen <| hreg <| hy (fun _ => y_move rfl) <| hy (fun _ => yV (y_sub rfl rfl (w64 (by omega) (by omega))) ((show Value.int .i64 ((4 - (j : Int)) - 1) = .int .i64 (4 - ((j + 1 : Nat) : Int)) by congr 1; omega))) <| hy (fun _ => y_assign rfl) <| hend <| hsub (ρ' := [(7, _), (31, _), (6, _), (19, _), (14, _), (5, _), (4, _), (3, _), (2, _), (0, _)]) ⟨rfl, rfl, rfl, rfl, rfl, rfl, rfl, rfl, rfl, rfl, trivial⟩ <| ?_
        refine hnext1 (j + 1) ⟨rfl, rfl, rfl, rfl, rfl, rfl, rfl, rfl, rfl, trivial⟩ [0, 0, 0] rfl [0] rfl (by omega) (by omega)
      · obtain rfl : j = 4 := by omega
        rw [acc4]
        have hws : (num4 ((B.drop 1).take 4) : Nat) = ws B := rfl
        rw [hws]
        have hsl : ws B < 4294967296 := num4_lt _
        refine hexit <| hthen_exit <| hthen_exit <| hqblock_exit <| hthen <| hseq <| hreg <| hy (fun _ => y_move rfl) <| hy (fun _ => y_slFrom rfl rfl Tryd.underlying32 sz5 (show ((37 : Nat) : Int) = 37 from rfl) (by omega)) <| ?_
        refine hx (xh_calll rfl Tryd.call108 (cloneC (by omega) (l := (B.drop 37))) [] rfl (.x 1 rfl (View.trans .own (View.drop hc_x h37)) .nil) ?_)
        rintro _ _ _ ⟨v2, rfl, rfl, rfl⟩
        refine ⟨rfl, ?_⟩
        refine hfactL (fun m => (m.own 0 rfl).slice) ?_
        rintro ⟨A_x2, c_x2, rfl, hc_x2⟩
        refine hfactL (fun m => (m.ord 0 rfl).2.1) fun hA_x2 => ?_
        refine hy (fun _ => y_fld rfl fa111_3 (by decide)) <| ?_
        refine hx0 (xh_st1a 1 rfl rfl rfl sz32 rfl (by rw [mc_len hnl]; decide) ?_)
        refine hmemL (fun w m => m.eqX 0 rfl (show _ = RBlk g6 111 (mc (wkd B) (ws B : Int) ((B.drop 5).take 32) (.slice A_x2 (B.length - 37) c_x2)) from congrArg (RBlk _ _) (mc_set hnl))) ?_
        refine hend <| hsub (ρ' := [(31, _), (7, _), (6, _), (19, _), (14, _), (5, _), (4, _), (3, _), (2, _), (0, _)]) ⟨rfl, rfl, rfl, rfl, rfl, rfl, rfl, rfl, rfl, rfl, trivial⟩ <| hmemQ (X' := [_, _, _, _]) (S' := [_]) (fun _ m => m) <| hthen <| hseq <| hseq <| hreg <| hy (fun m => y_ldN rfl ag111 sz111 (mc_len hnl) ((m.blk 0 rfl).cells0)) <| ?_
        refine hx (xh_call rfl Tryd.call109 (mayC (by omega)) [] rfl [] rfl ?_)
        rintro _ _ _ ⟨rfl, rfl, rfl⟩
        refine hy (fun _ => y_notp rfl) <| hend <| hsub (ρ' := [(50, _), (31, _), (7, _), (6, _), (19, _), (14, _), (5, _), (4, _), (3, _), (2, _), (0, _)]) ⟨rfl, rfl, rfl, rfl, rfl, rfl, rfl, rfl, rfl, rfl, rfl, trivial⟩ <| hmemQ (X' := [_, _, _, _]) (S' := [_]) (fun _ m => m) <| hthen <| ?_
        refine hif rfl (fun hW => ?_) (fun hW => ?_)
        · refine hseq <| hreg <| hy (fun _ => y_build0 ti111 rfl (by kernel_rfl)) <| ?_
          refine hx0 (xh_stA 3 rfl rfl rfl sz111 (mc_len z32) (mc_one (v := .slice none 0 0) rfl) rfl ?_)
          refine hy (fun _ => y_assign rfl) <| hend <| hsub (ρ' := [(3, _), (50, _), (31, _), (7, _), (6, _), (19, _), (14, _), (5, _), (4, _), (2, _), (0, _)]) ⟨rfl, rfl, rfl, rfl, rfl, rfl, rfl, rfl, rfl, rfl, rfl, trivial⟩ <| hmemQ (X' := [_, _, _, _]) (S' := [_]) (fun _ m => m) <| hthen <| hret <| hthen_ret <| ?_
          refine hmemQ (fun w m => m.addX (r' := ROwn 5 1 (.slice none 0 0) 0 []) (.refl _ _) (Own.nil _ _ _ _) (fun k hk => hk.elim)) ?_
          exact hretN1 trivial rfl rfl rfl ag111 sz111 (mc_len z32) (fun m => (m.blk 1 rfl).cells0) [0] rfl [] rfl ⟨_, _, _, [], _, _, _, rfl, rfl, rfl, ⟨z32, rfl, hbad (fun hb => hW hb.2)⟩⟩
        · have hW := Decidable.not_not.1 hW
          refine hcskip <| hthen <| hseq <| hreg <| hy (fun m => y_ldN rfl ag111 sz111 (mc_len hnl) ((m.blk 0 rfl).cells0)) <| ?_
          refine hx0 (xh_stA 3 rfl rfl rfl sz111 (mc_len hnl) (mc_one rfl) rfl ?_)
          refine hy (fun _ => y_assign rfl) <| hend <| hsub (ρ' := [(3, _), (50, _), (31, _), (7, _), (6, _), (19, _), (14, _), (5, _), (4, _), (2, _), (0, _)]) ⟨rfl, rfl, rfl, rfl, rfl, rfl, rfl, rfl, rfl, rfl, rfl, trivial⟩ <| hmemQ (X' := [_, _, _, _]) (S' := [_]) (fun _ m => m) <| hthen <| hret <| ?_
          exact hretN1 trivial rfl rfl rfl ag111 sz111 (mc_len hnl) (fun m => (m.blk 0 rfl).cells0) [2] rfl [] rfl ⟨_, _, _, B.drop 37, _, _, _, rfl, rfl, rfl, ⟨hnl, List.length_drop, hok ⟨h37, hW⟩⟩⟩
/-- the bytes of a message -/
def wbody (k s : Nat) (nm body : List UInt8) : List UInt8 := [UInt8.ofNat k] ++ le4 s ++ nm ++ body
theorem wbody_len {k s : Nat} {nm body : List UInt8} (h : nm.length = 32) : (wbody k s nm body).length = 37 + body.length := by simp [wbody, le4_length, h]; omega
theorem rwbytesC {k s : Nat} {nm body : List UInt8} (hk : k < 256) (hs : s < 4294967296) (hm : nm.length = 32) (hb : body.length ≤ 1000000) : Con Tryd.prog 53 [.agg (mc k s nm (.string (strOf body))).toArray] [] [] (fun v_ X_ S_ => ∃ v, v_ = v ∧ X_ = [ROwn 5 1 v (37 + body.length + 4) (b8s (putL (wbody k s nm body)))] ∧ S_ = []) := by
  refine henter (N := 25) Tryd.func53 rfl rfl (by simp) fun b => ?_
  refine hseq <| hreg <| ?_
  refine hx (xh_box rfl (fun g1 => ?_))
  refine hmemL (fun w m => m.eqX 0 rfl (show _ = RBlk g1 94 (mc k s nm (.string (strOf body))) from congrArg (RBlk _ _) (cells_agg _))) ?_
  refine hy (fun _ => y_assign rfl) <| hend <| hmemQ (X' := [_]) (S' := []) (fun _ m => m) <| hthen <| hseq <| hreg <| hy (fun _ => y_fld rfl fa94_0 (by decide)) <| hy (fun m => y_ld1 rfl ag3 (ld_blk (m.blk 0 rfl) rfl)) <| hy (fun _ => yV (y_conv rfl Tryd.underlying3 Tryd.underlying5 (u8mod k)) ((rfl : Value.int .u8 _ = B8 (UInt8.ofNat k)))) <| ?_
  refine hx (xh_bsl Tryd.underlying32 ti5 rfl rfl rfl (by simp [Value.cells, B8]) (by decide) (by decide) (fun g7 => ?_))
  have hA_b7 : 0 < 1 → (some (⟨g7, 0, none⟩ : Addr)) ≠ none := fun _ h => by cases h
  refine hmemL (fun w m => m.eqX 0 rfl (show _ = ROwn 5 1 (.slice (some ⟨g7, 0, none⟩) 1 1) 1 (b8s [UInt8.ofNat k]) from rfl)) ?_
  refine hy (fun _ => y_assign rfl) <| hend <| hsub (ρ' := [(3, _), (2, _), (1, _), (0, _)]) ⟨rfl, rfl, rfl, rfl, trivial⟩ <| hmemQ (X' := [_, _]) (S' := []) (fun _ m => m) <| hthen <| hseq <| hreg <| hy (fun _ => y_move rfl) <| hy (fun _ => y_fld rfl fa94_1 (by decide)) <| hy (fun m => y_ld1 rfl ag3 (ld_blk (m.blk 1 rfl) rfl)) <| ?_
  refine hx (xh_call rfl Tryd.call63 (numberC (by omega)) [] rfl [] rfl ?_)
  rintro _ _ _ ⟨v, rfl, rfl, rfl⟩
  refine hfactL (fun m => (m.own 0 rfl).slice) ?_
  rintro ⟨A_x, c_x, rfl, hc_x⟩
  refine hfactL (fun m => (m.ord 0 rfl).2.1) fun hA_x => ?_
  refine hx (xh_app 1 rfl rfl rfl Tryd.underlying32 Tryd.underlying32 (by exact .inl rfl) ti5 rfl (fun m => Src.of_rd (m.ord 0 rfl)) b8s_one (by unfold maxLen; omega) (by omega) (fun u => ?_))
  refine hfactL (fun m => (m.own 0 rfl).slice) ?_
  rintro ⟨A_b7, c_b7, rfl, hc_b7⟩
  refine hfactL (fun m => (m.ord 0 rfl).2.1) fun hA_b7 => ?_
  refine hmemL (fun w m => m.eqX 0 rfl (show _ = ROwn 5 1 (.slice A_b7 5 c_b7) 5 (b8s ([UInt8.ofNat k] ++ le4 s)) from congrArg (ROwn _ _ _ _) (b8s_append ..).symm)) ?_
  refine hy (fun _ => y_assign rfl) <| hend <| hsub (ρ' := [(3, _), (2, _), (1, _), (0, _)]) ⟨rfl, rfl, rfl, rfl, trivial⟩ <| hmemQ (X' := [_, _, _]) (S' := []) (fun _ m => m) <| hthen <| hseq <| hreg <| hy (fun _ => y_move rfl) <| hy (fun _ => y_fld rfl fa94_2 (by decide)) <| hy (fun m => y_ldN rfl ag23 sz23 (by rw [b8s_length]; exact hm) (mc_nm (m.blk 2 rfl))) <| ?_
  refine hx (xh_call rfl Tryd.call105 (bytesC (by omega)) [] rfl [] rfl ?_)
  rintro _ _ _ ⟨v2, rfl, rfl, rfl⟩
  refine hfactL (fun m => (m.own 0 rfl).slice) ?_
  rintro ⟨A_x2, c_x2, rfl, hc_x2⟩
  refine hfactL (fun m => (m.ord 0 rfl).2.1) fun hA_x2 => ?_
  refine hx (xh_app 1 rfl rfl rfl Tryd.underlying32 Tryd.underlying32 (by exact .inl rfl) ti5 rfl (fun m => Src.of_rd (m.ord 0 rfl)) b8s_one (by unfold maxLen; omega) (by omega) (fun u2 => ?_))
  refine hfactL (fun m => (m.own 0 rfl).slice) ?_
  rintro ⟨A_b72, c_b72, rfl, hc_b7⟩
  refine hfactL (fun m => (m.ord 0 rfl).2.1) fun hA_b7 => ?_
  refine hmemL (fun w m => m.eqX 0 rfl (show _ = ROwn 5 1 (.slice A_b72 37 c_b72) 37 (b8s ([UInt8.ofNat k] ++ le4 s ++ nm)) from congrArg (ROwn _ _ _ _) (b8s_append ..).symm)) ?_
  have hbs : (bytesOf (strOf body)).length = body.length := rfl
  refine hy (fun _ => y_assign rfl) <| hend <| hsub (ρ' := [(3, _), (2, _), (1, _), (0, _)]) ⟨rfl, rfl, rfl, rfl, trivial⟩ <| hmemQ (X' := [_, _, _, _]) (S' := []) (fun _ m => m) <| hthen <| hseq <| hreg <| hy (fun _ => y_move rfl) <| hy (fun _ => y_fld rfl fa94_3 (by decide)) <| hy (fun m => y_ld1 rfl ag9 (mc_v (m.blk 3 rfl) hm)) <| ?_
  refine hx (xh_s2b rfl Tryd.underlying9 Tryd.underlying32 Tryd.underlying5 (show body.length ≤ maxLen by unfold maxLen; omega) (fun v21 => ?_))
  refine hfactL (fun m => (m.own 0 rfl).slice) ?_
  rintro ⟨A_b21, c_b21, rfl, hc_b21⟩
  refine hfactL (fun m => (m.ord 0 rfl).2.1) fun hA_b21 => ?_
  refine hmemL (fun w m => m.eqX 0 rfl (show _ = ROwn 5 1 (.slice A_b21 body.length c_b21) body.length (b8s body) from rfl)) ?_
  refine hx (xh_app 1 rfl rfl rfl Tryd.underlying32 Tryd.underlying32 (by exact .inl rfl) ti5 rfl (fun m => Src.of_rd (m.ord 0 rfl)) b8s_one (show 37 + body.length ≤ maxLen by unfold maxLen; omega) (show (37 + body.length) * 1 ≤ 140737488355328 by omega) (fun u3 => ?_))
  refine hfactL (fun m => (m.own 0 rfl).slice) ?_
  rintro ⟨A_b73, c_b73, rfl, hc_b7⟩
  refine hfactL (fun m => (m.ord 0 rfl).2.1) fun hA_b7 => ?_
  refine hmemL (fun w m => m.eqX 0 rfl (show _ = ROwn 5 1 (.slice A_b73 (37 + body.length) c_b73) (37 + body.length) (b8s (wbody k s nm body)) from congrArg (ROwn _ _ _ _) (b8s_append ..).symm)) ?_
  refine hy (fun _ => y_assign rfl) <| hend <| hsub (ρ' := [(3, _), (2, _), (1, _), (0, _)]) ⟨rfl, rfl, rfl, rfl, trivial⟩ <| hmemQ (X' := [_, _, _, _, _]) (S' := []) (fun _ m => m) <| hthen <| hseq <| hreg <| hy (fun _ => y_move rfl) <| ?_
  refine hx (xh_calll rfl Tryd.call22 (rcrcPutC (by omega)) [] rfl (.x 0 rfl .own .nil) ?_)
  rintro _ _ _ ⟨v3, rfl, rfl, rfl⟩
  refine ⟨rfl, ?_⟩
  refine hfactL (fun m => (m.own 0 rfl).slice) ?_
  rintro ⟨A_x3, c_x3, rfl, hc_x3⟩
  refine hfactL (fun m => (m.ord 0 rfl).2.1) fun hA_x3 => ?_
  refine hy (fun _ => y_assign rfl) <| hend <| hsub (ρ' := [(2, _), (3, _), (1, _), (0, _)]) ⟨rfl, rfl, rfl, rfl, trivial⟩ <| hmemQ (X' := [_, _, _, _, _, _]) (S' := []) (fun _ m => m) <| hthen <| hret <| ?_
  exact hret1 trivial rfl rfl [0] rfl [] rfl ⟨_, rfl, rfl, rfl⟩
end Go.Proofs.YtfikjheicjamhaaDoor
end
section
/- Contracts: what is said (wire): Answer, Write. -/
set_option linter.unusedVariables false
set_option linter.unusedSimpArgs false
set_option maxRecDepth 20000
namespace Go.Proofs.YtfikjheicjamhaaDoor
open Go.Eng Go.Hx
/-- when an answer may be -/
def AnsOk (k s : Int) (n : Nat) (has : Bool) (nf : Nat) : Prop := k = 1 ∧ WMay k s n ∧ (has = true → nf ≤ 4106)
def AnsW (k s : Int) (nm : List UInt8) (n : Nat) (has : Bool) (nf : Nat) (l : List UInt8) (k1 s1 : Int) (nm1 body : List UInt8) (err : Int) : Prop :=
  (AnsOk k s n has nf ∧ err = 0 ∧ k1 = (if has then 2 else 3) ∧ s1 = s ∧ nm1 = nm ∧ body = if has then l else []) ∨
  (¬ AnsOk k s n has nf ∧ err = 1 ∧ k1 = 0 ∧ s1 = 0 ∧ nm1 = zm ∧ body = [])
theorem ans_may {k s : Int} {n m : Nat} {has : Bool} (h1 : k = 1) (h : WMay k s n) (hm : has = false → m = 0) : WMay (if has then 2 else 3) s m ↔ (has = true → m ≤ 4106) := by
  unfold WMay at h ⊢
  cases has
  · simp [hm rfl]; omega
  · simp; omega
theorem wanswerC {k s : Int} {nm : List UInt8} {A : Option Addr} {n c : Nat} {Af : Option Addr} {nf cf : Nat} {l : List UInt8} {has : Bool} (hm : nm.length = 32) (hf : nf ≤ 140737488351232) : Con Tryd.prog 103 [.agg (mc k s nm (.slice A n c)).toArray, .slice Af nf cf, .bool has] [] [RRd 1 Af nf (b8s l)] (fun v_ X_ S_ => ∃ k1 s1 nm1 body v err bn, v_ = (.tuple #[.agg (mc k1 s1 nm1 v).toArray, .int .i64 err]) ∧ X_ = [ROwn 5 1 v bn (b8s body)] ∧ S_ = [] ∧ (nm1.length = 32 ∧ body.length = bn ∧ AnsW k s nm n has nf l k1 s1 nm1 body err)) := by
  have z32 : zm.length = 32 := by simp [zm]
  refine henter (N := 34) Tryd.func103 rfl rfl (by simp) fun b => ?_
  refine hfactC (fun m => rdB (m.rd 0 rfl)) ?_
  rintro ⟨hl_f, hA_f⟩
  refine hseq <| hreg <| ?_
  refine hx (xh_box rfl (fun g3 => ?_))
  refine hmemL (fun w m => m.eqX 0 rfl (show _ = RBlk g3 111 (mc k s nm (.slice A n c)) from congrArg (RBlk _ _) (cells_agg _))) ?_
  refine hx (xh_alloc ti111 (fun g6 => ?_))
  refine hy (fun _ => y_assign rfl) <| hend <| hmemQ (X' := [_, _]) (S' := [_]) (fun _ m => m) <| hthen <| hseq <| hreg <| hy (fun _ => y_fld rfl fa111_1 (by decide)) <| hy (fun m => y_ld1 rfl ag3 (ld_blk (m.blk 1 rfl) rfl)) <| hy (fun _ => y_fld rfl fa111_2 (by decide)) <| hy (fun m => yV (y_ldN rfl ag23 sz23 (by rw [b8s_length]; exact hm) (mc_nm (m.blk 1 rfl))) ((rfl : Value.agg _ = .agg (b8s nm).toArray))) <| hy (fun _ => y_build ti111 rfl rfl (by kernel_rfl) (bldM3 (k0 := 0) (s0 := 0) (zi := zm) (z := .slice none 0 0) pl111_0 pl111_1 pl111_2 z32 hm)) <| ?_
  refine hx (xh_alloc ti111 (fun g8 => ?_))
  refine hx0 (xh_stA 0 rfl rfl rfl sz111 (mc_len hm) (mc_one (v := .slice none 0 0) rfl) rfl ?_)
  refine hmemL (fun w m => m.eqX 0 rfl (show _ = RBlk g8 111 (mc 3 s nm (.slice none 0 0)) from rfl)) ?_
  cases has
  · refine hend <| hsub (ρ' := [(8, _), (7, _), (6, _), (3, _), (0, _), (1, _), (2, _)]) ⟨rfl, rfl, rfl, rfl, rfl, rfl, rfl, trivial⟩ <| hmemQ (X' := [_, _, _]) (S' := [_]) (fun _ m => m) <| hthen <| hseq <| hseq <| hreg <| hy (fun _ => y_move rfl) <| hend <| hthen <| ?_
    refine hiff rfl (rfl) ?_
    refine hmemC (fun w m => m.addX (r' := ROwn 5 1 (.slice none 0 0) 0 []) (.refl _ _) (Own.nil _ _ _ _) (fun k hk => hk.elim)) ?_
    by_cases h1 : k = 1
    · by_cases hW : WMay k s n
      · by_cases hO : WMay 3 s 0
        · refine hcskip <| hthen <| hseq <| hseq <| hreg <| hy (fun _ => y_fld rfl fa111_0 (by decide)) <| hy (fun m => y_ld1 rfl ag3 (ld_blk (m.blk 3 rfl) rfl)) <| hy (fun _ => yF (y_neq rfl rfl) ((decide_eq_false (not_not_intro h1)))) <| hy (fun _ => y_move rfl) <| hyg (o := _) rfl rfl rfl (fun m => y_ldN rfl ag111 sz111 (mc_len hm) ((m.blk 3 rfl).cells0)) <| ?_
          refine hxg (o := _) rfl rfl rfl (xh_call rfl Tryd.call109 (mayC (by omega)) [] rfl [] rfl ?_)
          rintro _ _ _ ⟨rfl, rfl, rfl⟩
          refine hyg (o := _) rfl rfl rfl (fun _ => yF (y_notp rfl) ((decide_eq_false (not_not_intro hW)))) <| hy (fun _ => y_pickF rfl rfl) <| hy (fun _ => y_move rfl) <| hyg (o := _) rfl rfl rfl (fun m => y_ldN rfl ag111 sz111 (mc_len hm) ((m.blk 1 rfl).cells0)) <| ?_
          refine hxg (o := _) rfl rfl rfl (xh_call rfl Tryd.call109 (mayC (by omega)) [] rfl [] rfl ?_)
          rintro _ _ _ ⟨rfl, rfl, rfl⟩
          refine hyg (o := _) rfl rfl rfl (fun _ => yF (y_notp rfl) ((decide_eq_false (not_not_intro hO)))) <| hy (fun _ => y_pickF rfl rfl) <| hend <| hsub (ρ' := [(31, _), (14, _), (8, _), (7, _), (6, _), (3, _), (0, _), (1, _), (2, _)]) ⟨rfl, rfl, rfl, rfl, rfl, rfl, rfl, rfl, rfl, trivial⟩ <| hmemQ (X' := [_, _, _, _]) (S' := [_]) (fun _ m => m) <| hthen <| ?_
          refine hiff rfl (rfl) ?_
          refine hcskip <| hthen <| hseq <| hreg <| hy (fun m => y_ldN rfl ag111 sz111 (mc_len hm) ((m.blk 1 rfl).cells0)) <| ?_
          refine hx0 (xh_stA 2 rfl rfl rfl sz111 (mc_len hm) (mc_one rfl) rfl ?_)
          refine hy (fun _ => y_assign rfl) <| hend <| hsub (ρ' := [(7, _), (31, _), (14, _), (8, _), (6, _), (3, _), (0, _), (1, _), (2, _)]) ⟨rfl, rfl, rfl, rfl, rfl, rfl, rfl, rfl, rfl, trivial⟩ <| hmemQ (X' := [_, _, _, _]) (S' := [_]) (fun _ m => m) <| hthen <| hret <| ?_
          exact hretN1 trivial rfl rfl rfl ag111 sz111 (mc_len hm) (fun m => (m.blk 0 rfl).cells0) [1] rfl [] rfl ⟨_, _, _, [], _, _, _, rfl, rfl, rfl, ⟨hm, rfl, .inl ⟨⟨h1, hW, (fun e => by cases e)⟩, rfl, rfl, rfl, rfl, rfl⟩⟩⟩
        · refine hcskip <| hthen <| hseq <| hseq <| hreg <| hy (fun _ => y_fld rfl fa111_0 (by decide)) <| hy (fun m => y_ld1 rfl ag3 (ld_blk (m.blk 3 rfl) rfl)) <| hy (fun _ => yF (y_neq rfl rfl) ((decide_eq_false (not_not_intro h1)))) <| hy (fun _ => y_move rfl) <| hyg (o := _) rfl rfl rfl (fun m => y_ldN rfl ag111 sz111 (mc_len hm) ((m.blk 3 rfl).cells0)) <| ?_
          refine hxg (o := _) rfl rfl rfl (xh_call rfl Tryd.call109 (mayC (by omega)) [] rfl [] rfl ?_)
          rintro _ _ _ ⟨rfl, rfl, rfl⟩
          refine hyg (o := _) rfl rfl rfl (fun _ => yF (y_notp rfl) ((decide_eq_false (not_not_intro hW)))) <| hy (fun _ => y_pickF rfl rfl) <| hy (fun _ => y_move rfl) <| hyg (o := _) rfl rfl rfl (fun m => y_ldN rfl ag111 sz111 (mc_len hm) ((m.blk 1 rfl).cells0)) <| ?_
          refine hxg (o := _) rfl rfl rfl (xh_call rfl Tryd.call109 (mayC (by omega)) [] rfl [] rfl ?_)
          rintro _ _ _ ⟨rfl, rfl, rfl⟩
          refine hyg (o := _) rfl rfl rfl (fun _ => yT (y_notp rfl) ((decide_eq_true hO))) <| hy (fun _ => y_pickF rfl rfl) <| hend <| hsub (ρ' := [(31, _), (14, _), (8, _), (7, _), (6, _), (3, _), (0, _), (1, _), (2, _)]) ⟨rfl, rfl, rfl, rfl, rfl, rfl, rfl, rfl, rfl, trivial⟩ <| hmemQ (X' := [_, _, _, _]) (S' := [_]) (fun _ m => m) <| hthen <| ?_
          refine hift rfl (rfl) ?_
          refine hseq <| hreg <| hy (fun _ => y_build0 ti111 rfl (by kernel_rfl)) <| ?_
          refine hx0 (xh_stA 2 rfl rfl rfl sz111 (mc_len z32) (mc_one (v := .slice none 0 0) rfl) rfl ?_)
          refine hy (fun _ => y_assign rfl) <| hend <| hsub (ρ' := [(7, _), (31, _), (14, _), (8, _), (6, _), (3, _), (0, _), (1, _), (2, _)]) ⟨rfl, rfl, rfl, rfl, rfl, rfl, rfl, rfl, rfl, trivial⟩ <| hmemQ (X' := [_, _, _, _]) (S' := [_]) (fun _ m => m) <| hthen <| hret <| hthen_ret <| ?_
          refine hmemQ (fun w m => m.addX (r' := ROwn 5 1 (.slice none 0 0) 0 []) (.refl _ _) (Own.nil _ _ _ _) (fun k hk => hk.elim)) ?_
          exact hretN1 trivial rfl rfl rfl ag111 sz111 (mc_len z32) (fun m => (m.blk 1 rfl).cells0) [0] rfl [] rfl ⟨_, _, _, [], _, _, _, rfl, rfl, rfl, ⟨z32, rfl, .inr ⟨(fun h => hO ((ans_may (has := false) h1 hW (fun _ => rfl)).2 (fun e => by cases e))), rfl, rfl, rfl, rfl, rfl⟩⟩⟩
      · refine hcskip <| hthen <| hseq <| hseq <| hreg <| hy (fun _ => y_fld rfl fa111_0 (by decide)) <| hy (fun m => y_ld1 rfl ag3 (ld_blk (m.blk 3 rfl) rfl)) <| hy (fun _ => yF (y_neq rfl rfl) ((decide_eq_false (not_not_intro h1)))) <| hy (fun _ => y_move rfl) <| hyg (o := _) rfl rfl rfl (fun m => y_ldN rfl ag111 sz111 (mc_len hm) ((m.blk 3 rfl).cells0)) <| ?_
        refine hxg (o := _) rfl rfl rfl (xh_call rfl Tryd.call109 (mayC (by omega)) [] rfl [] rfl ?_)
        rintro _ _ _ ⟨rfl, rfl, rfl⟩
        refine hyg (o := _) rfl rfl rfl (fun _ => yT (y_notp rfl) ((decide_eq_true hW))) <| hy (fun _ => y_pickF rfl rfl) <| hy (fun _ => y_move rfl) <| hskip rfl rfl rfl (by decide) <| hskip rfl rfl rfl (by decide) <| hskip rfl rfl rfl (by decide) <| hy (fun _ => y_pickT rfl rfl) <| hend <| hsub (ρ' := [(31, _), (14, _), (8, _), (7, _), (6, _), (3, _), (0, _), (1, _), (2, _)]) ⟨rfl, rfl, rfl, rfl, rfl, rfl, rfl, rfl, rfl, trivial⟩ <| hmemQ (X' := [_, _, _, _]) (S' := [_]) (fun _ m => m) <| hthen <| ?_
        refine hift rfl (rfl) ?_
        refine hseq <| hreg <| hy (fun _ => y_build0 ti111 rfl (by kernel_rfl)) <| ?_
        refine hx0 (xh_stA 2 rfl rfl rfl sz111 (mc_len z32) (mc_one (v := .slice none 0 0) rfl) rfl ?_)
        refine hy (fun _ => y_assign rfl) <| hend <| hsub (ρ' := [(7, _), (31, _), (14, _), (8, _), (6, _), (3, _), (0, _), (1, _), (2, _)]) ⟨rfl, rfl, rfl, rfl, rfl, rfl, rfl, rfl, rfl, trivial⟩ <| hmemQ (X' := [_, _, _, _]) (S' := [_]) (fun _ m => m) <| hthen <| hret <| hthen_ret <| ?_
        refine hmemQ (fun w m => m.addX (r' := ROwn 5 1 (.slice none 0 0) 0 []) (.refl _ _) (Own.nil _ _ _ _) (fun k hk => hk.elim)) ?_
        exact hretN1 trivial rfl rfl rfl ag111 sz111 (mc_len z32) (fun m => (m.blk 1 rfl).cells0) [0] rfl [] rfl ⟨_, _, _, [], _, _, _, rfl, rfl, rfl, ⟨z32, rfl, .inr ⟨(fun h => hW h.2.1), rfl, rfl, rfl, rfl, rfl⟩⟩⟩
    · refine hcskip <| hthen <| hseq <| hseq <| hreg <| hy (fun _ => y_fld rfl fa111_0 (by decide)) <| hy (fun m => y_ld1 rfl ag3 (ld_blk (m.blk 3 rfl) rfl)) <| hy (fun _ => yT (y_neq rfl rfl) ((decide_eq_true h1))) <| hy (fun _ => y_move rfl) <| hskip rfl rfl rfl (by decide) <| hskip rfl rfl rfl (by decide) <| hskip rfl rfl rfl (by decide) <| hy (fun _ => y_pickT rfl rfl) <| hy (fun _ => y_move rfl) <| hskip rfl rfl rfl (by decide) <| hskip rfl rfl rfl (by decide) <| hskip rfl rfl rfl (by decide) <| hy (fun _ => y_pickT rfl rfl) <| hend <| hsub (ρ' := [(31, _), (14, _), (8, _), (7, _), (6, _), (3, _), (0, _), (1, _), (2, _)]) ⟨rfl, rfl, rfl, rfl, rfl, rfl, rfl, rfl, rfl, trivial⟩ <| hthen <| ?_
      refine hift rfl (rfl) ?_
      refine hseq <| hreg <| hy (fun _ => y_build0 ti111 rfl (by kernel_rfl)) <| ?_
      refine hx0 (xh_stA 2 rfl rfl rfl sz111 (mc_len z32) (mc_one (v := .slice none 0 0) rfl) rfl ?_)
      refine hy (fun _ => y_assign rfl) <| hend <| hsub (ρ' := [(7, _), (31, _), (14, _), (8, _), (6, _), (3, _), (0, _), (1, _), (2, _)]) ⟨rfl, rfl, rfl, rfl, rfl, rfl, rfl, rfl, rfl, trivial⟩ <| hmemQ (X' := [_, _, _, _]) (S' := [_]) (fun _ m => m) <| hthen <| hret <| hthen_ret <| ?_
      refine hmemQ (fun w m => m.addX (r' := ROwn 5 1 (.slice none 0 0) 0 []) (.refl _ _) (Own.nil _ _ _ _) (fun k hk => hk.elim)) ?_
      exact hretN1 trivial rfl rfl rfl ag111 sz111 (mc_len z32) (fun m => (m.blk 1 rfl).cells0) [0] rfl [] rfl ⟨_, _, _, [], _, _, _, rfl, rfl, rfl, ⟨z32, rfl, .inr ⟨(fun h => h1 h.1), rfl, rfl, rfl, rfl, rfl⟩⟩⟩
  · refine hend <| hsub (ρ' := [(8, _), (7, _), (6, _), (3, _), (0, _), (1, _), (2, _)]) ⟨rfl, rfl, rfl, rfl, rfl, rfl, rfl, trivial⟩ <| hthen <| hseq <| hseq <| hreg <| hy (fun _ => y_move rfl) <| hend <| hthen <| ?_
    refine hift rfl (rfl) ?_
    refine hreg <| hy (fun _ => y_move rfl) <| ?_
    refine hx (xh_call rfl Tryd.call108 (cloneC (by omega)) [] rfl [0] rfl ?_)
    rintro _ _ _ ⟨v, rfl, rfl, rfl⟩
    refine hfactL (fun m => (m.own 0 rfl).slice) ?_
    rintro ⟨A_x, c_x, rfl, hc_x⟩
    refine hfactL (fun m => (m.ord 0 rfl).2.1) fun hA_x => ?_
    refine hy (fun _ => y_fld rfl fa111_0 (by decide)) <| ?_
    refine hx0 (xh_st1a 1 rfl rfl rfl sz3 rfl (by rw [mc_len hm]; decide) ?_)
    refine hmemL (fun w m => m.eqX 0 rfl (show _ = RBlk g8 111 (mc 2 s nm (.slice none 0 0)) from rfl)) ?_
    refine hy (fun _ => y_fld rfl fa111_3 (by decide)) <| ?_
    refine hx0 (xh_st1a 0 rfl rfl rfl sz32 rfl (by rw [mc_len hm]; decide) ?_)
    refine hmemL (fun w m => m.eqX 0 rfl (show _ = RBlk g8 111 (mc 2 s nm (.slice A_x nf c_x)) from congrArg (RBlk _ _) (mc_set hm))) ?_
    by_cases h1 : k = 1
    · by_cases hW : WMay k s n
      · by_cases hO : WMay 2 s nf
        · refine hend <| hsub (ρ' := [(14, _), (8, _), (7, _), (6, _), (3, _), (0, _), (1, _), (2, _)]) ⟨rfl, rfl, rfl, rfl, rfl, rfl, rfl, rfl, trivial⟩ <| hmemQ (X' := [_, _, _, _]) (S' := [_]) (fun _ m => m) <| hthen <| hseq <| hseq <| hreg <| hy (fun _ => y_fld rfl fa111_0 (by decide)) <| hy (fun m => y_ld1 rfl ag3 (ld_blk (m.blk 3 rfl) rfl)) <| hy (fun _ => yF (y_neq rfl rfl) ((decide_eq_false (not_not_intro h1)))) <| hy (fun _ => y_move rfl) <| hyg (o := _) rfl rfl rfl (fun m => y_ldN rfl ag111 sz111 (mc_len hm) ((m.blk 3 rfl).cells0)) <| ?_
          refine hxg (o := _) rfl rfl rfl (xh_call rfl Tryd.call109 (mayC (by omega)) [] rfl [] rfl ?_)
          rintro _ _ _ ⟨rfl, rfl, rfl⟩
          refine hyg (o := _) rfl rfl rfl (fun _ => yF (y_notp rfl) ((decide_eq_false (not_not_intro hW)))) <| hy (fun _ => y_pickF rfl rfl) <| hy (fun _ => y_move rfl) <| hyg (o := _) rfl rfl rfl (fun m => y_ldN rfl ag111 sz111 (mc_len hm) ((m.blk 0 rfl).cells0)) <| ?_
          refine hxg (o := _) rfl rfl rfl (xh_call rfl Tryd.call109 (mayC (by omega)) [] rfl [] rfl ?_)
          rintro _ _ _ ⟨rfl, rfl, rfl⟩
          refine hyg (o := _) rfl rfl rfl (fun _ => yF (y_notp rfl) ((decide_eq_false (not_not_intro hO)))) <| hy (fun _ => y_pickF rfl rfl) <| hend <| hsub (ρ' := [(31, _), (14, _), (8, _), (7, _), (6, _), (3, _), (0, _), (1, _), (2, _)]) ⟨rfl, rfl, rfl, rfl, rfl, rfl, rfl, rfl, rfl, trivial⟩ <| hmemQ (X' := [_, _, _, _]) (S' := [_]) (fun _ m => m) <| hthen <| ?_
          refine hiff rfl (rfl) ?_
          refine hcskip <| hthen <| hseq <| hreg <| hy (fun m => y_ldN rfl ag111 sz111 (mc_len hm) ((m.blk 0 rfl).cells0)) <| ?_
          refine hx0 (xh_stA 2 rfl rfl rfl sz111 (mc_len hm) (mc_one rfl) rfl ?_)
          refine hy (fun _ => y_assign rfl) <| hend <| hsub (ρ' := [(7, _), (31, _), (14, _), (8, _), (6, _), (3, _), (0, _), (1, _), (2, _)]) ⟨rfl, rfl, rfl, rfl, rfl, rfl, rfl, rfl, rfl, trivial⟩ <| hmemQ (X' := [_, _, _, _]) (S' := [_]) (fun _ m => m) <| hthen <| hret <| ?_
          exact hretN1 trivial rfl rfl rfl ag111 sz111 (mc_len hm) (fun m => (m.blk 0 rfl).cells0) [2] rfl [] rfl ⟨_, _, _, l, _, _, _, rfl, rfl, rfl, ⟨hm, hl_f, .inl ⟨⟨h1, hW, ((ans_may (has := true) h1 hW (fun e => by cases e)).1 hO)⟩, rfl, rfl, rfl, rfl, rfl⟩⟩⟩
        · refine hend <| hsub (ρ' := [(14, _), (8, _), (7, _), (6, _), (3, _), (0, _), (1, _), (2, _)]) ⟨rfl, rfl, rfl, rfl, rfl, rfl, rfl, rfl, trivial⟩ <| hthen <| hseq <| hseq <| hreg <| hy (fun _ => y_fld rfl fa111_0 (by decide)) <| hy (fun m => y_ld1 rfl ag3 (ld_blk (m.blk 3 rfl) rfl)) <| hy (fun _ => yF (y_neq rfl rfl) ((decide_eq_false (not_not_intro h1)))) <| hy (fun _ => y_move rfl) <| hyg (o := _) rfl rfl rfl (fun m => y_ldN rfl ag111 sz111 (mc_len hm) ((m.blk 3 rfl).cells0)) <| ?_
          refine hxg (o := _) rfl rfl rfl (xh_call rfl Tryd.call109 (mayC (by omega)) [] rfl [] rfl ?_)
          rintro _ _ _ ⟨rfl, rfl, rfl⟩
          refine hyg (o := _) rfl rfl rfl (fun _ => yF (y_notp rfl) ((decide_eq_false (not_not_intro hW)))) <| hy (fun _ => y_pickF rfl rfl) <| hy (fun _ => y_move rfl) <| hyg (o := _) rfl rfl rfl (fun m => y_ldN rfl ag111 sz111 (mc_len hm) ((m.blk 0 rfl).cells0)) <| ?_
          refine hxg (o := _) rfl rfl rfl (xh_call rfl Tryd.call109 (mayC (by omega)) [] rfl [] rfl ?_)
          rintro _ _ _ ⟨rfl, rfl, rfl⟩
          refine hyg (o := _) rfl rfl rfl (fun _ => yT (y_notp rfl) ((decide_eq_true hO))) <| hy (fun _ => y_pickF rfl rfl) <| hend <| hsub (ρ' := [(31, _), (14, _), (8, _), (7, _), (6, _), (3, _), (0, _), (1, _), (2, _)]) ⟨rfl, rfl, rfl, rfl, rfl, rfl, rfl, rfl, rfl, trivial⟩ <| hmemQ (X' := [_, _, _, _]) (S' := [_]) (fun _ m => m) <| hthen <| ?_
          refine hift rfl (rfl) ?_
          refine hseq <| hreg <| hy (fun _ => y_build0 ti111 rfl (by kernel_rfl)) <| ?_
          refine hx0 (xh_stA 2 rfl rfl rfl sz111 (mc_len z32) (mc_one (v := .slice none 0 0) rfl) rfl ?_)
          refine hy (fun _ => y_assign rfl) <| hend <| hsub (ρ' := [(7, _), (31, _), (14, _), (8, _), (6, _), (3, _), (0, _), (1, _), (2, _)]) ⟨rfl, rfl, rfl, rfl, rfl, rfl, rfl, rfl, rfl, trivial⟩ <| hmemQ (X' := [_, _, _, _]) (S' := [_]) (fun _ m => m) <| hthen <| hret <| hthen_ret <| ?_
          refine hmemQ (fun w m => m.addX (r' := ROwn 5 1 (.slice none 0 0) 0 []) (.refl _ _) (Own.nil _ _ _ _) (fun k hk => hk.elim)) ?_
          exact hretN1 trivial rfl rfl rfl ag111 sz111 (mc_len z32) (fun m => (m.blk 1 rfl).cells0) [0] rfl [] rfl ⟨_, _, _, [], _, _, _, rfl, rfl, rfl, ⟨z32, rfl, .inr ⟨(fun h => hO ((ans_may (has := true) h1 hW (fun e => by cases e)).2 h.2.2)), rfl, rfl, rfl, rfl, rfl⟩⟩⟩
      · refine hend <| hsub (ρ' := [(14, _), (8, _), (7, _), (6, _), (3, _), (0, _), (1, _), (2, _)]) ⟨rfl, rfl, rfl, rfl, rfl, rfl, rfl, rfl, trivial⟩ <| hthen <| hseq <| hseq <| hreg <| hy (fun _ => y_fld rfl fa111_0 (by decide)) <| hy (fun m => y_ld1 rfl ag3 (ld_blk (m.blk 3 rfl) rfl)) <| hy (fun _ => yF (y_neq rfl rfl) ((decide_eq_false (not_not_intro h1)))) <| hy (fun _ => y_move rfl) <| hyg (o := _) rfl rfl rfl (fun m => y_ldN rfl ag111 sz111 (mc_len hm) ((m.blk 3 rfl).cells0)) <| ?_
        refine hxg (o := _) rfl rfl rfl (xh_call rfl Tryd.call109 (mayC (by omega)) [] rfl [] rfl ?_)
        rintro _ _ _ ⟨rfl, rfl, rfl⟩
        refine hyg (o := _) rfl rfl rfl (fun _ => yT (y_notp rfl) ((decide_eq_true hW))) <| hy (fun _ => y_pickF rfl rfl) <| hy (fun _ => y_move rfl) <| hskip rfl rfl rfl (by decide) <| hskip rfl rfl rfl (by decide) <| hskip rfl rfl rfl (by decide) <| hy (fun _ => y_pickT rfl rfl) <| hend <| hsub (ρ' := [(31, _), (14, _), (8, _), (7, _), (6, _), (3, _), (0, _), (1, _), (2, _)]) ⟨rfl, rfl, rfl, rfl, rfl, rfl, rfl, rfl, rfl, trivial⟩ <| hmemQ (X' := [_, _, _, _]) (S' := [_]) (fun _ m => m) <| hthen <| ?_
        refine hift rfl (rfl) ?_
        refine hseq <| hreg <| hy (fun _ => y_build0 ti111 rfl (by kernel_rfl)) <| ?_
        refine hx0 (xh_stA 2 rfl rfl rfl sz111 (mc_len z32) (mc_one (v := .slice none 0 0) rfl) rfl ?_)
        refine hy (fun _ => y_assign rfl) <| hend <| hsub (ρ' := [(7, _), (31, _), (14, _), (8, _), (6, _), (3, _), (0, _), (1, _), (2, _)]) ⟨rfl, rfl, rfl, rfl, rfl, rfl, rfl, rfl, rfl, trivial⟩ <| hmemQ (X' := [_, _, _, _]) (S' := [_]) (fun _ m => m) <| hthen <| hret <| hthen_ret <| ?_
        refine hmemQ (fun w m => m.addX (r' := ROwn 5 1 (.slice none 0 0) 0 []) (.refl _ _) (Own.nil _ _ _ _) (fun k hk => hk.elim)) ?_
        exact hretN1 trivial rfl rfl rfl ag111 sz111 (mc_len z32) (fun m => (m.blk 1 rfl).cells0) [0] rfl [] rfl ⟨_, _, _, [], _, _, _, rfl, rfl, rfl, ⟨z32, rfl, .inr ⟨(fun h => hW h.2.1), rfl, rfl, rfl, rfl, rfl⟩⟩⟩
    · refine hend <| hsub (ρ' := [(14, _), (8, _), (7, _), (6, _), (3, _), (0, _), (1, _), (2, _)]) ⟨rfl, rfl, rfl, rfl, rfl, rfl, rfl, rfl, trivial⟩ <| hthen <| hseq <| hseq <| hreg <| hy (fun _ => y_fld rfl fa111_0 (by decide)) <| hy (fun m => y_ld1 rfl ag3 (ld_blk (m.blk 3 rfl) rfl)) <| hy (fun _ => yT (y_neq rfl rfl) ((decide_eq_true h1))) <| hy (fun _ => y_move rfl) <| hskip rfl rfl rfl (by decide) <| hskip rfl rfl rfl (by decide) <| hskip rfl rfl rfl (by decide) <| hy (fun _ => y_pickT rfl rfl) <| hy (fun _ => y_move rfl) <| hskip rfl rfl rfl (by decide) <| hskip rfl rfl rfl (by decide) <| hskip rfl rfl rfl (by decide) <| hy (fun _ => y_pickT rfl rfl) <| hend <| hsub (ρ' := [(31, _), (14, _), (8, _), (7, _), (6, _), (3, _), (0, _), (1, _), (2, _)]) ⟨rfl, rfl, rfl, rfl, rfl, rfl, rfl, rfl, rfl, trivial⟩ <| hthen <| ?_
      refine hift rfl (rfl) ?_
      refine hseq <| hreg <| hy (fun _ => y_build0 ti111 rfl (by kernel_rfl)) <| ?_
      refine hx0 (xh_stA 2 rfl rfl rfl sz111 (mc_len z32) (mc_one (v := .slice none 0 0) rfl) rfl ?_)
      refine hy (fun _ => y_assign rfl) <| hend <| hsub (ρ' := [(7, _), (31, _), (14, _), (8, _), (6, _), (3, _), (0, _), (1, _), (2, _)]) ⟨rfl, rfl, rfl, rfl, rfl, rfl, rfl, rfl, rfl, trivial⟩ <| hmemQ (X' := [_, _, _, _]) (S' := [_]) (fun _ m => m) <| hthen <| hret <| hthen_ret <| ?_
      refine hmemQ (fun w m => m.addX (r' := ROwn 5 1 (.slice none 0 0) 0 []) (.refl _ _) (Own.nil _ _ _ _) (fun k hk => hk.elim)) ?_
      exact hretN1 trivial rfl rfl rfl ag111 sz111 (mc_len z32) (fun m => (m.blk 1 rfl).cells0) [0] rfl [] rfl ⟨_, _, _, [], _, _, _, rfl, rfl, rfl, ⟨z32, rfl, .inr ⟨(fun h => h1 h.1), rfl, rfl, rfl, rfl, rfl⟩⟩⟩
theorem shr8_div (s : Nat) : ∀ i, shr8 i s = s / 256 ^ i
  | 0 => by simp [shr8]
  | i + 1 => by rw [shr8, shr8_div s i, Nat.div_div_eq_div_mul, Nat.pow_succ]
theorem pow8 {i : Nat} (h : i < 4) : (2 : Int) ^ ((8 * (i : Int)).toNat) = ((256 ^ i : Nat) : Int) := by
  match i, h with
  | 0, _ => rfl
  | 1, _ => rfl
  | 2, _ => rfl
  | 3, _ => rfl
theorem byte_at (s i : Nat) : IntKind.u8.wrap ((s : Int) / ((256 ^ i : Nat) : Int)) = ((UInt8.ofNat (shr8 i s)).toNat : Int) := by
  rw [shr8_div, ← u8mod]; rfl
def wpre (k s n i : Nat) : List UInt8 := [UInt8.ofNat k] ++ lek i s ++ List.replicate (36 + n - i) 0
theorem lek_length (i s : Nat) : (lek i s).length = i := by simp [lek]
theorem wpre_len {k s n i : Nat} (h : i ≤ 36) : (wpre k s n i).length = 37 + n := by simp [wpre, lek_length]; omega
theorem wpre_zero (k s n : Nat) : (List.replicate (37 + n) (0 : UInt8)).set 0 (UInt8.ofNat k) = wpre k s n 0 := by
  rw [show 37 + n = (36 + n) + 1 by omega, List.replicate_succ]
  simp [wpre, lek]
theorem wpre_set {k s n i : Nat} (h : i < 4) : (wpre k s n i).set (i + 1) (UInt8.ofNat (shr8 i s)) = wpre k s n (i + 1) := by
  have hl : ([UInt8.ofNat k] ++ lek i s).length = i + 1 := by simp [lek_length]
  unfold wpre
  rw [lek_succ, List.set_append, if_neg (by omega), hl, Nat.sub_self, show 36 + n - i = (36 + n - (i + 1)) + 1 by omega, List.replicate_succ, List.set_cons_zero]
  simp
theorem splice_b8s (a v : List UInt8) (o : Nat) : splice (b8s a) o (b8s v) = b8s (a.take o ++ v ++ a.drop (o + v.length)) := by
  simp [splice, b8s]
theorem wsp1 {k s n : Nat} {nm : List UInt8} (h : nm.length = 32) : splice (b8s (wpre k s n 4)) 5 (b8s nm) = b8s ([UInt8.ofNat k] ++ le4 s ++ nm ++ List.replicate n 0) := by
  have hl : ([UInt8.ofNat k] ++ le4 s).length = 5 := rfl
  rw [splice_b8s, h, wpre, lek_four, List.take_append_of_le_length (by omega), List.take_of_length_le (by omega), List.drop_append, hl, List.drop_of_length_le (by omega), List.nil_append, List.drop_replicate, show 36 + n - 4 - (5 + 32 - 5) = n by omega]
theorem wsp2 {k s n : Nat} {nm l : List UInt8} (h : nm.length = 32) (hl : l.length = n) : splice (b8s ([UInt8.ofNat k] ++ le4 s ++ nm ++ List.replicate n 0)) (if n = 0 then 0 else 37) (b8s l) = b8s (wbody k s nm l) := by
  have h5 : ([UInt8.ofNat k] ++ le4 s ++ nm).length = 37 := by simp [le4_length, h]
  rw [splice_b8s, wbody]
  by_cases hn : n = 0
  · subst hn
    obtain rfl : l = [] := List.eq_nil_of_length_eq_zero hl
    simp
  · rw [if_neg hn, List.take_append_of_le_length (by omega), List.take_of_length_le (by omega), List.drop_append, h5, List.drop_of_length_le (by omega), List.drop_replicate, show n - (37 + l.length - 37) = 0 by omega]
    simp
theorem wwriteC {k s : Nat} {nm : List UInt8} {A : Option Addr} {n c : Nat} {l : List UInt8} (hm : nm.length = 32) (hn : n ≤ c) (hM : WMay k s n) : Con Tryd.prog 104 [.agg (mc k s nm (.slice A n c)).toArray] [] [RRd 1 A n (b8s l)] (fun v_ X_ S_ => ∃ v, v_ = (.tuple #[v, .int .i64 0]) ∧ X_ = [ROwn 5 1 v (37 + n + 4) (b8s (putL (wbody k s nm l)))] ∧ S_ = []) := by
  have hM2 := hM
  unfold WMay at hM2
  refine henter (N := 45) Tryd.func104 rfl rfl (by simp) fun b => ?_
  refine hfactC (fun m => rdB (m.rd 0 rfl)) ?_
  rintro ⟨hl_r, hA_r⟩
  refine hseq <| hreg <| ?_
  refine hx (xh_box rfl (fun g1 => ?_))
  refine hmemL (fun w m => m.eqX 0 rfl (show _ = RBlk g1 111 (mc k s nm (.slice A n c)) from congrArg (RBlk _ _) (cells_agg _))) ?_
  refine hy (fun _ => y_assign rfl) <| hy (fun _ => y_assign rfl) <| hend <| hmemQ (X' := [_]) (S' := [_]) (fun _ m => m) <| hthen <| hseq <| hseq <| hreg <| hy (fun m => y_ldN rfl ag111 sz111 (mc_len hm) ((m.blk 0 rfl).cells0)) <| ?_
  refine hx (xh_call rfl Tryd.call109 (mayC (by omega)) [] rfl [] rfl ?_)
  rintro _ _ _ ⟨rfl, rfl, rfl⟩
  refine hy (fun _ => y_notp rfl) <| hend <| hsub (ρ' := [(8, _), (3, _), (2, _), (1, _), (0, _)]) ⟨rfl, rfl, rfl, rfl, rfl, trivial⟩ <| hmemQ (X' := [_]) (S' := [_]) (fun _ m => m) <| hthen <| ?_
  refine hiff rfl ((decide_eq_false (not_not_intro hM))) ?_
  refine hcskip <| hthen <| hseq <| hreg <| hy (fun _ => y_fld rfl fa111_3 (by decide)) <| hy (fun m => y_ld1 rfl ag32 (mc_v (m.blk 0 rfl) hm)) <| hy (fun _ => y_lenS rfl Tryd.underlying32) <| hy (fun _ => yV (y_add rfl rfl (w64 (by omega) (by omega))) ((show Value.int .i64 (37 + (n : Int)) = .int .i64 ((37 + n : Nat) : Int) by congr 1))) <| ?_
  refine hx (xh_mksl Tryd.underlying32 ti5 rfl rfl rfl (by omega) (by omega) (fun g13 => ?_))
  have hA_b13 : ∀ {n : Nat}, 0 < n → (some (⟨g13, 0, none⟩ : Addr)) ≠ none := fun _ h => by cases h
  refine hmemL (fun w m => m.eqX 0 rfl (show _ = RBlk g13 5 (b8s (List.replicate (37 + n) 0)) from congrArg (RBlk _ _) (by simp [b8s, B8]))) ?_
  refine hy (fun _ => y_assign rfl) <| hend <| hsub (ρ' := [(4, _), (8, _), (3, _), (2, _), (1, _), (0, _)]) ⟨rfl, rfl, rfl, rfl, rfl, rfl, trivial⟩ <| hmemQ (X' := [_, _]) (S' := [_]) (fun _ m => m) <| hthen <| hseq <| hreg <| hy (fun _ => y_move rfl) <| hy (fun _ => y_fld rfl fa111_0 (by decide)) <| hy (fun m => y_ld1 rfl ag3 (ld_blk (m.blk 1 rfl) rfl)) <| hy (fun _ => yV (y_conv rfl Tryd.underlying3 Tryd.underlying5 (u8mod k)) ((rfl : Value.int .u8 _ = B8 (UInt8.ofNat k)))) <| hy (fun _ => y_idxS1 rfl rfl Tryd.underlying32 sz5 hA_b13 (show ((0 : Nat) : Int) = 0 from rfl) (by omega)) <| ?_
  refine hx0 (xh_st1a 0 rfl rfl rfl sz5 rfl (by rw [b8s_length, List.length_replicate]; omega) ?_)
  refine hmemL (fun w m => m.eqX 0 rfl (show _ = RBlk g13 5 (b8s (wpre k s n 0)) from congrArg (RBlk _ _) ((b8s_set _ _ _).symm.trans (congrArg b8s (wpre_zero k s n))))) ?_
  refine hend <| hsub (ρ' := [(4, _), (8, _), (3, _), (2, _), (1, _), (0, _)]) ⟨rfl, rfl, rfl, rfl, rfl, rfl, trivial⟩ <| hmemQ (X' := [_, _]) (S' := [_]) (fun _ m => m) <| hthen <| hseq <| hseq <| hreg <| hy (fun _ => y_move rfl) <| hend <| hthen <| hblock <| ?_
  refine hloop1 (fun i => 4 - i) (fun i => [(19, .int .i64 (i : Nat))]) (fun i => [RBlk g13 5 (b8s (wpre k s n i))]) (fun i => []) (fun i => i ≤ 4) 0 [(4, _), (8, _), (3, _), (2, _), (1, _), (0, _)] ⟨rfl, rfl, rfl, rfl, rfl, rfl, trivial⟩ [0] rfl [] rfl (Nat.zero_le _) ⟨rfl, trivial⟩ (fun i hI => ?_)
  refine hseq <| hreg <| hy (fun _ => y_lss rfl rfl) <| hend <| hthen <| hseq <| ?_
  refine hif rfl (fun hi => ?_) (fun hi => ?_)
  · have hi4 : i < 4 := by omega
    refine hcskip <| hthen <| hseq <| hblock <| hseq <| hreg <| hy (fun _ => y_move rfl) <| hy (fun _ => y_assign rfl) <| hend <| hsub (ρ' := [(5, _), (20, _), (19, _), (4, _), (8, _), (3, _), (2, _), (1, _), (0, _)]) ⟨rfl, rfl, rfl, rfl, rfl, rfl, rfl, rfl, rfl, trivial⟩ <| hthen <| hreg <| hy (fun _ => y_move rfl) <| hy (fun _ => y_move rfl) <| hy (fun _ => y_add rfl rfl (w64 (by omega) (by omega))) <| hy (fun _ => y_fld rfl fa111_1 (by decide)) <| hy (fun m => y_ld1 rfl ag3 (ld_blk (m.blk 1 rfl) rfl)) <| hy (fun _ => y_move rfl) <| hy (fun _ => y_mul rfl rfl (w64 (by omega) (by omega))) <| hy (fun _ => y_shr rfl rfl (by omega) (by simp [IntKind.bits]; omega) (pow8 hi4)) <| hy (fun _ => yV (y_conv rfl Tryd.underlying3 Tryd.underlying5 (byte_at s i)) ((rfl : Value.int .u8 _ = B8 (UInt8.ofNat (shr8 i s))))) <| ?_
    refine hy (fun _ => y_idxS1 rfl rfl Tryd.underlying32 sz5 hA_b13 (show ((i + 1 : Nat) : Int) = _ by omega) (by omega)) <| ?_
    refine hx0 (xh_st1a 0 rfl rfl rfl sz5 rfl (by rw [b8s_length, wpre_len (by omega)]; omega) ?_)
    refine hmemL (fun w m => m.eqX 0 rfl (show _ = RBlk g13 5 (b8s (wpre k s n (i + 1))) from congrArg (RBlk _ _) (show (b8s (wpre k s n i)).set (0 + (i + 1)) (B8 (UInt8.ofNat (shr8 i s))) = _ by rw [Nat.zero_add, ← b8s_set, wpre_set hi4]))) ?_
    refine hend <| hsub (ρ' := [(5, _), (20, _), (19, _), (4, _), (8, _), (3, _), (2, _), (1, _), (0, _)]) ⟨rfl, rfl, rfl, rfl, rfl, rfl, rfl, rfl, rfl, trivial⟩ <| hmemQ (X' := [_, _]) (S' := [_]) (fun _ m => m) <| hqblock <| hthen <| hreg <| hy (fun _ => y_add rfl rfl (w64 (by omega) (by omega))) <| hy (fun _ => y_move rfl) <| hend <| hsub (ρ' := [(19, _), (5, _), (20, _), (4, _), (8, _), (3, _), (2, _), (1, _), (0, _)]) ⟨rfl, rfl, rfl, rfl, rfl, rfl, rfl, rfl, rfl, trivial⟩ <| ?_
    refine hnext1 (i + 1) ⟨rfl, rfl, rfl, rfl, rfl, rfl, rfl, trivial⟩ [0, 0] rfl [0] rfl (by omega) (by omega)
  · obtain rfl : i = 4 := by omega
    refine hexit <| hthen_exit <| hthen_exit <| hqblock_exit <| hthen <| hseq <| hdrw [4] [(0, some 0), (1, some 0), (2, some 0), (3, some 0), (4, none)] (by kernel_rfl) (by kernel_rfl) rfl 0 <| htyU (y_move rfl) <| htyU (yV (y_slFrom rfl rfl Tryd.underlying32 sz5 (show ((5 : Nat) : Int) = 5 from rfl) (by omega)) ((show Value.slice (if 37 + n = 5 then some ⟨g13, 0, none⟩ else (some (⟨g13, 0, none⟩ : Addr)).map (·.add (5 * 1))) (37 + n - 5) (37 + n - 5) = .slice (some ⟨g13, 5, none⟩) (32 + n) (32 + n) by rw [if_neg (by omega), show 37 + n - 5 = 32 + n by omega]; rfl))) <| htyU (y_fld rfl fa111_2 (by decide)) <| htyU (y_slArr rfl Tryd.underlying23 sz5) <| ?_
    refine htx (xh_copy 0 rfl rfl rfl Tryd.underlying32 sz5 (fun m => ⟨(by rw [b8s_length]; omega), (fun _ h => by cases h), mc_nm (m.blk 1 rfl)⟩) (show 32 = min 32 (32 + n) by omega) (by rw [b8s_length, wpre_len (by omega)]; omega) b8s_oneCell ⟨(fun h => absurd h (by decide)), ?_⟩)
    refine htmem (fun w m => m.eqX 0 rfl (show _ = RBlk g13 5 (b8s ([UInt8.ofNat k] ++ le4 s ++ nm ++ List.replicate n 0)) from congrArg (RBlk _ _) (wsp1 hm))) ?_
    refine htend <| hsub (ρ' := [(20, _), (19, _), (4, _), (8, _), (3, _), (2, _), (1, _), (0, _)]) ⟨rfl, rfl, rfl, rfl, rfl, rfl, rfl, rfl, trivial⟩ <| hmemQ (X' := [_, _]) (S' := [_]) (fun _ m => m) <| hthen <| hseq <| hdrw [4] [(0, some 0), (1, some 0), (2, some 0), (3, some 0), (4, none)] (by kernel_rfl) (by kernel_rfl) rfl 0 <| htyU (y_move rfl) <| htyU (yV (y_slFrom rfl rfl Tryd.underlying32 sz5 (show ((37 : Nat) : Int) = 37 from rfl) (by omega)) ((show Value.slice (if 37 + n = 37 then some ⟨g13, 0, none⟩ else (some (⟨g13, 0, none⟩ : Addr)).map (·.add (37 * 1))) (37 + n - 37) (37 + n - 37) = .slice (some ⟨g13, if n = 0 then 0 else 37, none⟩) n n by rw [show 37 + n - 37 = n by omega]; by_cases h0 : n = 0 <;> simp [h0] <;> rfl))) <| htyU (y_fld rfl fa111_3 (by decide)) <| hty (fun m => y_ld1 rfl ag32 (mc_v (m.blk 1 rfl) hm)) <| ?_
    refine htx (xh_copy 0 rfl rfl rfl Tryd.underlying32 sz5 (fun m => (m.rd 0 rfl)) (show n = min n n by omega) (by simp [b8s_length, le4_length, hm]; split <;> omega) b8s_oneCell ⟨(fun h => absurd h (by decide)), ?_⟩)
    refine htmem (fun w m => m.eqX 0 rfl (show _ = RBlk g13 5 (b8s (wbody k s nm l)) from congrArg (RBlk _ _) (wsp2 hm hl_r))) ?_
    refine htend <| hsub (ρ' := [(20, _), (19, _), (4, _), (8, _), (3, _), (2, _), (1, _), (0, _)]) ⟨rfl, rfl, rfl, rfl, rfl, rfl, rfl, rfl, trivial⟩ <| hmemQ (X' := [_, _]) (S' := [_]) (fun _ m => m) <| hthen <| hseq <| hreg <| hy (fun _ => y_move rfl) <| ?_
    refine hx (xh_calll rfl Tryd.call62 (crcPutC (by omega)) [] rfl (.x 0 rfl (.blk (by rw [b8s_length, wbody_len hm, hl_r]; omega)) .nil) ?_)
    rintro _ _ _ ⟨v, rfl, rfl, rfl⟩
    refine ⟨rfl, ?_⟩
    refine hfactL (fun m => (m.own 0 rfl).slice) ?_
    rintro ⟨A_x, c_x, rfl, hc_x⟩
    refine hfactL (fun m => (m.ord 0 rfl).2.1) fun hA_x => ?_
    refine hy (fun _ => y_assign rfl) <| hy (fun _ => y_assign rfl) <| hend <| hsub (ρ' := [(3, _), (2, _), (20, _), (19, _), (4, _), (8, _), (1, _), (0, _)]) ⟨rfl, rfl, rfl, rfl, rfl, rfl, rfl, rfl, trivial⟩ <| hmemQ (X' := [_, _, _]) (S' := [_]) (fun _ m => m) <| hthen <| hret <| ?_
    exact hret2 trivial rfl rfl rfl [0] rfl [] rfl ⟨_, rfl, rfl, rfl⟩
end Go.Proofs.YtfikjheicjamhaaDoor
end
section
/- The library's locks under this seat's numbers. -/
namespace Go.Proofs.YtfikjheicjamhaaDoor
abbrev muLink : Go.Conc.Locks.MuLink := { lock := 100, unlock := 101, ilock := 140, iunlock := 141, lockSlow := 163, unlockSlow := 166, disable := 159, enable := 161, acquire := 162, relMerge := 164, cas32 := 160, add32 := 165, tMutex := 163, tIMutex := 161, tPMutex := 208, tPIMutex := 242, tPI32 := 244, tUP := 246, tNoCopy := 159, tU32 := 120 }
theorem muLib : Go.Conc.Locks.MuLib Tryd.prog muLink := by
  constructor <;> first | kernel_rfl | (intro _; kernel_rfl)
end Go.Proofs.YtfikjheicjamhaaDoor
end
section
/- Contracts: who has all (server). -/
set_option linter.unusedVariables false
set_option linter.unusedSimpArgs false
set_option maxRecDepth 20000
namespace Go.Proofs.YtfikjheicjamhaaDoor
open Go.Eng Go.Hx
abbrev Frames := List (Dg × BRow)
def frs (l : Frames) : List (Dg × Value) := l.map fun x => (x.1, x.2.val)
theorem frs_get : ∀ (l : Frames) (p : Dg), aget (frs l) p = (aget l p).map BRow.val
  | [], p => rfl
  | (k, r) :: q, p => by
    have := frs_get q p
    simp only [frs, List.map_cons, aget] at this ⊢
    split <;> simp_all
def scells (k : Int) (gm : Nat) : List Value := [.int .i32 k, .int .u32 0, .map (some gm)]
abbrev RSrv (g gm : Nat) (l : Frames) : Res := RPack [RBlk g 165 (scells 0 gm), RMap DK gm (frs l), RRows (l.map (·.2))]
theorem ti165 : TI Tryd.prog 165 (.agg [.int .i32 0, .int .u32 0, .map none].toArray) 3 16 := by unfold TI; kernel_rfl
theorem fa165_0 : faB Tryd.prog 165 0 = some (0, 2, 163) := by kernel_rfl
theorem fa165_1 : faB Tryd.prog 165 1 = some (2, 1, 157) := by kernel_rfl
theorem newSrvC  : Con Tryd.prog 43 [] [] [] (fun v_ X_ S_ => ∃ g gm, v_ = (.pointer (some ⟨g, 0, none⟩)) ∧ X_ = [RSrv g gm []] ∧ S_ = []) := by
  refine henter (N := 4) Tryd.func43 rfl rfl (by simp) fun b => ?_
  refine hseq <| hreg <| hy (fun _ => y_assign rfl) <| hend <| hthen <| hseq <| hreg <| ?_
  refine hx (xh_mkmap DK (fun g1 => ?_))
  refine hy (fun _ => yV (y_build ti165 rfl rfl (by kernel_rfl) (.cons (o := 2) (sz := 1) (by kernel_rfl) rfl rfl (Nat.le_of_ble_eq_true rfl) .nil)) ((rfl : _ = Value.agg (scells 0 g1).toArray))) <| ?_
  refine hx (xh_box rfl (fun g3 => ?_))
  refine hy (fun _ => y_assign rfl) <| hend <| hsub (ρ' := [(0, _)]) ⟨rfl, trivial⟩ <| hmemQ (X' := [_, _]) (S' := []) (fun _ m => m) <| hthen <| hret <| ?_
  refine hmemQ (fun w m => m.noRows) ?_
  refine hmemQ (X' := RSrv g3 g1 [] :: _) (fun w m => (m.perm (takeR_perm [1, 1, 0] _ [_, _, _] _ rfl)).pack) ?_
  exact hret1 trivial rfl rfl [0] rfl [] rfl ⟨_, _, rfl, rfl, rfl⟩
theorem muLockC {g gm : Nat} : Con Tryd.prog 100 [.pointer (some ⟨g, 0, none⟩)] [RBlk g 165 (scells 0 gm)] [] (fun v_ X_ S_ => v_ = (.tuple #[]) ∧ X_ = [RBlk g 165 (scells 1 gm)] ∧ S_ = []) := by
  exact lockC muLib rfl
theorem sgetC {g gm : Nat} {l : Frames} {nm : Dg} : Con Tryd.prog 102 [.pointer (some ⟨g, 0, none⟩), DK nm] [RSrv g gm l] [] (fun v_ X_ S_ => v_ = (.tuple #[((aget l nm).map BRow.val).getD (.slice none 0 0), .bool (aget l nm).isSome]) ∧ X_ = [RSrv g gm l] ∧ S_ = []) := by
  refine henterD (N := 26) Tryd.func102 rfl rfl (by simp) fun b => ?_
  refine hmemC (fun w m => (m.perm (takeR_perm [0] _ [_] _ rfl)).unpack) ?_
  refine hseq <| hreg <| ?_
  refine hx (xh_box rfl (fun g3 => ?_))
  refine hy (fun _ => y_assign rfl) <| hy (fun _ => y_assign rfl) <| hend <| hmemQ (X' := [_, _, _, _]) (S' := []) (fun _ m => m) <| hthen <| hseq <| hreg <| hy (fun _ => y_move rfl) <| hy (fun _ => y_nilp rfl) <| hy (fun _ => y_fld rfl fa165_0 (by decide)) <| ?_
  refine hx (xh_call rfl Tryd.call100 (muLockC) [1] rfl [] rfl ?_)
  rintro _ _ _ ⟨rfl, rfl, rfl⟩
  refine hmemL (fun w m => m.eqX 1 rfl (show _ = RBlk g3 23 (b8s nm.1) from congrArg (RBlk _ _) (cells_agg _))) ?_
  refine hend <| hsub (ρ' := [(5, _), (4, _), (3, _), (0, _), (1, _)]) ⟨rfl, rfl, rfl, rfl, rfl, trivial⟩ <| hmemQ (X' := [_, _, _, _]) (S' := []) (fun _ m => m) <| hthen <| hseq <| hreg <| hy (fun _ => y_move rfl) <| hy (fun _ => y_nilp rfl) <| hy (fun _ => y_fld rfl fa165_0 (by decide)) <| hdefer rfl <| hend <| hsub (ρ' := [(5, _), (4, _), (3, _), (0, _), (1, _)]) ⟨rfl, rfl, rfl, rfl, rfl, trivial⟩ <| hthen <| hseq <| hdrw [] [(0, some 0), (1, some 0), (2, some 0), (3, some 0), (4, some 0), (5, some 0), (6, some 0), (7, some 0), (8, some 0), (9, some 0), (10, some 0)] (by kernel_rfl) (by kernel_rfl) rfl 99 <| htyU (y_move rfl) <| htyU (y_nilp rfl) <| htyU (y_fld rfl fa165_1 (by decide)) <| hty (fun m => y_ld1 rfl ag157 (ld_blk (m.blk 1 rfl) rfl)) <| hty (fun m => yV (y_ldN rfl ag23 sz23 (by rw [b8s_length]; exact nm.2) ((m.blk 0 rfl).cells0)) ((rfl : Value.agg _ = DK nm))) <| hty (fun m => y_lookM (enc := DK) (k := nm) rfl rfl Tryd.underlying157 ti32 (digKey rfl Tryd.underlying23 Tryd.underlying5 (by kernel_rfl) (by kernel_rfl) (by kernel_rfl)) (m.mapX 2 rfl)) <| htyU (y_move rfl) <| htyU (y_extract rfl rfl) <| htyU (y_extract rfl rfl) <| htyU (y_assign rfl) <| htyU (y_assign rfl) <| htend <| hsub (ρ' := [(7, _), (6, _), (5, _), (4, _), (3, _), (0, _), (1, _)]) ⟨rfl, rfl, rfl, rfl, rfl, rfl, rfl, trivial⟩ <| hthen <| hseq <| hreg <| hy (fun _ => y_move rfl) <| hy (fun _ => y_move rfl) <| hy (fun _ => y_assign rfl) <| hy (fun _ => y_assign rfl) <| hend <| hsub (ρ' := [(5, _), (4, _), (7, _), (6, _), (3, _), (0, _), (1, _)]) ⟨rfl, rfl, rfl, rfl, rfl, rfl, rfl, trivial⟩ <| hthen <| hret <| ?_
  rw [frs_get, Option.isSome_map]
  refine hleave trivial ?_
  refine hunlock muLib 1 rfl rfl Tryd.call101 ?_
  refine hmemE (fun w m => m.eqX 0 rfl (show _ = RBlk g 165 (scells 0 gm) from rfl)) ?_
  refine hmemE (X' := RSrv g gm l :: _) (fun w m => (m.perm (takeR_perm [0, 1, 1] _ [_, _, _] _ rfl)).pack) ?_
  exact hlast2 rfl rfl rfl [0] rfl [] rfl ⟨rfl, rfl, rfl⟩
/-- the frame of a name -/
def getF (fr : Frames) (nm : List UInt8) : Option BRow := (fr.find? (fun x => decide (x.1.1 = nm))).map (·.2)
theorem getF_eq : ∀ (fr : Frames) (nm : Dg), aget fr nm = getF fr nm.1
  | [], _ => rfl
  | (k, v) :: q, nm => by
    have := getF_eq q nm
    unfold getF at this ⊢
    simp only [aget, List.find?_cons]
    by_cases h : k = nm
    · subst h; simp
    · rw [if_neg h, this]
      have : ¬ k.1 = nm.1 := fun e => h (Subtype.ext e)
      simp [this]
theorem getF_mem {fr : Frames} {nm : List UInt8} {r : BRow} (h : getF fr nm = some r) : ∃ x ∈ fr, x.2 = r := by
  unfold getF at h
  cases hf : fr.find? (fun x => decide (x.1.1 = nm)) with
  | none => rw [hf] at h; cases h
  | some x =>
    rw [hf] at h
    exact ⟨x, List.mem_of_find?_eq_some hf, Option.some.inj h⟩
theorem getF_row {fr : Frames} {nm : List UInt8} {r : BRow} (h : getF fr nm = some r) : ∃ i : Nat, (fr.map (·.2))[i]? = some r := by
  unfold getF at h
  cases hf : fr.find? (fun x => decide (x.1.1 = nm)) with
  | none => rw [hf] at h; cases h
  | some x =>
    rw [hf] at h
    have hm : x.2 ∈ fr.map (·.2) := List.mem_map.2 ⟨x, List.mem_of_find?_eq_some hf, rfl⟩
    obtain ⟨i, hi⟩ := List.mem_iff_getElem?.1 hm
    exact ⟨i, by rw [hi]; exact h⟩
def FrOk (fr : Frames) : Prop := ∀ x ∈ fr, x.2.n ≤ 1000000 ∧ x.2.l.length = x.2.n
def nmOf (B : List UInt8) : List UInt8 := (B.drop 5).take 32
def AskOk (fr : Frames) (l : List UInt8) : Prop := takeE l = 0 ∧ OkW (takeB l) ∧ wkd (takeB l) = 1 ∧ ∀ r, getF fr (nmOf (takeB l)) = some r → r.n ≤ 4106
def SaysS (fr : Frames) (l : List UInt8) (is : Bool) (body : List UInt8) : Prop :=
  (AskOk fr l ∧ is = true ∧ body = putL (wbody (if (getF fr (nmOf (takeB l))).isSome then 2 else 3) (ws (takeB l)) (nmOf (takeB l)) (((getF fr (nmOf (takeB l))).map (·.l)).getD []))) ∨
  (¬ AskOk fr l ∧ is = false ∧ body = [])
theorem may3 {s n : Nat} (h : s < 4294967296) (hn : n = 0) : WMay ((3 : Nat) : Int) s n := ⟨by omega, .inl hn⟩
theorem may2 {s n : Nat} (h : s < 4294967296) (hn : n ≤ 4106) : WMay ((2 : Nat) : Int) s n := ⟨by omega, .inr ⟨rfl, hn⟩⟩
theorem sanswerC {g gm : Nat} {A : Option Addr} {n c : Nat} {l : List UInt8} {fr : Frames} (hc : n ≤ c) (hn : n ≤ 1000000) (hfr : FrOk fr) : Con Tryd.prog 52 [.pointer (some ⟨g, 0, none⟩), .slice A n c] [RSrv g gm fr] [RRd 1 A n (b8s l)] (fun v_ X_ S_ => ∃ v bn body is, v_ = (.tuple #[v, .bool is]) ∧ X_ = [RSrv g gm fr, ROwn 5 1 v bn (b8s body)] ∧ S_ = [] ∧ (body.length = bn ∧ SaysS fr l is body)) := by
  refine henter (N := 42) Tryd.func52 rfl rfl (by simp) fun b => ?_
  refine hfactC (fun m => rdB (m.rd 0 rfl)) ?_
  rintro ⟨hl_r, hA_r⟩
  refine hseq <| hreg <| hy (fun _ => y_assign rfl) <| hy (fun _ => y_assign rfl) <| hend <| hthen <| hseq <| hreg <| hy (fun _ => y_move rfl) <| ?_
  refine hx (xh_call rfl Tryd.call58 (wreadC (by omega) (by omega)) [] rfl [0] rfl ?_)
  rintro _ _ _ ⟨k, s, nm, body, v, err, bn, rfl, rfl, rfl, hp⟩
  refine hfactL (fun m => (m.own 0 rfl).slice) ?_
  rintro ⟨A_x, c_x, rfl, hc_x⟩
  refine hfactL (fun m => (m.ord 0 rfl).2.1) fun hA_x => ?_
  obtain ⟨hnm, hbl, hR⟩ := hp
  refine hy (fun _ => y_move rfl) <| hy (fun _ => y_extract rfl rfl) <| hy (fun _ => y_extract rfl rfl) <| ?_
  refine hx (xh_alloc ti111 (fun g6 => ?_))
  refine hx0 (xh_stA 0 rfl rfl rfl sz111 (mc_len hnm) (mc_one rfl) rfl ?_)
  refine hy (fun _ => y_assign rfl) <| hend <| hsub (ρ' := [(7, _), (6, _), (5, _), (4, _), (0, _), (1, _)]) ⟨rfl, rfl, rfl, rfl, rfl, rfl, trivial⟩ <| hmemQ (X' := [_, _, _]) (S' := [_]) (fun _ m => m) <| hthen <| hseq <| hseq <| hreg <| hy (fun _ => y_move rfl) <| hy (fun _ => y_neq rfl rfl) <| hend <| hsub (ρ' := [(19, _), (7, _), (6, _), (5, _), (4, _), (0, _), (1, _)]) ⟨rfl, rfl, rfl, rfl, rfl, rfl, rfl, trivial⟩ <| hthen <| ?_
  refine hif rfl (fun he => ?_) (fun he => ?_)
  · refine hseq <| hreg <| hy (fun _ => y_assign rfl) <| hy (fun _ => y_assign rfl) <| hend <| hthen <| hret <| hthen_ret <| ?_
    refine hmemQ (fun w m => m.addX (r' := ROwn 5 1 (.slice none 0 0) 0 []) (.refl _ _) (Own.nil _ _ _ _) (fun k hk => hk.elim)) ?_
    exact hret2 trivial rfl rfl rfl [3, 0] rfl [] rfl ⟨_, _, [], _, rfl, rfl, rfl, ⟨rfl, .inr ⟨(fun h => he (by rcases hR with h1 | h1 | h1 <;> first | exact absurd h.1 h1.1 | exact h1.2.2.2.2.2.2 | exact absurd h.2.1 h1.2.1)), rfl, rfl⟩⟩⟩
  · have he := Decidable.not_not.1 he
    have hR' : takeE l = 0 ∧ OkW (takeB l) ∧ k = wkd (takeB l) ∧ s = ws (takeB l) ∧ nm = nmOf (takeB l) ∧ body = (takeB l).drop 37 := by
      rcases hR with h1 | h1 | h1
      · exact absurd (h1.2.2.2.2.2 ▸ he) h1.1
      · exact ⟨h1.1, h1.2.1, h1.2.2.1, h1.2.2.2.1, h1.2.2.2.2.1, h1.2.2.2.2.2.1⟩
      · exact absurd (h1.2.2.2.2.2.2 ▸ he) (by decide)
    obtain ⟨h0, hW, rfl, rfl, rfl, rfl⟩ := hR'
    refine hcskip <| hthen <| hseq <| hreg <| hy (fun _ => y_move rfl) <| hy (fun _ => y_fld rfl fa111_2 (by decide)) <| hy (fun m => yV (y_ldN rfl ag23 sz23 (by rw [b8s_length]; exact hnm) (mc_nm (m.blk 0 rfl))) ((rfl : Value.agg _ = DK ⟨nmOf (takeB l), hnm⟩))) <| ?_
    refine hx (xh_call rfl Tryd.call102 (sgetC (nm := ⟨nmOf (takeB l), hnm⟩)) [2] rfl [] rfl ?_)
    rintro _ _ _ ⟨rfl, rfl, rfl⟩
    rw [getF_eq]
    have hsl : ws (takeB l) < 4294967296 := num4_lt _
    have hbn : bn = (takeB l).length - 37 := by rw [← hbl, List.length_drop]
    rcases hq : getF fr (nmOf (takeB l)) with _ | r
    · refine hmemL (fun w m => m.addS (r' := RRd 1 none 0 []) (.refl _ _) (Rd.nil _ _ _) (fun k hk => absurd rfl hk.1)) ?_
      have hA_f : 0 < 0 → (none : Option Addr) ≠ none := fun h => absurd h (by decide)
      refine hy (fun _ => y_move rfl) <| hy (fun _ => y_extract rfl rfl) <| hy (fun _ => y_extract rfl rfl) <| hy (fun _ => y_assign rfl) <| hy (fun _ => y_assign rfl) <| hend <| hsub (ρ' := [(9, _), (8, _), (19, _), (7, _), (6, _), (5, _), (4, _), (0, _), (1, _)]) ⟨rfl, rfl, rfl, rfl, rfl, rfl, rfl, rfl, rfl, trivial⟩ <| hmemQ (X' := [_, _, _]) (S' := [_, _]) (fun _ m => m) <| hthen <| hseq <| hreg <| hy (fun m => y_ldN rfl ag111 sz111 (mc_len hnm) ((m.blk 1 rfl).cells0)) <| hy (fun _ => y_move rfl) <| hy (fun _ => y_move rfl) <| ?_
      refine hx (xh_call rfl Tryd.call103 (wanswerC (by omega) (by omega) (l := [])) [] rfl [0] rfl ?_)
      rintro _ _ _ ⟨k1, s1, nm1, body2, v2, err2, bn2, rfl, rfl, rfl, hp2⟩
      refine hfactL (fun m => (m.own 0 rfl).slice) ?_
      rintro ⟨A_x2, c_x2, rfl, hc_x2⟩
      refine hfactL (fun m => (m.ord 0 rfl).2.1) fun hA_x2 => ?_
      obtain ⟨hnm1, hbl1, hA⟩ := hp2
      refine hy (fun _ => y_move rfl) <| hy (fun _ => y_extract rfl rfl) <| hy (fun _ => y_extract rfl rfl) <| ?_
      refine hx (xh_alloc ti111 (fun g10 => ?_))
      refine hx0 (xh_stA 0 rfl rfl rfl sz111 (mc_len hnm1) (mc_one rfl) rfl ?_)
      refine hy (fun _ => y_assign rfl) <| hend <| hsub (ρ' := [(7, _), (10, _), (9, _), (8, _), (19, _), (6, _), (5, _), (4, _), (0, _), (1, _)]) ⟨rfl, rfl, rfl, rfl, rfl, rfl, rfl, rfl, rfl, rfl, trivial⟩ <| hmemQ (X' := [_, _, _, _, _]) (S' := [_, _]) (fun _ m => m) <| hthen <| hseq <| hseq <| hreg <| hy (fun _ => y_move rfl) <| hy (fun _ => y_neq rfl rfl) <| hend <| hsub (ρ' := [(35, _), (7, _), (10, _), (9, _), (8, _), (19, _), (6, _), (5, _), (4, _), (0, _), (1, _)]) ⟨rfl, rfl, rfl, rfl, rfl, rfl, rfl, rfl, rfl, rfl, rfl, trivial⟩ <| hthen <| ?_
      refine hif rfl (fun he1 => ?_) (fun he1 => ?_)
      · refine hseq <| hreg <| hy (fun _ => y_assign rfl) <| hy (fun _ => y_assign rfl) <| hend <| hthen <| hret <| hthen_ret <| ?_
        refine hmemQ (fun w m => m.addX (r' := ROwn 5 1 (.slice none 0 0) 0 []) (.refl _ _) (Own.nil _ _ _ _) (fun k hk => hk.elim)) ?_
        exact hret2 trivial rfl rfl rfl [3, 0] rfl [] rfl ⟨_, _, [], _, rfl, rfl, rfl, ⟨rfl, .inr ⟨(fun h => he1 (by rcases hA with h1 | h1; exact h1.2.1; exact absurd ⟨h.2.2.1, by rw [hbn]; exact h.2.1.2, (fun e => by cases e)⟩ h1.1)), rfl, rfl⟩⟩⟩
      · have he1 := Decidable.not_not.1 he1
        have hA' : AnsOk (wkd (takeB l)) (ws (takeB l)) bn false 0 ∧ k1 = ((3 : Nat) : Int) ∧ s1 = (ws (takeB l) : Nat) ∧ nm1 = nmOf (takeB l) ∧ body2 = [] := by
          rcases hA with h1 | h1
          · exact ⟨h1.1, h1.2.2.1, h1.2.2.2.1, h1.2.2.2.2.1, h1.2.2.2.2.2⟩
          · exact absurd (h1.2.1 ▸ he1) (by decide)
        obtain ⟨hAns, rfl, rfl, rfl, rfl⟩ := hA'
        refine hcskip <| hthen <| hseq <| hreg <| hy (fun m => y_ldN rfl ag111 sz111 (mc_len hnm) ((m.blk 0 rfl).cells0)) <| ?_
        refine hx (xh_calll rfl Tryd.call104 (wwriteC (by omega) (by omega) (may3 hsl (by rw [← hbl1]; rfl))) [] rfl (.x 1 rfl .own .nil) ?_)
        rintro _ _ _ ⟨v3, rfl, rfl, rfl⟩
        refine ⟨rfl, ?_⟩
        refine hfactL (fun m => (m.own 0 rfl).slice) ?_
        rintro ⟨A_x3, c_x3, rfl, hc_x3⟩
        refine hfactL (fun m => (m.ord 0 rfl).2.1) fun hA_x3 => ?_
        refine hy (fun _ => y_move rfl) <| hy (fun _ => y_extract rfl rfl) <| hy (fun _ => y_extract rfl rfl) <| hy (fun _ => y_assign rfl) <| hy (fun _ => y_assign rfl) <| hend <| hsub (ρ' := [(11, _), (35, _), (7, _), (10, _), (9, _), (8, _), (19, _), (6, _), (5, _), (4, _), (0, _), (1, _)]) ⟨rfl, rfl, rfl, rfl, rfl, rfl, rfl, rfl, rfl, rfl, rfl, rfl, trivial⟩ <| hmemQ (X' := [_, _, _, _, _, _]) (S' := [_, _]) (fun _ m => m) <| hthen <| hseq <| hreg <| hy (fun _ => y_move rfl) <| hy (fun _ => y_assign rfl) <| hy (fun _ => y_assign rfl) <| hend <| hsub (ρ' := [(5, _), (4, _), (11, _), (35, _), (7, _), (10, _), (9, _), (8, _), (19, _), (6, _), (0, _), (1, _)]) ⟨rfl, rfl, rfl, rfl, rfl, rfl, rfl, rfl, rfl, rfl, rfl, rfl, trivial⟩ <| hthen <| hret <| ?_
        exact hret2 trivial rfl rfl rfl [3, 0] rfl [] rfl ⟨_, _, putL (wbody 3 (ws (takeB l)) (nmOf (takeB l)) []), _, rfl, rfl, rfl, ⟨by rw [putL_length, wbody_len hnm, hbl1], .inl ⟨⟨h0, hW, hAns.1, (fun r e => by rw [hq] at e; cases e)⟩, rfl, by rw [hq]; rfl⟩⟩⟩
    · obtain ⟨x0, hmx, rfl⟩ := getF_mem hq
      obtain ⟨hrn, hrl⟩ := hfr x0 hmx
      obtain ⟨ri, hri⟩ := getF_row hq
      refine hy (fun _ => y_move rfl) <| hy (fun _ => y_extract rfl rfl) <| hy (fun _ => y_extract rfl rfl) <| hy (fun _ => y_assign rfl) <| hy (fun _ => y_assign rfl) <| hend <| hsub (ρ' := [(9, _), (8, _), (19, _), (7, _), (6, _), (5, _), (4, _), (0, _), (1, _)]) ⟨rfl, rfl, rfl, rfl, rfl, rfl, rfl, rfl, rfl, trivial⟩ <| hthen <| hseq <| hreg <| hy (fun m => y_ldN rfl ag111 sz111 (mc_len hnm) ((m.blk 1 rfl).cells0)) <| hy (fun _ => y_move rfl) <| hy (fun _ => y_move rfl) <| ?_
      refine hx (xh_calll rfl Tryd.call103 (wanswerC (by omega) (by omega) (l := x0.2.l)) [] rfl (.x 0 rfl ((View.comp 2 rfl).trans (View.row hri)) .nil) ?_)
      rintro _ _ _ ⟨k1, s1, nm1, body2, v2, err2, bn2, rfl, rfl, rfl, hp2⟩
      refine ⟨rfl, ?_⟩
      refine hfactL (fun m => (m.own 0 rfl).slice) ?_
      rintro ⟨A_x2, c_x2, rfl, hc_x2⟩
      refine hfactL (fun m => (m.ord 0 rfl).2.1) fun hA_x2 => ?_
      obtain ⟨hnm1, hbl1, hA⟩ := hp2
      refine hy (fun _ => y_move rfl) <| hy (fun _ => y_extract rfl rfl) <| hy (fun _ => y_extract rfl rfl) <| ?_
      refine hx (xh_alloc ti111 (fun g10 => ?_))
      refine hx0 (xh_stA 0 rfl rfl rfl sz111 (mc_len hnm1) (mc_one rfl) rfl ?_)
      refine hy (fun _ => y_assign rfl) <| hend <| hsub (ρ' := [(7, _), (10, _), (9, _), (8, _), (19, _), (6, _), (5, _), (4, _), (0, _), (1, _)]) ⟨rfl, rfl, rfl, rfl, rfl, rfl, rfl, rfl, rfl, rfl, trivial⟩ <| hmemQ (X' := [_, _, _, _, _]) (S' := [_]) (fun _ m => m) <| hthen <| hseq <| hseq <| hreg <| hy (fun _ => y_move rfl) <| hy (fun _ => y_neq rfl rfl) <| hend <| hsub (ρ' := [(35, _), (7, _), (10, _), (9, _), (8, _), (19, _), (6, _), (5, _), (4, _), (0, _), (1, _)]) ⟨rfl, rfl, rfl, rfl, rfl, rfl, rfl, rfl, rfl, rfl, rfl, trivial⟩ <| hthen <| ?_
      refine hif rfl (fun he1 => ?_) (fun he1 => ?_)
      · refine hseq <| hreg <| hy (fun _ => y_assign rfl) <| hy (fun _ => y_assign rfl) <| hend <| hthen <| hret <| hthen_ret <| ?_
        refine hmemQ (fun w m => m.addX (r' := ROwn 5 1 (.slice none 0 0) 0 []) (.refl _ _) (Own.nil _ _ _ _) (fun k hk => hk.elim)) ?_
        exact hret2 trivial rfl rfl rfl [3, 0] rfl [] rfl ⟨_, _, [], _, rfl, rfl, rfl, ⟨rfl, .inr ⟨(fun h => he1 (by rcases hA with h1 | h1; exact h1.2.1; exact absurd ⟨h.2.2.1, by rw [hbn]; exact h.2.1.2, (fun _ => h.2.2.2 _ hq)⟩ h1.1)), rfl, rfl⟩⟩⟩
      · have he1 := Decidable.not_not.1 he1
        have hA' : AnsOk (wkd (takeB l)) (ws (takeB l)) bn true x0.2.n ∧ k1 = ((2 : Nat) : Int) ∧ s1 = (ws (takeB l) : Nat) ∧ nm1 = nmOf (takeB l) ∧ body2 = x0.2.l := by
          rcases hA with h1 | h1
          · exact ⟨h1.1, h1.2.2.1, h1.2.2.2.1, h1.2.2.2.2.1, h1.2.2.2.2.2⟩
          · exact absurd (h1.2.1 ▸ he1) (by decide)
        obtain ⟨hAns, rfl, rfl, rfl, rfl⟩ := hA'
        refine hcskip <| hthen <| hseq <| hreg <| hy (fun m => y_ldN rfl ag111 sz111 (mc_len hnm) ((m.blk 0 rfl).cells0)) <| ?_
        refine hx (xh_calll rfl Tryd.call104 (wwriteC (by omega) (by omega) (may2 hsl (by rw [← hbl1, hrl]; exact hAns.2.2 rfl))) [] rfl (.x 1 rfl .own .nil) ?_)
        rintro _ _ _ ⟨v3, rfl, rfl, rfl⟩
        refine ⟨rfl, ?_⟩
        refine hfactL (fun m => (m.own 0 rfl).slice) ?_
        rintro ⟨A_x3, c_x3, rfl, hc_x3⟩
        refine hfactL (fun m => (m.ord 0 rfl).2.1) fun hA_x3 => ?_
        refine hy (fun _ => y_move rfl) <| hy (fun _ => y_extract rfl rfl) <| hy (fun _ => y_extract rfl rfl) <| hy (fun _ => y_assign rfl) <| hy (fun _ => y_assign rfl) <| hend <| hsub (ρ' := [(11, _), (35, _), (7, _), (10, _), (9, _), (8, _), (19, _), (6, _), (5, _), (4, _), (0, _), (1, _)]) ⟨rfl, rfl, rfl, rfl, rfl, rfl, rfl, rfl, rfl, rfl, rfl, rfl, trivial⟩ <| hmemQ (X' := [_, _, _, _, _, _]) (S' := [_]) (fun _ m => m) <| hthen <| hseq <| hreg <| hy (fun _ => y_move rfl) <| hy (fun _ => y_assign rfl) <| hy (fun _ => y_assign rfl) <| hend <| hsub (ρ' := [(5, _), (4, _), (11, _), (35, _), (7, _), (10, _), (9, _), (8, _), (19, _), (6, _), (0, _), (1, _)]) ⟨rfl, rfl, rfl, rfl, rfl, rfl, rfl, rfl, rfl, rfl, rfl, rfl, trivial⟩ <| hthen <| hret <| ?_
        exact hret2 trivial rfl rfl rfl [3, 0] rfl [] rfl ⟨_, _, putL (wbody 2 (ws (takeB l)) (nmOf (takeB l)) x0.2.l), _, rfl, rfl, rfl, ⟨by rw [putL_length, wbody_len hnm, hbl1], .inl ⟨⟨h0, hW, hAns.1, (fun r2 e => by rw [hq] at e; cases e; exact hAns.2.2 rfl)⟩, rfl, by rw [hq]; rfl⟩⟩⟩
end Go.Proofs.YtfikjheicjamhaaDoor
end
section
/- Bytes in fewer (layer 5), over plain lists: tokens, what they make. No program. -/
set_option linter.unusedVariables false
set_option linter.unusedSimpArgs false
namespace Go.Hx
open Go.Eng
/-- the first token: how many bytes it has, how many it makes, its distance (0: literal ones); false: it ends too soon -/
def tokL (l : List UInt8) : Nat × Nat × Nat × Bool :=
  if (l.getD 0 0).toNat < 128 then ((l.getD 0 0).toNat + 2, (l.getD 0 0).toNat + 1, 0, decide ((l.getD 0 0).toNat + 2 ≤ l.length))
  else if l.length < 3 then (0, 0, 0, false) else (3, (l.getD 0 0).toNat - 124, 1 + (l.getD 1 0).toNat + 256 * (l.getD 2 0).toNat, true)
/-- bytes once more -/
def again (d : Nat) : Nat → List UInt8 → List UInt8
  | 0, o => o
  | k + 1, o => again d k (o ++ [o.getD (o.length - d) 0])
theorem again_length (d : Nat) : ∀ (k : Nat) (o : List UInt8), (again d k o).length = o.length + k
  | 0, o => rfl
  | k + 1, o => by rw [again, again_length d k]; simp; omega
theorem tokL_size {l : List UInt8} (h : (tokL l).2.2.2 = true) : 2 ≤ (tokL l).1 ∧ (tokL l).1 ≤ l.length := by
  unfold tokL at h ⊢
  split at h
  · rename_i h1
    rw [if_pos h1]
    have := of_decide_eq_true h
    exact ⟨by show 2 ≤ _ + 2; omega, this⟩
  · rename_i h1
    rw [if_neg h1]
    split at h
    · cases h
    · rename_i h2
      rw [if_neg h2]
      exact ⟨by show 2 ≤ 3; decide, by show 3 ≤ _; omega⟩
theorem tokL_n (l : List UInt8) : (tokL l).2.1 ≤ 131 ∧ (tokL l).2.2.1 ≤ 65536 := by
  have h0 := (l.getD 0 0).toNat_lt
  have h1 := (l.getD 1 0).toNat_lt
  have h2 := (l.getD 2 0).toNat_lt
  unfold tokL
  split
  · exact ⟨by show _ + 1 ≤ _; omega, by show 0 ≤ _; omega⟩
  · split
    · exact ⟨by show 0 ≤ _; omega, by show 0 ≤ _; omega⟩
    · exact ⟨by show _ - 124 ≤ _; omega, by show 1 + _ + 256 * _ ≤ _; omega⟩
/-- what a token makes -/
def made (l o : List UInt8) : List UInt8 := if (tokL l).2.2.1 = 0 then o ++ (l.drop 1).take ((tokL l).1 - 1) else again (tokL l).2.2.1 (tokL l).2.1 o
/-- bytes as they were, or why not -/
def unp (most : Int) (l o : List UInt8) : List UInt8 × Int :=
  if h0 : l = [] then (o, 0)
  else if h1 : (tokL l).2.2.2 = true then
    if o.length < (tokL l).2.2.1 then ([], 2) else if most < (o.length : Int) + ((tokL l).2.1 : Nat) then ([], 3) else unp most (l.drop (tokL l).1) (made l o)
  else ([], 2)
termination_by l.length
decreasing_by
  obtain ⟨h2, h3⟩ := tokL_size h1
  rw [List.length_drop]
  omega
theorem unp_nil (most : Int) (o : List UInt8) : unp most [] o = (o, 0) := by
  rw [unp]
  rfl
theorem unp_bad {most : Int} {l o : List UInt8} (h0 : l ≠ []) (h : ¬ ((tokL l).2.2.2 = true ∧ (tokL l).2.2.1 ≤ o.length)) : unp most l o = ([], 2) := by
  rw [unp, dif_neg h0]
  split
  · rename_i h1
    rw [if_pos (Nat.lt_of_not_le fun h2 => h ⟨h1, h2⟩)]
  · rfl
theorem unp_far {most : Int} {l o : List UInt8} (h0 : l ≠ []) (h1 : (tokL l).2.2.2 = true) (h2 : (tokL l).2.2.1 ≤ o.length) (h3 : most < (o.length : Int) + ((tokL l).2.1 : Nat)) : unp most l o = ([], 3) := by
  rw [unp, dif_neg h0, dif_pos h1, if_neg (by omega), if_pos h3]
theorem unp_go {most : Int} {l o : List UInt8} (h0 : l ≠ []) (h1 : (tokL l).2.2.2 = true) (h2 : (tokL l).2.2.1 ≤ o.length) (h3 : ¬ most < (o.length : Int) + ((tokL l).2.1 : Nat)) : unp most l o = unp most (l.drop (tokL l).1) (made l o) := by
  rw [unp, dif_neg h0, dif_pos h1, if_neg (by omega), if_neg h3]
theorem made_length {l o : List UInt8} (h1 : (tokL l).2.2.2 = true) : (made l o).length = o.length + (tokL l).2.1 := by
  unfold made
  split
  · rename_i h0
    obtain ⟨h2, h3⟩ := tokL_size h1
    have e : (tokL l).1 - 1 = (tokL l).2.1 := by
      unfold tokL at h0 h1 ⊢
      split
      · show _ + 2 - 1 = _ + 1; omega
      · split
        · rename_i a1 a2; rw [if_neg a1, if_pos a2] at h1; cases h1
        · rename_i a1 a2; rw [if_neg a1, if_neg a2] at h0; simp at h0
    rw [List.length_append, List.length_take, List.length_drop, e]
    omega
  · exact again_length _ _ _
end Go.Hx
end
section
/- Bytes in fewer (layer 5), over plain lists: matches, packing, and back. No program. -/
set_option linter.unusedVariables false
set_option linter.unusedSimpArgs false
namespace Go.Hx
open Go.Eng
/-- how many bytes from i on are those from k on, 131 at most -/
def lngF (b : List UInt8) (i k : Nat) : Nat → Nat → Nat
  | 0, n => n
  | f + 1, n => if i + n < b.length ∧ b.getD (i + n) 0 = b.getD (k + n) 0 then lngF b i k f (n + 1) else n
def lng (b : List UInt8) (i k : Nat) : Nat := lngF b i k 131 0
theorem lngF_bounds (b : List UInt8) (i k : Nat) : ∀ f n, n ≤ lngF b i k f n ∧ lngF b i k f n ≤ n + f ∧ (i + n ≤ b.length → i + lngF b i k f n ≤ b.length) ∧ ∀ j, n ≤ j → j < lngF b i k f n → b.getD (i + j) 0 = b.getD (k + j) 0
  | 0, n => ⟨Nat.le_refl _, Nat.le_refl _, fun h => h, fun j h1 h2 => by simp only [lngF] at h2; omega⟩
  | f + 1, n => by
    unfold lngF
    split
    · rename_i h
      obtain ⟨h1, h2, h3, h4⟩ := lngF_bounds b i k f (n + 1)
      refine ⟨by omega, by omega, fun _ => h3 (by omega), fun j hj hj2 => ?_⟩
      rcases Nat.eq_or_lt_of_le hj with e | e
      · rw [← e]; exact h.2
      · exact h4 j e hj2
    · exact ⟨Nat.le_refl _, by omega, fun h => h, fun j h1 h2 => by omega⟩
theorem lng_le (b : List UInt8) (i k : Nat) : lng b i k ≤ 131 := by have := (lngF_bounds b i k 131 0).2.1; unfold lng; omega
theorem lng_in {b : List UInt8} {i : Nat} (k : Nat) (h : i ≤ b.length) : i + lng b i k ≤ b.length := (lngF_bounds b i k 131 0).2.2.1 (by omega)
theorem lng_eq {b : List UInt8} {i k j : Nat} (h : j < lng b i k) : b.getD (i + j) 0 = b.getD (k + j) 0 := (lngF_bounds b i k 131 0).2.2.2 j (Nat.zero_le _) h
theorem lngF_stop {b : List UInt8} {i k f n : Nat} (h : ¬ (i + n < b.length ∧ b.getD (i + n) 0 = b.getD (k + n) 0)) : lngF b i k f n = n := by
  cases f with
  | zero => rfl
  | succ f => rw [lngF, if_neg h]
theorem lngF_more {b : List UInt8} {i k f n : Nat} (hf : 0 < f) (h : i + n < b.length ∧ b.getD (i + n) 0 = b.getD (k + n) 0) : lngF b i k f n = lngF b i k (f - 1) (n + 1) := by
  cases f with
  | zero => omega
  | succ f => rw [lngF, if_pos h]; rfl
/-- four bytes -/
def key4 (b : List UInt8) (p : Nat) : List UInt8 := (b.drop p).take 4
theorem key4_length {b : List UInt8} {p : Nat} (h : p + 4 ≤ b.length) : (key4 b p).length = 4 := by unfold key4; rw [List.length_take, List.length_drop]; omega
theorem key4_eq {b : List UInt8} {i p : Nat} (hi : i + 4 ≤ b.length) (hp : p < i) : key4 b p = key4 b i ↔ 3 < lng b i p := by
  have e : ∀ q, q + 4 ≤ b.length → key4 b q = [b.getD (q + 0) 0, b.getD (q + 1) 0, b.getD (q + 2) 0, b.getD (q + 3) 0] := by
    intro q hq
    apply List.ext_getElem?
    intro j
    unfold key4
    rw [List.getElem?_take, List.getElem?_drop]
    rcases j with _ | _ | _ | _ | j
    all_goals simp
    all_goals (try (rw [List.getElem?_eq_getElem (by omega)]; rfl))
    all_goals (try (intro h; omega))
  rw [e p (by omega), e i hi]
  constructor
  · intro h
    simp only [List.cons.injEq, and_true] at h
    have e0 : lng b i p = lngF b i p 127 4 := by
      unfold lng
      rw [lngF_more (by decide) ⟨by omega, h.1.symm⟩, lngF_more (by decide) ⟨by omega, h.2.1.symm⟩, lngF_more (by decide) ⟨by omega, h.2.2.1.symm⟩, lngF_more (by decide) ⟨by omega, h.2.2.2.symm⟩]
    rw [e0]
    exact (lngF_bounds b i p 127 4).1
  · intro h
    simp only [List.cons.injEq, and_true]
    exact ⟨(lng_eq (by omega)).symm, (lng_eq (by omega)).symm, (lng_eq (by omega)).symm, (lng_eq (by omega)).symm⟩
/-- one distance more -/
def mstep (b : List UInt8) (i : Nat) (s : Nat × Nat) (d : Nat) : Nat × Nat := if 3 < lng b i (i - d) ∧ s.1 < lng b i (i - d) then (lng b i (i - d), d) else s
def matchK (b : List UInt8) (i k : Nat) : Nat × Nat := (List.range' 1 k).foldl (mstep b i) (0, 0)
theorem matchK_succ (b : List UInt8) (i k : Nat) : matchK b i (k + 1) = mstep b i (matchK b i k) (k + 1) := by
  unfold matchK
  rw [List.range'_concat, List.foldl_append]
  simp [Nat.add_comm]
/-- the match at a place: its length, its distance -/
def matchL (b : List UInt8) (i : Nat) : Nat × Nat := matchK b i (min i 1024)
/-- one place more, from behind -/
def pstep (b : List UInt8) (i : Nat) (s : Nat × Nat) (p : Nat) : Nat × Nat := if 1024 < i - p then s else if s.1 < lng b i p then (lng b i p, i - p) else s
/-- the places ahead that have these four bytes -/
def posL (b : List UInt8) (n : Nat) (k : List UInt8) : List Nat := (List.range n).filter fun p => decide (key4 b p = k)
theorem posL_succ (b : List UInt8) (n : Nat) (k : List UInt8) : posL b (n + 1) k = posL b n k ++ if key4 b n = k then [n] else [] := by
  unfold posL
  rw [List.range_succ, List.filter_append]
  congr 1
  by_cases h : key4 b n = k <;> simp [h]
theorem posL_lt {b : List UInt8} {n p : Nat} {k : List UInt8} (h : p ∈ posL b n k) : p < n ∧ key4 b p = k := by
  unfold posL at h
  simpa using h
theorem posL_length (b : List UInt8) (n : Nat) (k : List UInt8) : (posL b n k).length ≤ n := by
  unfold posL
  exact Nat.le_trans (List.length_filter_le _ _) (by simp)
theorem rev_range (i : Nat) : (List.range i).reverse = (List.range' 1 i).map fun d => i - d := by
  apply List.ext_getElem
  · simp
  · intro j h1 h2
    simp
    omega
theorem foldl_skip {α β : Type} (f : β → α → β) (s : β) : ∀ (l : List α), (∀ x ∈ l, ∀ t, f t x = t) → l.foldl f s = s
  | [], _ => rfl
  | x :: l, h => by
    rw [List.foldl_cons, h x (by simp) s]
    exact foldl_skip f s l (fun y hy => h y (List.mem_cons_of_mem _ hy))
theorem match_eq {b : List UInt8} {i : Nat} (hi : i + 4 ≤ b.length) : (posL b i (key4 b i)).reverse.foldl (pstep b i) (0, 0) = matchL b i := by
  unfold posL matchL
  rw [← List.filter_reverse, rev_range, List.filter_map, List.foldl_map, List.foldl_filter]
  have h1 : ∀ (l : List Nat) (s : Nat × Nat), (∀ d ∈ l, 1 ≤ d ∧ d ≤ i) → l.foldl (fun s d => if ((fun p => decide (key4 b p = key4 b i)) ∘ fun d => i - d) d = true then pstep b i s (i - d) else s) s = l.foldl (fun s d => if 1024 < d then s else mstep b i s d) s := by
    intro l
    induction l with
    | nil => intro s _; rfl
    | cons d l ih =>
      intro s hd
      simp only [List.foldl_cons]
      rw [ih _ (fun x hx => hd x (List.mem_cons_of_mem _ hx))]
      congr 1
      obtain ⟨hd1, hd2⟩ := hd d (by simp)
      have e := key4_eq (p := i - d) hi (by omega)
      simp only [Function.comp_apply, decide_eq_true_eq]
      unfold pstep mstep
      rw [show i - (i - d) = d by omega]
      by_cases hk : key4 b (i - d) = key4 b i
      · rw [if_pos hk]
        have := e.1 hk
        split
        · rfl
        · by_cases h : s.1 < lng b i (i - d)
          · rw [if_pos h, if_pos ⟨this, h⟩]
          · rw [if_neg h, if_neg (fun q => h q.2)]
      · rw [if_neg hk]
        split
        · rfl
        · rw [if_neg (fun q => hk (e.2 q.1))]
  rw [h1 _ _ (fun d hd => by simp at hd; omega)]
  have h2 : List.range' 1 i = List.range' 1 (min i 1024) ++ List.range' (1 + min i 1024) (i - min i 1024) := by
    rw [List.range'_append_1]
    congr 1
    omega
  rw [h2, List.foldl_append, foldl_skip _ _ (List.range' (1 + min i 1024) (i - min i 1024))]
  · unfold matchK
    have h3 : ∀ (l : List Nat) (s : Nat × Nat), (∀ d ∈ l, d ≤ 1024) → l.foldl (fun s d => if 1024 < d then s else mstep b i s d) s = l.foldl (mstep b i) s := by
      intro l
      induction l with
      | nil => intro s _; rfl
      | cons d l ih =>
        intro s hd
        simp only [List.foldl_cons]
        rw [if_neg (by have := hd d (by simp); omega)]
        exact ih _ (fun x hx => hd x (List.mem_cons_of_mem _ hx))
    exact h3 _ _ (fun d hd => by simp at hd; omega)
  · intro d hd t
    simp at hd
    rw [if_pos (by omega)]
theorem posL_sorted (b : List UInt8) (n : Nat) (k : List UInt8) : (posL b n k).Pairwise (· < ·) := (List.pairwise_lt_range).filter _
theorem match_brk {b : List UInt8} {i n x : Nat} {k : List UInt8} {pre rest : List Nat} {s : Nat × Nat} (h : (posL b n k).reverse = pre ++ x :: rest) (hx : 1024 < i - x) : (posL b n k).reverse.foldl (pstep b i) s = pre.foldl (pstep b i) s := by
  have hs : (pre ++ x :: rest).Pairwise (· > ·) := by
    rw [← h, List.pairwise_reverse]
    exact posL_sorted b n k
  rw [h, List.foldl_append]
  refine foldl_skip _ _ _ fun y hy t => ?_
  have h1 := (List.pairwise_cons.1 (List.pairwise_append.1 hs).2.1).1
  unfold pstep
  rw [if_pos]
  rcases List.mem_cons.1 hy with rfl | hy
  · exact hx
  · have := h1 y hy
    omega
theorem match_short {b : List UInt8} {i : Nat} (hi : i ≤ b.length) (h : b.length < i + 4) : matchL b i = (0, 0) := by
  unfold matchL matchK
  refine foldl_skip _ _ _ fun d hd t => ?_
  unfold mstep
  rw [if_neg]
  intro q
  have := lng_in (i - d) hi
  omega
/-- what a match tells -/
theorem matchK_ok (b : List UInt8) (i : Nat) (hi : i ≤ b.length) : ∀ k, k ≤ i → (matchK b i k = (0, 0)) ∨ (4 ≤ (matchK b i k).1 ∧ (matchK b i k).1 ≤ 131 ∧ 1 ≤ (matchK b i k).2 ∧ (matchK b i k).2 ≤ k ∧ i + (matchK b i k).1 ≤ b.length ∧ (matchK b i k).1 = lng b i (i - (matchK b i k).2))
  | 0, _ => .inl rfl
  | k + 1, hk => by
    rw [matchK_succ]
    unfold mstep
    split
    · rename_i h
      exact .inr ⟨by show 4 ≤ lng _ _ _; omega, lng_le _ _ _, by show 1 ≤ k + 1; omega, Nat.le_refl _, lng_in _ hi, rfl⟩
    · rcases matchK_ok b i hi k (by omega) with h | h
      · exact .inl h
      · exact .inr ⟨h.1, h.2.1, h.2.2.1, by omega, h.2.2.2.2.1, h.2.2.2.2.2⟩
theorem matchL_ok {b : List UInt8} {i : Nat} (hi : i ≤ b.length) : (matchL b i = (0, 0)) ∨ (4 ≤ (matchL b i).1 ∧ (matchL b i).1 ≤ 131 ∧ 1 ≤ (matchL b i).2 ∧ (matchL b i).2 ≤ min i 1024 ∧ i + (matchL b i).1 ≤ b.length ∧ (matchL b i).1 = lng b i (i - (matchL b i).2)) := matchK_ok b i hi _ (by omega)
/-- literal bytes as tokens -/
def litL (l : List UInt8) : List UInt8 := if h : l = [] then [] else UInt8.ofNat (min l.length 128 - 1) :: l.take 128 ++ litL (l.drop 128)
termination_by l.length
decreasing_by
  have := List.length_pos_iff.2 h
  rw [List.length_drop]
  omega
theorem litL_nil : litL [] = [] := by rw [litL]; rfl
theorem litL_cons {l : List UInt8} (h : l ≠ []) : litL l = UInt8.ofNat (min l.length 128 - 1) :: l.take 128 ++ litL (l.drop 128) := by rw [litL, dif_neg h]
theorem litL_length (l : List UInt8) : (litL l).length ≤ 2 * l.length := by
  by_cases h : l = []
  · subst h; rw [litL_nil]; simp
  · have hp := List.length_pos_iff.2 h
    have hd : (l.drop 128).length = l.length - 128 := List.length_drop
    have := litL_length (l.drop 128)
    rw [litL_cons h]
    simp only [List.length_append, List.length_cons, List.length_take]
    omega
termination_by l.length
decreasing_by
  rw [List.length_drop]
  have := List.length_pos_iff.2 h
  omega
/-- a match as a token -/
def tokM (m : Nat × Nat) : List UInt8 := [UInt8.ofNat (124 + m.1), UInt8.ofNat (m.2 - 1), UInt8.ofNat ((m.2 - 1) / 256)]
def packF (b : List UInt8) (i : Nat) (own out : List UInt8) : List UInt8 :=
  if h : i < b.length then
    if h0 : (matchL b i).1 = 0 then packF b (i + 1) (own ++ [b.getD i 0]) out
    else packF b (i + (matchL b i).1) [] (out ++ litL own ++ tokM (matchL b i))
  else out ++ litL own
termination_by b.length - i
def packL (b : List UInt8) : List UInt8 := packF b 0 [] []
theorem packF_end {b own out : List UInt8} {i : Nat} (h : ¬ i < b.length) : packF b i own out = out ++ litL own := by rw [packF, dif_neg h]
theorem packF_own {b own out : List UInt8} {i : Nat} (h : i < b.length) (h0 : (matchL b i).1 = 0) : packF b i own out = packF b (i + 1) (own ++ [b.getD i 0]) out := by rw [packF, dif_pos h, dif_pos h0]
theorem packF_match {b own out : List UInt8} {i : Nat} (h : i < b.length) (h0 : (matchL b i).1 ≠ 0) : packF b i own out = packF b (i + (matchL b i).1) [] (out ++ litL own ++ tokM (matchL b i)) := by rw [packF, dif_pos h, dif_neg h0]
theorem packF_length : ∀ (b : List UInt8) (i : Nat) (own out : List UInt8), i ≤ b.length → out.length + 2 * own.length ≤ 2 * i → (packF b i own out).length ≤ 2 * b.length
  | b, i, own, out, hi, h => by
    by_cases hlt : i < b.length
    · by_cases h0 : (matchL b i).1 = 0
      · rw [packF_own hlt h0]
        exact packF_length b (i + 1) _ _ (by omega) (by simp; omega)
      · rw [packF_match hlt h0]
        rcases matchL_ok hi with hm | hm
        · rw [hm] at h0; exact absurd rfl h0
        · have := litL_length own
          exact packF_length b _ _ _ (by omega) (by simp [tokM]; omega)
    · rw [packF_end hlt, List.length_append]
      have := litL_length own
      omega
termination_by b i => b.length - i
theorem packL_length (b : List UInt8) : (packL b).length ≤ 2 * b.length := packF_length b 0 [] [] (Nat.zero_le _) (by simp)
/-! ### back -/
theorem tok_lit {k : Nat} {l r : List UInt8} (hk : k < 128) (hl : l.length = k + 1) : tokL (UInt8.ofNat k :: (l ++ r)) = (k + 2, k + 1, 0, true) := by
  have e : (UInt8.ofNat k).toNat = k := by rw [UInt8.toNat_ofNat', Nat.mod_eq_of_lt (by omega)]
  unfold tokL
  rw [List.getD_cons_zero, e, if_pos hk]
  simp only [List.length_cons, List.length_append, hl]
  congr 3
  exact decide_eq_true (by omega)
theorem unp_lits {most : Int} (l r o : List UInt8) (hm : (o.length : Int) + l.length ≤ most) : unp most (litL l ++ r) o = unp most r (o ++ l) := by
  by_cases h : l = []
  · subst h; rw [litL_nil]; simp
  · have hp := List.length_pos_iff.2 h
    have hk : min l.length 128 - 1 < 128 := by omega
    have htl : (l.take 128).length = (min l.length 128 - 1) + 1 := by rw [List.length_take]; omega
    have hsp : l.take 128 ++ l.drop 128 = l := List.take_append_drop 128 l
    have hlen : l.length = (l.take 128).length + (l.drop 128).length := by rw [← List.length_append, hsp]
    rw [litL_cons h, List.append_assoc, List.cons_append]
    have ht := tok_lit (r := litL (l.drop 128) ++ r) hk htl
    rw [unp_go (by simp) (by rw [ht]) (by rw [ht]; exact Nat.zero_le _) (by rw [ht]; simp only; omega)]
    have hmd : made (UInt8.ofNat (min l.length 128 - 1) :: (l.take 128 ++ (litL (l.drop 128) ++ r))) o = o ++ l.take 128 := by
      unfold made
      rw [ht, if_pos rfl]
      simp only [List.drop_succ_cons, List.drop_zero]
      rw [List.take_append_of_le_length (by omega), List.take_of_length_le (by omega)]
    rw [hmd, ht]
    have hdr : (UInt8.ofNat (min l.length 128 - 1) :: (l.take 128 ++ (litL (l.drop 128) ++ r))).drop (min l.length 128 - 1 + 2) = litL (l.drop 128) ++ r := by
      rw [show min l.length 128 - 1 + 2 = (l.take 128).length + 1 by omega, List.drop_succ_cons, List.drop_left]
    simp only
    rw [hdr, unp_lits (l.drop 128) r (o ++ l.take 128) (by rw [List.length_append]; omega), List.append_assoc, hsp]
termination_by l.length
decreasing_by
  rw [List.length_drop]
  have := List.length_pos_iff.2 h
  omega
theorem again_match {b : List UInt8} {i d : Nat} (hd : 1 ≤ d) (hdi : d ≤ i) : ∀ (n k : Nat), i + k + n ≤ b.length → (∀ j, k ≤ j → j < k + n → b.getD (i + j) 0 = b.getD (i - d + j) 0) → again d n (b.take (i + k)) = b.take (i + k + n)
  | 0, k, _, _ => rfl
  | n + 1, k, hb, h => by
    have hl : (b.take (i + k)).length = i + k := by rw [List.length_take]; omega
    rw [again, hl]
    have e : (b.take (i + k)).getD (i + k - d) 0 = b.getD (i + k) 0 := by
      rw [h k (Nat.le_refl _) (by omega)]
      rw [List.getD_eq_getElem?_getD, List.getElem?_take, if_pos (by omega), ← List.getD_eq_getElem?_getD]
      congr 1
      omega
    rw [e]
    have e2 : b.take (i + k) ++ [b.getD (i + k) 0] = b.take (i + (k + 1)) := by
      rw [show i + (k + 1) = (i + k) + 1 by omega, take_snoc (by omega)]
    rw [e2, again_match hd hdi n (k + 1) (by omega) (fun j h1 h2 => h j (by omega) (by omega))]
    congr 1
    omega
theorem tok_match {m : Nat × Nat} {r : List UInt8} (h1 : 4 ≤ m.1) (h2 : m.1 ≤ 131) (h3 : 1 ≤ m.2) (h4 : m.2 ≤ 1024) : tokL (tokM m ++ r) = (3, m.1, m.2, true) := by
  have e0 : (UInt8.ofNat (124 + m.1)).toNat = 124 + m.1 := by rw [UInt8.toNat_ofNat', Nat.mod_eq_of_lt (by omega)]
  have e1 : (UInt8.ofNat (m.2 - 1)).toNat = (m.2 - 1) % 256 := UInt8.toNat_ofNat'
  have e2 : (UInt8.ofNat ((m.2 - 1) / 256)).toNat = (m.2 - 1) / 256 := by rw [UInt8.toNat_ofNat', Nat.mod_eq_of_lt (by omega)]
  unfold tokL tokM
  simp only [List.cons_append, List.nil_append, List.getD_cons_zero, List.getD_cons_succ, List.length_cons, e0, e1, e2]
  rw [if_neg (by omega), if_neg (by omega)]
  simp only [Prod.mk.injEq, true_and, and_true]
  omega
theorem unp_packF {most : Int} : ∀ (b : List UInt8) (i : Nat) (own out o : List UInt8), (b.length : Int) ≤ most → i ≤ b.length → o ++ own = b.take i → (∀ r, unp most (out ++ r) [] = unp most r o) → unp most (packF b i own out) [] = (b, 0)
  | b, i, own, out, o, hm, hi, hown, hout => by
    have hol : o.length + own.length = i := by
      have := congrArg List.length hown
      rw [List.length_append, List.length_take] at this
      omega
    by_cases hlt : i < b.length
    · by_cases h0 : (matchL b i).1 = 0
      · rw [packF_own hlt h0]
        refine unp_packF b (i + 1) _ _ o hm (by omega) ?_ hout
        rw [← List.append_assoc, hown, take_snoc hlt]
      · rw [packF_match hlt h0]
        rcases matchL_ok hi with hk | ⟨m1, m2, m3, m4, m5, m6⟩
        · rw [hk] at h0; exact absurd rfl h0
        · have hd1 : (matchL b i).2 ≤ i := by omega
          have hd2 : (matchL b i).2 ≤ 1024 := by omega
          refine unp_packF b _ _ _ (b.take (i + (matchL b i).1)) hm m5 (by simp) fun r => ?_
          rw [List.append_assoc, List.append_assoc, hout, unp_lits _ _ _ (by omega), hown]
          have ht := tok_match (r := r) m1 m2 m3 hd2
          have hl : (b.take i).length = i := by rw [List.length_take]; omega
          rw [unp_go (by simp [tokM]) (by rw [ht]) (by rw [ht, hl]; exact hd1) (by rw [ht, hl]; simp only; omega)]
          rw [ht]
          have hdr : (tokM (matchL b i) ++ r).drop 3 = r := rfl
          simp only
          rw [hdr]
          congr 1
          unfold made
          rw [ht, if_neg (by simp only; omega)]
          have := again_match (b := b) (i := i) m3 hd1 (matchL b i).1 0 (by omega) (fun j _ hj => lng_eq (by omega))
          exact this
    · rw [packF_end hlt, hout]
      have := unp_lits (most := most) own [] o (by omega)
      rw [List.append_nil] at this
      rw [this, unp_nil, hown, List.take_of_length_le (by omega)]
termination_by b i => b.length - i
theorem unp_packL {b : List UInt8} {most : Int} (h : (b.length : Int) ≤ most) : unp most (packL b) [] = (b, 0) := unp_packF b 0 [] [] [] h (Nat.zero_le _) rfl (fun r => rfl)
/-! ### as the document says -/
end Go.Hx
end
section
/- The engine over things in memory, eighth part: panics that go through a function's end, and what recovers them. No statement is proved here. -/
set_option linter.unusedVariables false
set_option linter.unusedSimpArgs false
set_option linter.unusedSectionVars false
namespace Go.Eng
open Go.RowKit
/-- a panic with one value that nobody has recovered -/
abbrev pan (v : Value) : List PanicEntry := [{ v, recovered := false }]
/-- how a call ends: with a value, or in a panic -/
def RE (b : Base) (R Rp : Value → List Res → List Res → Prop) : Ending → World → Prop := fun e w' =>
  (∃ v X' S', e = .returned v ∧ R v X' S' ∧ Mem b X' S' w') ∨ (∃ v X' S', e = .panicked (pan v) ∧ Rp v X' S' ∧ Mem b X' S' w')
/-- a contract of what may end in a panic -/
def ConE (P : Program) (f : Nat) (args : List Value) (X0 S0 : List Res) (R Rp : Value → List Res → List Res → Prop) : Prop :=
  ∀ w, Mem ⟨w, feet X0, feet S0⟩ X0 S0 w → Calls P f args.toArray w (RE ⟨w, feet X0, feet S0⟩ R Rp)
theorem ConE.mono {P : Program} {f : Nat} {vs : List Value} {X0 S0 : List Res} {R Rp R' Rp' : Value → List Res → List Res → Prop} (h : ConE P f vs X0 S0 R Rp) (h1 : ∀ v X S, R v X S → R' v X S) (h2 : ∀ v X S, Rp v X S → Rp' v X S) : ConE P f vs X0 S0 R' Rp' := fun w m =>
  Calls.mono (h w m) (fun e w' hr => by
    rcases hr with ⟨v, X', S', a1, a2, a3⟩ | ⟨v, X', S', a1, a2, a3⟩
    · exact .inl ⟨v, X', S', a1, h1 _ _ _ a2, a3⟩
    · exact .inr ⟨v, X', S', a1, h2 _ _ _ a2, a3⟩)
section
variable {P : Program} {Q : Exit → Act → World → Prop} {N : Nat} {D : List Deferred} {ρ : Env} {b : Base} {X X' X0 Xr S S' S0 : List Res} {ty : TypeId} {x : Operand} {K : Value → List Res → List Res → Prop}
theorem x_callE {w : World} {K : Value → World → Prop} {f : Nat} {l : List Operand} {vs : List Value} {tys : Array TypeId} {R : Ending → World → Prop} (hv : evs ρ l = some vs) (hf : ∀ args w, (callFunc f args).run P w = .ok (.enter f args) w)
    (hc : Calls P f vs.toArray w R) (hR : ∀ e w', R e w' → (∃ v, e = .returned v ∧ K v w') ∨ ∃ c, e = .panicked c ∧ WQ Q N D (.panic c) ρ w') : XW P Q N D ρ w (.call ⟨.value (.func f), l.toArray, tys⟩) ty K := by
  intro a dst pos af g ha
  unfold Oper.wp
  have : (execOp a.eval ⟨dst, .call ⟨.value (.func f), l.toArray, tys⟩, ty, pos, af, g⟩).run P w = .ok (.enter f vs.toArray) w := by
    simp [execOp, resolve, Deferred.ofValue, Act.eval, invoke, ha.evals hv, hf]
  rw [this]
  refine Calls.mono hc ?_
  intro e w' he
  rcases hR e w' he with ⟨v, rfl, hk⟩ | ⟨c, rfl, hk⟩
  · exact ⟨v, rfl, hk⟩
  · exact hk a ha
theorem xh_callE {f : Nat} {l : List Operand} {vs : List Value} {tys : Array TypeId} {R Rp : Value → List Res → List Res → Prop} (hv : evs ρ l = some vs) (hf : ∀ args w, (callFunc f args).run P w = .ok (.enter f args) w)
    (hc : ConE P f vs X0 S0 R Rp) (is : List Nat) (hX : takeR is X = some (X0, Xr)) (js : List Nat) (hS : getR js S = some S0)
    (kp : ∀ v X' S', Rp v X' S' → HQ Q N D (.panic (pan v)) ρ b (X' ++ Xr) (S' ++ S)) (k : ∀ v X' S', R v X' S' → K v (X' ++ Xr) (S' ++ S)) : XH P Q N D ρ b X S (.call ⟨.value (.func f), l.toArray, tys⟩) ty K := fun w m => by
  have m1 := m.perm (takeR_perm _ _ _ _ hX)
  refine x_callE hv hf (hc w (m1.part (getR_sub _ _ _ hS))) ?_
  rintro e w' (⟨v, X', S', rfl, hR, m'⟩ | ⟨v, X', S', rfl, hR, m'⟩)
  · exact .inl ⟨v, rfl, _, _, m1.frame (getR_sub _ _ _ hS) m', k v X' S' hR⟩
  · exact .inr ⟨_, rfl, kp v X' S' hR w' (m1.frame (getR_sub _ _ _ hS) m')⟩
theorem hthen_panic {K : Act → World → Prop} {c : List PanicEntry} (h : HQ Q N D (.panic c) ρ b X S) : HQ (Exit.then K Q) N D (.panic c) ρ b X S := h
end
theorem henterE {P : Program} {f : Nat} {fn : Func} {c : Code} {vs : List Value} {R Rp : Value → List Res → List Res → Prop} {N : Nat} {X0 S0 : List Res} (hf : P.funcs[f]? = some fn) (hb : fn.body = some c) (hN : fn.ntmps = N) (hl : vs.length ≤ N)
    (h : ∀ b, HC P (bodyPost P fn (RE b R Rp)) N [] c (argsEnv vs 0) b X0 S0) : ConE P f vs X0 S0 R Rp := fun w m => enter hf hb hN hl (h _ w m)
section
variable {P : Program} {fn : Func} {R Rp : Value → List Res → List Res → Prop} {N : Nat} {D : List Deferred} {ρ : Env} {b : Base} {X X' Xz Xr X0 S S' S0 : List Res} {e : Exit} {u : FrameMode}
theorem bodyPost_mono {R1 R2 : Ending → World → Prop} (h : ∀ e w, R1 e w → R2 e w) : ∀ e a w, bodyPost P fn R1 e a w → bodyPost P fn R2 e a w
  | .normal, a, w, ⟨h1, v, h2, h3⟩ => ⟨h1, v, h2, h _ _ h3⟩
  | .ret, a, w, ⟨h1, v, h2, h3⟩ => ⟨h1, v, h2, h _ _ h3⟩
  | .panic c, a, w, ⟨h1, h2⟩ => ⟨h1, h _ _ h2⟩
  | .outgrown, a, w, h1 => h _ _ h1
  | .exit _, a, w, h1 => h1.elim
  | .goto _, a, w, h1 => h1.elim
/-- the normal end of what may end in a panic -/
theorem hretE (h : HQ (bodyPost P fn (RB b R)) N D e ρ b X S) : HQ (bodyPost P fn (RE b R Rp)) N D e ρ b X S := fun w m a ha =>
  bodyPost_mono (fun e w h => by obtain ⟨v, X', S', h1, h2, h3⟩ := h; exact .inl ⟨v, X', S', h1, h2, h3⟩) _ _ _ (h w m a ha)
theorem hpanE {v : Value} (is : List Nat) (hX : takeR is X = some (X', Xz)) (js : List Nat) (hS : getR js S = some S') (hR : Rp v X' S') : HQ (bodyPost P fn (RE b R Rp)) N [] (.panic (pan v)) ρ b X S := fun w m a ha =>
  ⟨ha.df, .inr ⟨v, X', S', rfl, hR, m.out is hX js hS⟩⟩
/-- where a function with calls at its end leaves, in any mode -/
def HEu (P : Program) (fn : Func) (b : Base) (R : Value → List Res → List Res → Prop) (N : Nat) (D : List Deferred) (ρ : Env) (X S : List Res) (u : FrameMode) : Prop := ∀ w, Mem b X S w → ∀ tmps : Array Value, (∀ t v, get ρ t = some v → tmps[t]? = some v) → Go.Leaves P fn tmps (RB b R) D u w
theorem hleaveN (he : Leaves e) (h : HEu P fn b R N D ρ X S .returning) : HQ (bodyPostD P fn (RB b R)) N D e ρ b X S := hleave he h
theorem hleaveP {c : List PanicEntry} (h : HEu P fn b R N D ρ X S (.panicking c)) : HQ (bodyPostD P fn (RB b R)) N D (.panic c) ρ b X S := fun w m a ha => by
  have := h w m a.tmps ha.gt
  show Go.Leaves P fn a.tmps (RB b R) a.defers (.panicking c) w
  rw [ha.df]
  exact this
/-- a contract of what is called at a function's end: how it then goes on -/
def ConD (P : Program) (f : Nat) (args : List Value) (u : FrameMode) (X0 S0 : List Res) (R : FrameMode → List Res → List Res → Prop) : Prop :=
  ∀ w, Mem ⟨w, feet X0, feet S0⟩ X0 S0 w → CallsD P f args.toArray u w fun e u' w' => e = .returned (.tuple #[]) ∧ ∃ X' S', R (settle u') X' S' ∧ Mem ⟨w, feet X0, feet S0⟩ X' S' w'
theorem hdone {f : Nat} {vs cap : List Value} {Rd : FrameMode → List Res → List Res → Prop} (hu : u ≠ .run) (hcall : ∀ args w, (callFunc f args).run P w = .ok (.enter f args) w) (hc : ConD P f (vs ++ cap) u X0 S0 Rd) (is : List Nat) (hX : takeR is X = some (X0, Xr)) (js : List Nat) (hS : getR js S = some S0)
    (k : ∀ u' X' S', Rd u' X' S' → HEu P fn b R N D ρ (X' ++ Xr) (S' ++ S) u') : HEu P fn b R N (⟨.fn (.func f) cap.toArray, vs.toArray⟩ :: D) ρ X S u := fun w m tmps ht => by
  have m1 := m.perm (takeR_perm _ _ _ _ hX)
  refine leaves_cons (f := f) (args := (vs ++ cap).toArray) hu ?_ ?_
  · simp [invoke, hcall]
  · refine CallsD.mono (hc w (m1.part (getR_sub _ _ _ hS))) ?_
    rintro e u' w' ⟨rfl, X', S', hR, m'⟩
    exact k _ _ _ hR w' (m1.frame (getR_sub _ _ _ hS) m') tmps ht
end
/-! ### what recovers -/
section
variable {P : Program} {ops : Array Oper} {fn : Func} {N : Nat} {D : List Deferred} {ρ ρ' : Env} {w : World} {c₀ : Frame} {cs : List Frame} {R : Ending → FrameMode → World → Prop} {Q : Exit → Act → List Frame → World → Prop} {op : Op} {ty : TypeId} {pos : String} {af : Array Edge} {d : Nat} {v : Value} {rest : List Nat} {u : FrameMode}
/-- operations that look at who called -/
def SL (P : Program) (ops : Array Oper) (Q : Exit → Act → List Frame → World → Prop) (N : Nat) (D : List Deferred) (l : List Nat) (ρ : Env) (cs : List Frame) (w : World) : Prop := ∀ a, Ag N D ρ a → wpOpsS P ops Q l a cs w
theorem sl_y {i : Nat} (ho : ops[i]? = some ⟨some d, op, ty, pos, af, none⟩) (h : Yl P N D ρ w op ty v) (k : SL P ops Q N D rest ((d, v) :: ρ) cs w) (hd : d < N := by decide) : SL P ops Q N D (i :: rest) ρ cs w := fun a ha => by
  simp only [wpOpsS, ho]
  rw [if_pos (by simp [Region.wanted]), h a (some d) pos af none ha]
  exact k _ (ha.put hd)
theorem sl_rec {i : Nat} {tys : Array TypeId} {pv : Value} {older : List PanicEntry} (ho : ops[i]? = some ⟨some d, .call ⟨.builtin .recover, #[], tys⟩, ty, pos, af, none⟩) (hu : c₀.mode = .panicking ({ v := pv, recovered := false } :: older))
    (k : SL P ops Q N D rest ((d, pv) :: ρ) ({ c₀ with mode := .panicking ({ v := pv, recovered := true } :: older) } :: cs) w) (hd : d < N := by decide) : SL P ops Q N D (i :: rest) ρ (c₀ :: cs) w := fun a ha => by
  have hr : (execOp a.eval ⟨some d, .call ⟨.builtin .recover, #[], tys⟩, ty, pos, af, none⟩).run P w = .ok .recover w := by
    simp [execOp, resolve, invoke, builtin]
  have h2 : recoverD (c₀ :: cs) = some (pv, { c₀ with mode := .panicking ({ v := pv, recovered := true } :: older) } :: cs) := by simp [recoverD, hu]
  simp only [wpOpsS, ho]
  rw [if_pos (by simp [Region.wanted]), hr]
  simp only [h2]
  exact k _ (ha.put hd)
theorem sl_rec0 {i : Nat} {tys : Array TypeId} (ho : ops[i]? = some ⟨some d, .call ⟨.builtin .recover, #[], tys⟩, ty, pos, af, none⟩) (hu : c₀.mode = .returning)
    (k : SL P ops Q N D rest ((d, .nilIface) :: ρ) (c₀ :: cs) w) (hd : d < N := by decide) : SL P ops Q N D (i :: rest) ρ (c₀ :: cs) w := fun a ha => by
  have hr : (execOp a.eval ⟨some d, .call ⟨.builtin .recover, #[], tys⟩, ty, pos, af, none⟩).run P w = .ok .recover w := by
    simp [execOp, resolve, invoke, builtin]
  have h2 : recoverD (c₀ :: cs) = none := by simp [recoverD, hu]
  simp only [wpOpsS, ho]
  rw [if_pos (by simp [Region.wanted]), hr]
  simp only [h2]
  exact k _ (ha.put hd)
/-- the rest of the code does not look at who called -/
theorem s_rest {c : Code} {a : Act} {b : Base} {X S : List Res} {R0 : Ending → World → Prop} (m : Mem b X S w) (h : HC P (bodyPost P fn R0) N [] c ρ b X S) (ha : Ag N [] ρ a) (hR : ∀ e w', R0 e w' → ∃ v, e = .returned v ∧ R (.returned v) u w') : c.wpS P (bodyPostS P fn c₀ cs R) a ({ c₀ with mode := u } :: cs) w := by
  refine wpS_of_wp (wp_mono (h w m a ha) ?_)
  intro e a' w' hb
  cases e with
  | normal =>
    obtain ⟨h1, v, h2, h3⟩ := hb
    obtain ⟨v', hv, h4⟩ := hR _ _ h3
    cases hv
    exact ⟨h1, u, rfl, v, h2, h4⟩
  | ret =>
    obtain ⟨h1, v, h2, h3⟩ := hb
    obtain ⟨v', hv, h4⟩ := hR _ _ h3
    cases hv
    exact ⟨h1, u, rfl, v, h2, h4⟩
  | panic c =>
    obtain ⟨h1, h2⟩ := hb
    obtain ⟨v', hv, h4⟩ := hR _ _ h2
    cases hv
  | outgrown =>
    obtain ⟨v', hv, h4⟩ := hR _ _ hb
    cases hv
  | exit id => exact hb.elim
  | goto l => exact hb.elim
end
end Go.Eng
end
section
/- The engine over things in memory, ninth part: a panic out of a region whose order is open. No statement is proved here. -/
set_option linter.unusedVariables false
set_option linter.unusedSimpArgs false
set_option linter.unusedSectionVars false
namespace Go.Eng
open Go.RowKit
/-- but for these temporaries the same -/
def Agree (ds : List Nat) (a a' : Act) : Prop := a'.defers = a.defers ∧ a'.tmps.size = a.tmps.size ∧ ∀ t : Nat, t ∉ ds → a'.tmps[t]? = a.tmps[t]?
theorem Agree.refl (ds : List Nat) (a : Act) : Agree ds a a := ⟨rfl, rfl, fun _ _ => rfl⟩
theorem Agree.put {ds : List Nat} {a a' : Act} {d : Nat} {v : Value} (hd : d ∈ ds) (h : Agree ds a a') : Agree ds (a.put (some d) v) a' := by
  obtain ⟨h1, h2, h3⟩ := h
  refine ⟨h1, by rw [h2]; simp [Act.put], fun t ht => ?_⟩
  rw [h3 t ht]
  have hne : d ≠ t := fun e => ht (e ▸ hd)
  simp only [Act.put]
  rw [Array.getElem?_setIfInBounds_ne hne]
/-- Q; a panic: whatever the region's own temporaries are -/
def PanQ (ds : List Nat) (Q : Exit → Act → World → Prop) : Exit → Act → World → Prop
  | .panic c, a, w => ∀ a', Agree ds a a' → Q (.panic c) a' w
  | .outgrown, _, _ => False
  | e, a, w => Q e a w
section
variable {P : Program} {ops : Array Oper} {Q : Exit → Act → World → Prop}
theorem wpG_of_seqE {T : Nat → World → Prop} {X : List Nat} (hs : Region.noSelect ops = true) (hQ : ∀ (i : Nat) (o : Oper), ops[i]? = some o → ∀ c a v w, Q (.panic c) (a.put o.dst v) w → Q (.panic c) a w) : ∀ (L : List (Nat × Option Nat)) (sq : List (Option Nat × Oper)) (l : Array Bool) (a : Act) (w : World) (n k : Nat),
    pickG ops L = some sq → seqOkG ops X L l = true → L.length ≤ n → Kept ops l → cnt X l = k → T k w → wpSeqG P ops Q T k sq a w → wpG P ops Q (fun l w => T (cnt X l) w) n l a w
  | [], sq, l, a, w, n, k, hp, hk, _, _, _, _, h => by
    simp only [pickG, Option.some.injEq] at hp
    subst hp
    have hr : Region.ready .any ops l = [] := by simpa [seqOkG] using hk
    cases n with
    | zero => exact ⟨hr, h⟩
    | succ n => exact ⟨fun _ => h, by rw [hr]; simp⟩
  | (i, x) :: r, sq, l, a, w, 0, k, hp, hk, hf, _, _, _, h => by simp at hf
  | (i, x) :: r, sq, l, a, w, n + 1, k, hp, hk, hf, hK, hc, hT, h => by
    unfold pickG at hp
    split at hp
    · rename_i o l' ho hl'
      cases hp
      have hf' : r.length ≤ n := by simp at hf; omega
      cases x with
      | none =>
        simp only [seqOkG, Bool.and_eq_true, beq_iff_eq] at hk
        obtain ⟨⟨hrd, hct⟩, hk⟩ := hk
        have hmem : i ∈ Region.ready .any ops l := by rw [hrd]; simp
        have hcs : cnt X (l.setIfInBounds i true) = k + 1 := by rw [cnt_set (mem_ready.1 hmem).1, hct, hc]
        have hK' := hK.set hmem
        refine ⟨fun h0 => (by rw [h0] at hmem; cases hmem), fun j hj => ?_⟩
        have hji : j = i := by rw [hrd] at hj; simpa using hj
        subst hji
        unfold wpOp
        simp only [ho]
        simp only [wpSeqG] at h
        split at h
        · rename_i hw
          rw [if_pos hw]
          refine .inl (Oper.wp_mono ?_ h)
          rintro a' w' ⟨hS', h'⟩
          exact ⟨by rw [hcs]; exact hS', wpG_of_seqE hs hQ r l' _ a' w' n (k + 1) hl' hk hf' hK' hcs hS' h'⟩
        · rename_i hw
          rw [if_neg hw]
          exact ⟨by rw [hcs]; exact h.1, wpG_of_seqE hs hQ r l' _ _ w n (k + 1) hl' hk hf' hK' hcs h.1 h.2⟩
      | some m =>
        simp only [seqOkG, Bool.and_eq_true, Bool.not_eq_true'] at hk
        obtain ⟨⟨⟨⟨hfree, hcon⟩, hX⟩, hcap⟩, hk⟩ := hk
        obtain ⟨v, hy, h'⟩ := h
        have hmem : i ∈ Region.ready .any ops l := by simpa using hcon
        have hcs : cnt X (l.setIfInBounds i true) = k := by rw [cnt_ne hX, hc]
        refine wpG_first ho (Region.noSelect_spec hs) (fun c a w => hQ i o ho c a _ w) (fun l' => Kept ops l' ∧ ∀ q, l.getD q false = true → l'.getD q false = true) (fun l' j hR hj => ⟨hR.1.set hj, fun q hq => getD_set_true (hR.2 q hq)⟩)
          (fun l' w' => by rw [cnt_ne hX]) n l a w (Region.free_spec ho hfree) hmem ?_ ⟨hK, fun q hq => hq⟩ (by rw [hc]; exact hT) (wpG_of_seqE hs hQ r l' _ _ w n k hl' hk hf' (hK.set hmem) hcs hT h')
        rcases hy with ⟨hw, hv⟩ | hy
        · refine .inl ⟨hw, fun w' hw' => hv w' ?_⟩
          obtain ⟨l2, ⟨hK2, hsub⟩, hun, hT2⟩ := hw'
          exact ⟨cnt X l2, by rw [← hc]; exact cnt_mono hsub, cnt_cap hK2 hun hcap, hT2⟩
        · exact .inr hy
    · cases hp
theorem wp_region_seqE {T : Nat → World → Prop} {X ds : List Nat} {id : Nat} {a : Act} {w : World} {sq : List (Option Nat × Oper)} (L : List (Nat × Option Nat)) (hds : ops.all (fun o => match o.dst with | some d => ds.contains d | none => true) = true) (hm : P.follows .mixedOrders = true) (hs : Region.noSelect ops = true) (hk : seqOkG ops X L (Array.replicate ops.size false) = true) (hn : L.length ≤ ops.size)
    (hp : pickG ops L = some sq) (hT : T 0 w.drew) (h : wpSeqG P ops (PanQ ds Q) T 0 sq a w.drew) : (Code.region id ops true).wp P Q a w := by
  refine Code.wp_mono (Q := PanQ ds Q) (fun e a w q => by cases e <;> first | exact q | exact q.elim | exact q a (.refl _ _)) ?_
  refine wp_region_any hm (wpAny_of_wpG _ _ _ _ (wpG_of_seqE (X := X) hs (fun i o ho c a v w q a' ha' => ?_) L sq _ a _ _ 0 hp hk hn ?_ ?_ hT h))
  · have hmem : o ∈ ops := by
      obtain ⟨hi, he⟩ := Array.getElem?_eq_some_iff.1 ho
      exact he ▸ Array.getElem_mem hi
    have := Array.all_eq_true_iff_forall_mem.1 hds o hmem
    cases hd : o.dst with
    | none => rw [hd] at q; exact q a' ha'
    | some d =>
      rw [hd] at this q
      exact q a' (ha'.put (by simpa using this))
  · intro j hj
    simp [Array.getElem?_replicate] at hj
    split at hj <;> cases hj
  · unfold cnt
    rw [List.countP_eq_zero]
    intro x _
    simp [Array.getElem?_replicate]
    split <;> rfl
end
/-- what is known of the other temporaries -/
def offE (ds : List Nat) (ρ : Env) : Env := ρ.filter fun p => !ds.contains p.1
theorem offE_get {ds : List Nat} : ∀ {ρ : Env} {t : Nat} {v : Value}, get (offE ds ρ) t = some v → t ∉ ds ∧ get ρ t = some v
  | [], t, v, h => by simp [offE, get] at h
  | (t0, v0) :: ρ, t, v, h => by
    unfold offE at h
    rw [List.filter_cons] at h
    by_cases hc : ds.contains t0 = true
    · rw [if_neg (by simpa using hc)] at h
      obtain ⟨h1, h2⟩ := offE_get (ρ := ρ) h
      refine ⟨h1, ?_⟩
      have hne : t0 ≠ t := fun e => h1 (by rw [← e]; simpa using hc)
      simp only [get]
      have hbf : Nat.beq t0 t = false := by
        cases hb : Nat.beq t0 t with
        | true => exact absurd (Nat.eq_of_beq_eq_true hb) hne
        | false => rfl
      rw [hbf]
      exact h2
    · rw [if_pos (by simpa using hc)] at h
      simp only [get] at h ⊢
      cases hb : Nat.beq t0 t with
      | true =>
        rw [hb] at h
        have : t0 = t := Nat.eq_of_beq_eq_true hb
        subst this
        exact ⟨by simpa using hc, h⟩
      | false =>
        rw [hb] at h
        exact offE_get (ρ := ρ) h
section
variable {P : Program} {ops : Array Oper} {Q : Exit → Act → World → Prop} {N : Nat} {D : List Deferred} {ρ ρ' : Env} {b : Base} {X X' X0 Xr S S' S0 X1 S1 : List Res} {k c : Nat} {ds : List Nat}
theorem hdrwBE {id : Nat} {l : List (Option Nat × Oper)} (ds : List Nat) (is js : List Nat) (hX : takeR is X = some (X1, Xr)) (hS : getR js S = some S1) (Xs : List Nat) (L : List (Nat × Option Nat)) (hm : P.follows .mixedOrders = true)
    (hk : (Region.noSelect ops && seqOkG ops Xs L (Array.replicate ops.size false) && decide (L.length ≤ ops.size)) = true) (hds : ops.all (fun o => match o.dst with | some d => ds.contains d | none => true) = true)
    (hp : pickG ops L = some l) (c : Nat) (h : HT P ops (PanQ ds Q) (TT b X1 S1 c) N D 0 l ρ b X S) : HC P Q N D (.region id ops true) ρ b X S := fun w m a ha => by
  simp only [Bool.and_eq_true, decide_eq_true_eq] at hk
  exact wp_region_seqE (X := Xs) L hds hm hk.1.1 hk.1.2 hk.2 hp (fun _ => (wk is js hX hS).mem (m.lift (Fr.drew w))) (h _ (m.lift (Fr.drew w)) a ha)
theorem htendE {T : Nat → World → Prop} (h : HQ Q N D .normal ρ b X S) : HT P ops (PanQ ds Q) T N D k [] ρ b X S := fun w m a ha => h w m a ha
theorem hpanq {e : List PanicEntry} (h : HQ Q N D (.panic e) (offE ds ρ) b X S) : HQ (PanQ ds Q) N D (.panic e) ρ b X S := fun w m a ha a' hag => by
  obtain ⟨h1, h2, h3⟩ := hag
  refine h w m a' ⟨by rw [h2]; exact ha.sz, by rw [h1]; exact ha.df, fun t v ht => ?_⟩
  obtain ⟨h4, h5⟩ := offE_get ht
  rw [h3 t h4]
  exact ha.gt t v h5
end
/-! ### a closure that recovers: its first region -/
section
variable {P : Program} {ops : Array Oper} {fn : Func} {Q : Exit → Act → List Frame → World → Prop} {N : Nat} {D : List Deferred} {ρ : Env} {b : Base} {X X' S S' : List Res} {cs : List Frame} {c₀ : Frame} {rest : List Nat} {op : Op} {ty : TypeId} {pos : String} {af : Array Edge} {d i : Nat} {v : Value}
def HSL (P : Program) (ops : Array Oper) (Q : Exit → Act → List Frame → World → Prop) (N : Nat) (D : List Deferred) (l : List Nat) (ρ : Env) (cs : List Frame) (b : Base) (X S : List Res) : Prop := ∀ w, Mem b X S w → SL P ops Q N D l ρ cs w
theorem wpOpsS_step {o : Oper} {a : Act} {w : World} (ho : ops[i]? = some o) (hw : Region.wanted o (yielded ops a.tmps) = true) (h : o.wp P a w (fun a' w' => wpOpsS P ops Q rest a' cs w') (fun e a' w' => Q e a' cs w')) : wpOpsS P ops Q (i :: rest) a cs w := by
  simp only [wpOpsS, ho]
  rw [if_pos hw]
  unfold Oper.wp at h
  split
  · rename_i w' hr
    rw [hr] at h
    exact h.elim
  · exact h
theorem hsl_y (ho : ops[i]? = some ⟨some d, op, ty, pos, af, none⟩) (h : ∀ {w}, Mem b X S w → Yl P N D ρ w op ty v) (k : HSL P ops Q N D rest ((d, v) :: ρ) cs b X S) (hd : d < N := by decide) : HSL P ops Q N D (i :: rest) ρ cs b X S := fun w m => sl_y ho (h m) (k w m) hd
theorem hsl_x (ho : ops[i]? = some ⟨some d, op, ty, pos, af, none⟩) (h : XH P (fun e a w => Q e a cs w) N D ρ b X S op ty fun v X' S' => HSL P ops Q N D rest ((d, v) :: ρ) cs b X' S') (hd : d < N := by decide) : HSL P ops Q N D (i :: rest) ρ cs b X S := fun w m a ha => by
  refine wpOpsS_step ho (by simp [Region.wanted]) (Oper.wp_mono ?_ (h w m a (some d) pos af none ha))
  rintro a' w' ⟨v, rfl, X', S', m', hk⟩
  exact hk w' m' _ (ha.put hd)
theorem hsl_x0 (ho : ops[i]? = some ⟨none, op, ty, pos, af, none⟩) (h : XH P (fun e a w => Q e a cs w) N D ρ b X S op ty fun _ X' S' => HSL P ops Q N D rest ρ cs b X' S') : HSL P ops Q N D (i :: rest) ρ cs b X S := fun w m a ha => by
  refine wpOpsS_step ho (by simp [Region.wanted]) (Oper.wp_mono ?_ (h w m a none pos af none ha))
  rintro a' w' ⟨v, rfl, X', S', m', hk⟩
  exact hk w' m' _ ha
theorem hsl_rec {tys : Array TypeId} {pv : Value} {older : List PanicEntry} (ho : ops[i]? = some ⟨some d, .call ⟨.builtin .recover, #[], tys⟩, ty, pos, af, none⟩) (hu : c₀.mode = .panicking ({ v := pv, recovered := false } :: older))
    (k : HSL P ops Q N D rest ((d, pv) :: ρ) ({ c₀ with mode := .panicking ({ v := pv, recovered := true } :: older) } :: cs) b X S) (hd : d < N := by decide) : HSL P ops Q N D (i :: rest) ρ (c₀ :: cs) b X S := fun w m => sl_rec ho hu (k w m) hd
theorem hsl_rec0 {tys : Array TypeId} (ho : ops[i]? = some ⟨some d, .call ⟨.builtin .recover, #[], tys⟩, ty, pos, af, none⟩) (hu : c₀.mode = .returning) (k : HSL P ops Q N D rest ((d, .nilIface) :: ρ) ({ c₀ with mode := .returning } :: cs) b X S) (hd : d < N := by decide) : HSL P ops Q N D (i :: rest) ρ (c₀ :: cs) b X S := fun w m =>
  sl_rec0 ho hu (by have := k w m; rwa [show ({ c₀ with mode := FrameMode.returning } : Frame) = c₀ by cases c₀; simp_all] at this) hd
theorem hslmem {l : List Nat} (h : ∀ w, Mem b X S w → Mem b X' S' w) (k : HSL P ops Q N D l ρ cs b X' S') : HSL P ops Q N D l ρ cs b X S := fun w m => k w (h w m)
/-- what is said behind the region: the rest is ordinary code -/
def RD' (b : Base) (R : FrameMode → List Res → List Res → Prop) : Ending → FrameMode → World → Prop := fun e u' w' => e = .returned (.tuple #[]) ∧ ∃ X' S', R (settle u') X' S' ∧ Mem b X' S' w'
def QD (P : Program) (fn : Func) (c₀ : Frame) (cs : List Frame) (b : Base) (R : FrameMode → List Res → List Res → Prop) (c2 : Code) : Exit → Act → List Frame → World → Prop := Exit.thenS (fun a cs' w => c2.wpS P (bodyPostS P fn c₀ cs (RD' b R)) a cs' w) (bodyPostS P fn c₀ cs (RD' b R))
theorem hsl_done {R : FrameMode → List Res → List Res → Prop} {c2 : Code} {u2 : FrameMode} (h : HC P (bodyPost P fn (RB b fun v X S => v = .tuple #[] ∧ R (settle u2) X S)) N [] c2 ρ b X S) : HSL P ops (QD P fn c₀ cs b R c2) N [] [] ρ ({ c₀ with mode := u2 } :: cs) b X S := fun w m a ha => by
  refine s_rest m h ha ?_
  rintro e w' ⟨v, X', S', rfl, ⟨rfl, hR⟩, m'⟩
  exact ⟨_, rfl, rfl, X', S', hR, m'⟩
end
theorem henterS {P : Program} {f : Nat} {fn : Func} {id : Nat} {ops : Array Oper} {c2 : Code} {vs : List Value} {u : FrameMode} {N : Nat} {X0 S0 : List Res} {R : FrameMode → List Res → List Res → Prop} (hf : P.funcs[f]? = some fn) (hb : fn.body = some (.seq (.region id ops false) c2)) (hN : fn.ntmps = N) (hl : vs.length ≤ N)
    (h : ∀ (b : Base) (c₀ : Frame) (cs : List Frame), c₀.mode = u → HSL P ops (QD P fn c₀ cs b R c2) N [] (List.range ops.size) (argsEnv vs 0) (c₀ :: cs) b X0 S0) : ConD P f vs u X0 S0 R := fun w m => by
  refine callsD_of_wpS hf hb fun c₀ cs hu => ?_
  refine wpS_seq (wpS_region ?_)
  refine h _ c₀ cs hu w m _ ⟨?_, rfl, fun t v ht => ?_⟩
  · simp [hN]; omega
  · obtain ⟨_, h2⟩ := get_argsEnv vs 0 t v ht
    have hlt := (List.getElem?_eq_some_iff.1 h2).1
    rw [Array.getElem?_append_left (by simpa using hlt)]
    simpa using h2
/-! ### panic, and assertions -/
section
variable {P : Program} {Q : Exit → Act → World → Prop} {N : Nat} {D : List Deferred} {ρ : Env} {b : Base} {X S : List Res} {ty t : TypeId} {x : Operand} {v : Value} {K : Value → List Res → List Res → Prop}
theorem xh_panic (hx : ev ρ x = some (.iface t v)) (h : HQ Q N D (.panic (pan (.iface t v))) ρ b X S) : XH P Q N D ρ b X S (.panic x) ty K := fun w m a dst pos af g ha => by
  unfold Oper.wp
  have : (execOp a.eval ⟨dst, .panic x, ty, pos, af, g⟩).run P w = .halt (.panic (.iface t v)) w := by
    simp [execOp, ha.eval hx, Instr.panic, goPanic]
  rw [this]
  exact h w m a ha
theorem run_tasS {fs : Array Field} {xT : TypeId} {w : World} (ht : P.underlying t = some (.struct fs)) : (Instr.typeAssert (.iface t v) xT t true).run P w = .ok (.tuple #[v, .bool true]) w := by
  simp [Instr.typeAssert, run_underlying ht]
theorem run_tas0 {fs : Array Field} {xT : TypeId} {w : World} {z : Value} {sz bytes : Nat} (ht : P.underlying t = some (.struct fs)) (hT : TI P t z sz bytes) : (Instr.typeAssert .nilIface xT t true).run P w = .ok (.tuple #[z, .bool false]) w := by
  simp [Instr.typeAssert, run_underlying ht, run_zero hT]
end
section
variable {P : Program} {fn : Func} {R : Value → List Res → List Res → Prop} {N : Nat} {ρ : Env} {b : Base} {X X' Xz S S' : List Res} {w : World}
theorem run_load1 {t : TypeId} {p : Addr} {v : Value} (ha : aggB P t = some false) (hc : w.cell? p = some v) : (loadVar t p).run P w = .ok v w := by
  simp [loadVar, run_isAgg ha, hc]
theorem hlastCC {t t' : Nat} {ty ty' : TypeId} {p p' : Addr} {v v' : Value} (hr : fn.results = #[.cell t ty, .cell t' ty']) (hv : get ρ t = some (.pointer (some p))) (hv' : get ρ t' = some (.pointer (some p'))) (ha : aggB P ty = some false) (ha' : aggB P ty' = some false)
    (hc : ∀ {w}, Mem b X S w → w.cell? p = some v) (hc' : ∀ {w}, Mem b X S w → w.cell? p' = some v') (is : List Nat) (hX : takeR is X = some (X', Xz)) (js : List Nat) (hS : getR js S = some S') (hR : R (.tuple #[v, v']) X' S') : HEu P fn b R N [] ρ X S .returning := fun w m tmps h =>
  ⟨.tuple #[v, v'], by have h1 := tmps_getD h hv; have h2 := tmps_getD h hv'; simp at h1 h2; simp [results, hr, h1, h2, asAddr, run_load1 ha (hc m), run_load1 ha' (hc' m)], _, _, _, rfl, hR, m.out is hX js hS⟩
theorem hret4 {e : Exit} {t1 t2 t3 t4 : Nat} {v1 v2 v3 v4 : Value} (he : Leaves e) (hr : fn.results = #[.tmp t1, .tmp t2, .tmp t3, .tmp t4]) (h1 : get ρ t1 = some v1) (h2 : get ρ t2 = some v2) (h3 : get ρ t3 = some v3) (h4 : get ρ t4 = some v4) (is : List Nat) (hX : takeR is X = some (X', Xz)) (js : List Nat) (hS : getR js S = some S') (hR : R (.tuple #[v1, v2, v3, v4]) X' S') : HQ (bodyPost P fn (RB b R)) N [] e ρ b X S :=
  fun w m => wq_leave he (fun a hA => by have g1 := hA.getD h1; have g2 := hA.getD h2; have g3 := hA.getD h3; have g4 := hA.getD h4; simp at g1 g2 g3 g4; simp [results, hr, g1, g2, g3, g4]) ⟨_, _, _, rfl, hR, m.out is hX js hS⟩
theorem humem {u : FrameMode} {D : List Deferred} (h : ∀ w, Mem b X S w → Mem b X' S' w) (k : HEu P fn b R N D ρ X' S' u) : HEu P fn b R N D ρ X S u := fun w m => k w (h w m)
end
end Go.Eng
end
section
/- The engine over things in memory, tenth part: one thing out of a pack, and back; a slice of one's own from a place on; keys of n bytes. No statement is proved here. -/
set_option linter.unusedVariables false
set_option linter.unusedSimpArgs false
set_option linter.unusedSectionVars false
namespace Go.Eng
open Go.RowKit
open Go.ChangeMaps (setBlock)
section
variable {b : Base} {X S Xp Xq : List Res} {w : World} {r : Res}
theorem Mem.packPerm (m : Mem b (RPack Xp :: X) S w) (h : Xp.Perm Xq) : Mem b (RPack Xq :: X) S w := ((m.unpack).perm (h.append_right X)).pack
theorem Mem.packTake (m : Mem b (RPack Xp :: X) S w) (i : Nat) (h : Xp[i]? = some r) : Mem b (r :: RPack (Xp.eraseIdx i) :: X) S w := by
  obtain ⟨hlt, rfl⟩ := List.getElem?_eq_some_iff.1 h
  have m1 := (m.packPerm (eraseIdx_perm Xp i hlt).symm).unpack
  rw [List.cons_append] at m1
  have m2 : Mem b (Xp.eraseIdx i ++ (Xp[i] :: X)) S w := m1.perm (List.perm_middle.symm)
  exact (m2.pack).perm (List.Perm.swap ..)
theorem Mem.packPut (m : Mem b (r :: RPack Xp :: X) S w) : Mem b (RPack (r :: Xp) :: X) S w := by
  have m1 : Mem b (RPack Xp :: r :: X) S w := m.perm (List.Perm.swap ..)
  have m2 := m1.unpack
  have m3 : Mem b ((r :: Xp) ++ X) S w := m2.perm (List.perm_middle)
  exact m3.pack
theorem Mem.packNil (m : Mem b X S w) : Mem b (RPack [] :: X) S w := Mem.pack (Xp := []) m
end
/-! ### n bytes as keys -/
abbrev Bn (n : Nat) := {l : List UInt8 // l.length = n}
def KN {n : Nat} (d : Bn n) : Value := DV d.1
theorem bnKey {P : Program} {kt e : TypeId} {n : Nat} (ht : P.underlying kt = some (.array n e)) (he : P.underlying e = some (.int .u8)) (hs : P.cellsOf kt = n) (hse : P.cellsOf e = 1) (hk : P.keyTypeAt 2 kt = true) : KeyK P kt (KN (n := n)) where
  inj a b h := Subtype.ext (DV_inj h)
  check w em d := by
    have h1 : (KN d).formed P kt = true := by simp [Value.formed, KN, DV, ht, b8s_length, d.2, hs]
    have h2 := keyLits_b8 (P := P) (D := 0) (l := d.1) ht he hs hse d.2
    exact run_checkKey_deep em 9998 2 kt hk w 2 (KN d) _ h1 (by simpa [KN, DV, Value.cells] using h2)
  find w k es h := by
    have hag : aggB P kt = some true := by simp [aggB, ht]
    have heq : ∀ q : Bn n, (Op.equal kt (KN k) (KN q)).run P w = .ok (decide (k = q)) w := fun q => by
      have h2 := keyLits_b8 (P := P) (D := 0) (l := k.1) ht he hs hse k.2
      have h3 := keyLits_b8 (P := P) (D := 0) (l := q.1) ht he hs hse q.2
      exact run_eqlK (m := 2) (p := k = q) (by decide) hk hag (by rw [b8s_length, hs]; exact k.2) (by rw [b8s_length, hs]; exact q.2) h2 h3 (by rw [lits_b8_inj]; exact ⟨fun e => Subtype.ext e, fun e => by rw [e]⟩)
    have hnow : ∀ (es : List MapEntry) (i : Nat), es ≠ [] → Instr.findNow (.array n e) (KN k) es i = none := fun es i hne => by
      cases es with
      | nil => exact absurd rfl hne
      | cons x r => rfl
    have hask : ∀ (es : List MapEntry) (i : Nat), (∀ x ∈ es, ∃ q : Bn n, x.key = KN q) → (∃ j x, es[j]? = some x ∧ x.key = KN k ∧ (Instr.findAsking kt (KN k) es i).run P w = .ok (some (i + j, x.val)) w) ∨ ((∀ x ∈ es, x.key ≠ KN k) ∧ (Instr.findAsking kt (KN k) es i).run P w = .ok none w) := by
      intro es
      induction es with
      | nil => intro i _; exact .inr ⟨by simp, rfl⟩
      | cons x r ih =>
        intro i h
        obtain ⟨q, hq⟩ := h x (by simp)
        have hx := heq q
        rw [← hq] at hx
        by_cases hkq : k = q
        · rw [decide_eq_true hkq] at hx
          exact .inl ⟨0, x, rfl, by rw [hq, hkq], by simp [Instr.findAsking, hx]⟩
        · rw [decide_eq_false hkq] at hx
          rcases ih (i + 1) (fun y hy => h y (by simp [hy])) with ⟨j, y, hj, hy, hf⟩ | ⟨hall, hf⟩
          · refine .inl ⟨j + 1, y, by simpa using hj, hy, ?_⟩
            simp [Instr.findAsking, hx, hf]
            omega
          · refine .inr ⟨fun y hy => ?_, by simp [Instr.findAsking, hx, hf]⟩
            rcases List.mem_cons.1 hy with rfl | hy
            · rw [hq]; exact fun e => hkq (Subtype.ext (DV_inj e)).symm
            · exact hall y hy
    cases es with
    | nil => exact .inr ⟨by simp, by simp [Instr.findKey, run_underlying ht, Instr.findNow]⟩
    | cons x r =>
      have h0 := hnow (x :: r) 0 (by simp)
      rcases hask (x :: r) 0 h with ⟨j, y, hj, hy, hf⟩ | ⟨hall, hf⟩
      · refine .inl ⟨j, y, hj, hy, ?_⟩
        simp [Instr.findKey, run_underlying ht, h0, hf]
      · exact .inr ⟨hall, by simp [Instr.findKey, run_underlying ht, h0, hf]⟩
  stays w k := by
    have : Instr.sameBits 10000 (KN k) (KN k) = true := by
      show ((b8s k.1).toArray.size == (b8s k.1).toArray.size && ((b8s k.1).toArray.toList.zip (b8s k.1).toArray.toList).all fun (x, y) => Instr.sameBits 9999 x y) = true
      simp only [beq_self_eq_true, Bool.true_and]
      exact same_u8s 9999 k.1
    simp [Instr.keyThatStays, this]
/-! ### m[k] = f(m[k]): the entry first, then what is stored in it -/
section
variable {κ : Type} [DecidableEq κ] {enc : κ → Value}
def EntAt (enc : κ → Value) (w : World) (b : Nat) (l : List (κ × Value)) (k : κ) (st : Nat) : Prop :=
  ∃ es clock, w.heap[b]? = some (.map es clock) ∧ es.toList.map (fun e => (e.key, e.val)) = l.map (fun p => (enc p.1, p.2)) ∧ (akeys l).Nodup ∧ (∀ e ∈ es.toList, e.born < clock) ∧ (es.toList.map (·.born)).Nodup ∧ ∃ (i : Nat) (x : MapEntry) (u : Value), es.toList[i]? = some x ∧ x.born = st ∧ l[i]? = some (k, u)
def REnt (enc : κ → Value) (b : Nat) (l : List (κ × Value)) (k : κ) (st : Nat) : Res where
  foot i := i = b
  holds w := EntAt enc w b l k st
  keep f h m := by
    obtain ⟨es, clock, hb, rest⟩ := m
    exact ⟨es, clock, (f.block b (lt_of_heap hb) (h b rfl)).trans hb, rest⟩
  low m hk := by
    obtain ⟨es, clock, hb, rest⟩ := m
    exact hk ▸ lt_of_heap hb
theorem aput_aput {l : List (κ × Value)} {k : κ} {u v : Value} : aput (aput l k u) k v = aput l k v := by
  induction l with
  | nil => simp [aput]
  | cons p r ih =>
    obtain ⟨q, x⟩ := p
    by_cases h : q = k
    · simp [aput, h]
    · simp [aput, h, ih]
theorem run_entryM {P : Program} {w : World} {t kt et : TypeId} {b : Nat} {l : List (κ × Value)} {z : Value} {sz bytes : Nat} (ht : P.underlying t = some (.map kt et)) (hT : TI P et z sz bytes) (K : KeyK P kt enc) (h : MapAt enc w b l) (k : κ) :
    ∃ (st : Nat) (w' : World), (Instr.mapEntry t (.map (some b)) (enc k)).run P w = .ok (.tuple #[(aget l k).getD z, .int .i64 (st : Nat)]) w' ∧ EntAt enc w' b (aput l k ((aget l k).getD z)) k st ∧ Fr (fun i => i = b) w w' := by
  have hn := h.keys
  obtain ⟨es, clock, hb, hl, hborn, hnb, hf⟩ := h.found K k
  have hg : (getObj b).run P w = .ok (.map es clock) w := by simp [getObj, Sem.run, hb]
  have hc := K.check w false k
  rcases hf with ⟨i, x, hi, hp, ha, hx, hf⟩ | ⟨ha, hf⟩
  · have hst := K.stays w k
    have hxi : es[i]? = some x := by simpa using hi
    have hsame : es.modify i (fun e => { e with key := enc k }) = es := by
      apply Array.ext'
      apply List.ext_getElem?
      intro j
      rw [Array.toList_modify, List.getElem?_modify]
      by_cases hij : i = j
      · subst hij
        rw [hi]
        show some (if i = i then ({ x with key := enc k } : MapEntry) else x) = some x
        rw [if_pos rfl, ← hx]
      · simp [hij]
    refine ⟨x.born, setBlock w b (.map es clock), ?_, ⟨es, clock, setBlock_at hb, ?_, aput_nodup hn, hborn, hnb, i, x, x.val, hi, rfl, ?_⟩, setBlock_fr⟩
    · rw [ha]
      simp [Instr.mapEntry, run_underlying ht, hg, hc, hf, hxi, hx, hst, hsame, run_setObjM hb, goInt]
    · rw [ha, aput_at hn hp, hl]
      congr 1
      apply List.ext_getElem?
      intro j
      rw [List.getElem?_set]
      by_cases hij : i = j
      · subst hij
        rw [if_pos rfl, if_pos (List.getElem?_eq_some_iff.1 hp).1, hp]
        rfl
      · rw [if_neg hij]
    · rw [ha, aput_at hn hp, List.getElem?_set, if_pos rfl, if_pos (List.getElem?_eq_some_iff.1 hp).1]
      rfl
  · have hlen : es.toList.length = l.length := by have := congrArg List.length hl; simpa using this
    refine ⟨clock, setBlock w b (.map (es.push { key := enc k, val := z, born := clock }) (clock + 1)), ?_, ⟨_, _, setBlock_at hb, ?_, aput_nodup hn, ?_, ?_, es.toList.length, { key := enc k, val := z, born := clock }, z, by simp, rfl, ?_⟩, setBlock_fr⟩
    · rw [ha]
      simp [Instr.mapEntry, run_underlying ht, hg, hc, hf, run_zero hT, run_setObjM hb, goInt]
    · rw [ha, aput_new ha, Array.toList_push, List.map_append, hl]
      simp
    · intro e he
      rw [Array.toList_push] at he
      rcases List.mem_append.1 he with he | he
      · have := hborn e he; omega
      · rcases List.mem_singleton.1 he with rfl
        exact Nat.lt_succ_self _
    · rw [Array.toList_push, List.map_append]
      refine nodup_snoc hnb (fun hm => ?_)
      obtain ⟨e, he, hk⟩ := List.mem_map.1 hm
      have := hborn e he
      simp only at hk
      omega
    · rw [ha, aput_new ha, hlen]
      simp
theorem run_estoreM {P : Program} {w : World} {t : TypeId} {b : Nat} {l : List (κ × Value)} {k : κ} {st : Nat} (h : EntAt enc w b l k st) (v : Value) :
    ∃ w', (Instr.entryStore t (.map (some b)) (.int .i64 (st : Nat)) v).run P w = .ok () w' ∧ MapAt enc w' b (aput l k v) ∧ Fr (fun i => i = b) w w' := by
  obtain ⟨es, clock, hb, hl, hn, hborn, hnb, i, x, u, hi, rfl, hp⟩ := h
  have hg : (getObj b).run P w = .ok (.map es clock) w := by simp [getObj, Sem.run, hb]
  have hidx : es.findIdx? (fun e => ((e.born : Nat) : Int) == ((x.born : Nat) : Int)) = some i := by
    rw [WideElems.findIdx_arr]
    exact WideElems.findIdx_born hnb hi
  refine ⟨setBlock w b (.map (es.modify i fun e => { e with val := v }) clock), ?_, ⟨_, clock, setBlock_at hb, ?_, aput_nodup hn, ?_, ?_⟩, setBlock_fr⟩
  · simp [Instr.entryStore, hg, asInt, asIntOf, hidx, run_setObjM hb]
  · rw [aput_at hn hp, Array.toList_modify]
    apply List.ext_getElem?
    intro j
    have hj := congrArg (fun q : List (Value × Value) => q[j]?) hl
    simp only [List.getElem?_map] at hj
    simp only [List.getElem?_map, List.getElem?_modify, List.getElem?_set]
    by_cases hij : i = j
    · subst hij
      have hlt := (List.getElem?_eq_some_iff.1 hp).1
      rw [hi, hp] at hj
      simp only [Option.map_some, Option.some.injEq, Prod.mk.injEq] at hj
      simp [hi, hlt, hj.1]
    · simp only [hij, if_false]
      simpa using hj
  · intro e he
    rw [Array.toList_modify] at he
    obtain ⟨j, hj⟩ := List.mem_iff_getElem?.1 he
    rw [List.getElem?_modify] at hj
    cases hej : es.toList[j]? with
    | none => rw [hej] at hj; simp at hj
    | some e0 =>
      have := hborn e0 (List.mem_of_getElem? hej)
      rw [hej] at hj
      simp only [Option.map_eq_map, Option.map_some, Option.some.injEq] at hj
      subst hj
      split <;> exact this
  · have : (es.modify i fun e => { e with val := v }).toList.map (·.born) = es.toList.map (·.born) := by
      apply List.ext_getElem?
      intro j
      rw [Array.toList_modify]
      simp only [List.getElem?_map, List.getElem?_modify]
      cases es.toList[j]? with
      | none => rfl
      | some e0 => simp only [Option.map_eq_map, Option.map_some]; split <;> rfl
    rw [this]
    exact hnb
section
variable {P : Program} {Q : Exit → Act → World → Prop} {N : Nat} {D : List Deferred} {ρ : Env} {b : Base} {X S : List Res} {ty t kt et : TypeId} {x y q : Operand} {K : Value → List Res → List Res → Prop} {g : Nat} {l : List (κ × Value)}
theorem xh_entry {k : κ} {z : Value} {sz bytes : Nat} (i : Nat) (hi : X[i]? = some (RMap enc g l)) (hx : ev ρ x = some (.map (some g))) (hy : ev ρ y = some (enc k)) (ht : P.underlying t = some (.map kt et)) (hT : TI P et z sz bytes) (hK : KeyK P kt enc)
    (kk : ∀ st : Nat, K (.tuple #[(aget l k).getD z, .int .i64 (st : Nat)]) (REnt enc g (aput l k ((aget l k).getD z)) k st :: X.eraseIdx i) S) : XH P Q N D ρ b X S (.mapEntry t x y) ty K := fun w m => by
  obtain ⟨st, w', hrun, hE, hf⟩ := run_entryM ht hT hK (m.mapX i hi) k
  refine xw_of_run (v' := .tuple #[(aget l k).getD z, .int .i64 (st : Nat)]) (w' := w') (fun a _ _ _ _ ha => by simp [execOp, ha.eval hx, ha.eval hy, hrun]) ⟨_, _, ?_, kk st⟩
  have m' := m.perm (takeR_perm [i] X [RMap enc g l] (X.eraseIdx i) (by simp [takeR, hi]))
  exact m'.change (r' := REnt enc g (aput l k ((aget l k).getD z)) k st) hf hE (fun k hk => .inl hk)
theorem xh_estore {k : κ} {st : Nat} {v : Value} (i : Nat) (hi : X[i]? = some (REnt enc g l k st)) (hx : ev ρ x = some (.map (some g))) (hy : ev ρ y = some (.int .i64 (st : Nat))) (hq : ev ρ q = some v)
    (kk : K undef (RMap enc g (aput l k v) :: X.eraseIdx i) S) : XH P Q N D ρ b X S (.entryStore t x y q) ty K := fun w m => by
  have hE : EntAt enc w g l k st := m.hx _ (List.mem_of_getElem? hi)
  obtain ⟨w', hrun, hM, hf⟩ := run_estoreM (P := P) (t := t) hE v
  refine xw_of_run0 (w' := w') (fun a _ _ _ _ ha => by simp [execOp, ha.eval hx, ha.eval hy, ha.eval hq, hrun]) ⟨_, _, ?_, kk⟩
  have m' := m.perm (takeR_perm [i] X [REnt enc g l k st] (X.eraseIdx i) (by simp [takeR, hi]))
  exact m'.change (r' := RMap enc g (aput l k v)) hf hM (fun k hk => .inl hk)
end
end
end Go.Eng
end
section
/- Contracts: bytes in fewer (layer 5): how long a match is. -/
set_option linter.unusedVariables false
set_option linter.unusedSimpArgs false
set_option maxRecDepth 20000
set_option maxHeartbeats 2000000
namespace Go.Proofs.YtfikjheicjamhaaDoor
open Go.Eng Go.Hx
theorem longC {A : Option Addr} {n c i k : Nat} {l : List UInt8} (hn : n ≤ 1000000000) (hl : l.length = n) (hi : i ≤ n) (hk : k ≤ i) : Con Tryd.prog 176 [.slice A n c, .int .i64 (i : Nat), .int .i64 (k : Nat)] [] [RRd 1 A n (b8s l)] (fun v_ X_ S_ => v_ = (.int .i64 (lng l i k : Nat)) ∧ X_ = [] ∧ S_ = []) := by
  refine henter (N := 36) Tryd.func176 rfl rfl (by simp) fun b => ?_
  refine hfactC (fun m => rdB (m.rd 0 rfl)) ?_
  rintro ⟨hl_r, hA_r⟩
  refine hseq <| hreg <| hy (fun _ => y_assign rfl) <| hend <| hthen <| hseq <| hreg <| hy (fun _ => y_assign rfl) <| hend <| hthen <| hseq <| hblock <| ?_
  refine hloop1 (fun m => 131 - m) (fun m => [(7, .int .i64 (m : Nat))]) (fun m => []) (fun m => []) (fun m => m ≤ 131 ∧ i + m ≤ n ∧ lngF l i k (131 - m) m = lng l i k) 0 [(6, _), (0, _), (1, _), (2, _)] ⟨rfl, rfl, rfl, rfl, trivial⟩ [] rfl [] rfl (⟨by decide, hi, rfl⟩) ⟨rfl, trivial⟩ (fun m ⟨hm, him, hL⟩ => ?_)
  refine hseq <| hseq <| hdrw [] [(0, some 0), (1, some 0), (2, some 0), (3, some 0), (4, some 0), (5, some 0), (6, some 0), (7, some 0), (8, some 0), (9, some 0), (10, some 0), (11, some 0), (12, some 0), (13, some 0), (14, some 0), (15, some 0), (16, some 0), (17, some 0), (18, some 0), (19, some 0), (20, some 0), (21, some 0), (22, some 0), (23, some 0), (24, some 0)] (by kernel_rfl) (by kernel_rfl) rfl 99 <| htyU (y_move rfl) <| htyU (y_lss rfl rfl) <| htyU (y_move rfl) <| ?_
  refine htsplit 10 rfl (fun h1 => ?_) (fun h1 => ?_)
  · refine htyUg (o := _) rfl rfl rfl (y_move rfl) <| htyUg (o := _) rfl rfl rfl (y_move rfl) <| htyUg (o := _) rfl rfl rfl (y_add rfl rfl (w64 (by omega) (by omega))) <| htyUg (o := _) rfl rfl rfl (y_move rfl) <| htyUg (o := _) rfl rfl rfl (y_lenS rfl Tryd.underlying32) <| htyUg (o := _) rfl rfl rfl (y_lss rfl rfl) <| htyU (y_pickT rfl rfl) <| htyU (y_move rfl) <| ?_
    refine htsplit 18 rfl (fun h2 => ?_) (fun h2 => ?_)
    · refine htyUg (o := _) rfl rfl rfl (y_move rfl) <| htyUg (o := _) rfl rfl rfl (y_move rfl) <| htyUg (o := _) rfl rfl rfl (y_move rfl) <| htyUg (o := _) rfl rfl rfl (y_add rfl rfl (w64 (by omega) (by omega))) <| htyUg (o := _) rfl rfl rfl (y_idxS1 rfl rfl Tryd.underlying32 sz5 hA_r (show ((i + m : Nat) : Int) = _ by omega) (by omega)) <| htyg (o := _) rfl rfl rfl (fun m => y_ld1 rfl ag5 ((m.rd 0 rfl).cell (b8s_get (by omega)))) <| htyUg (o := _) rfl rfl rfl (y_move rfl) <| htyUg (o := _) rfl rfl rfl (y_move rfl) <| htyUg (o := _) rfl rfl rfl (y_move rfl) <| htyUg (o := _) rfl rfl rfl (y_add rfl rfl (w64 (by omega) (by omega))) <| htyUg (o := _) rfl rfl rfl (y_idxS1 rfl rfl Tryd.underlying32 sz5 hA_r (show ((k + m : Nat) : Int) = _ by omega) (by omega)) <| htyg (o := _) rfl rfl rfl (fun m => y_ld1 rfl ag5 ((m.rd 0 rfl).cell (b8s_get (by omega)))) <| htyUg (o := _) rfl rfl rfl (y_eql rfl rfl) <| htyU (y_pickT rfl rfl) <| htend <| hsub (ρ' := [(32, _), (7, _), (6, _), (0, _), (1, _), (2, _)]) ⟨rfl, rfl, rfl, rfl, rfl, rfl, trivial⟩ <| hthen <| ?_
      refine hif rfl (fun h3 => ?_) (fun h3 => ?_)
      · have e3 : l.getD (i + m) 0 = l.getD (k + m) 0 := UInt8.toNat_inj.1 (by omega)
        rw [lngF_more (by omega) ⟨by omega, e3⟩] at hL
        refine hcskip <| hthen <| hblock <| hreg <| hy (fun _ => y_move rfl) <| hy (fun _ => y_add rfl rfl (w64 (by omega) (by omega))) <| hy (fun _ => y_assign rfl) <| hend <| hsub (ρ' := [(7, _), (32, _), (6, _), (0, _), (1, _), (2, _)]) ⟨rfl, rfl, rfl, rfl, rfl, rfl, trivial⟩ <| hqblock <| ?_
        refine hnext1 (m + 1) ⟨rfl, rfl, rfl, rfl, rfl, trivial⟩ [] rfl [0] rfl (⟨by omega, by omega, by rw [← hL]; rfl⟩) (by omega)
      · rw [lngF_stop (fun q => h3 (by rw [q.2]))] at hL
        rw [← hL]
        refine hexit <| hthen_exit <| hthen_exit <| hqblock_exit <| hthen <| hseq <| hreg <| hy (fun _ => y_move rfl) <| hy (fun _ => y_assign rfl) <| hend <| hsub (ρ' := [(6, _), (32, _), (7, _), (0, _), (1, _), (2, _)]) ⟨rfl, rfl, rfl, rfl, rfl, rfl, trivial⟩ <| hthen <| hret <| ?_
        exact hret1 trivial rfl rfl [] rfl [] rfl ⟨rfl, rfl, rfl⟩
    · rw [lngF_stop (fun q => h2 (by omega))] at hL
      rw [← hL]
      refine htskip rfl rfl rfl (by decide) <| htskip rfl rfl rfl (by decide) <| htskip rfl rfl rfl (by decide) <| htskip rfl rfl rfl (by decide) <| htskip rfl rfl rfl (by decide) <| htskip rfl rfl rfl (by decide) <| htskip rfl rfl rfl (by decide) <| htskip rfl rfl rfl (by decide) <| htskip rfl rfl rfl (by decide) <| htskip rfl rfl rfl (by decide) <| htskip rfl rfl rfl (by decide) <| htskip rfl rfl rfl (by decide) <| htskip rfl rfl rfl (by decide) <| htyU (y_pickF rfl rfl) <| htend <| hsub (ρ' := [(32, _), (7, _), (6, _), (0, _), (1, _), (2, _)]) ⟨rfl, rfl, rfl, rfl, rfl, rfl, trivial⟩ <| hthen <| ?_
      refine hiff rfl (rfl) ?_
      refine hexit <| hthen_exit <| hthen_exit <| hqblock_exit <| hthen <| hseq <| hreg <| hy (fun _ => y_move rfl) <| hy (fun _ => y_assign rfl) <| hend <| hsub (ρ' := [(6, _), (32, _), (7, _), (0, _), (1, _), (2, _)]) ⟨rfl, rfl, rfl, rfl, rfl, rfl, trivial⟩ <| hthen <| hret <| ?_
      exact hret1 trivial rfl rfl [] rfl [] rfl ⟨rfl, rfl, rfl⟩
  · obtain rfl : m = 131 := by omega
    have hL : 131 = lng l i k := hL
    rw [← hL]
    refine htskip rfl rfl rfl (by decide) <| htskip rfl rfl rfl (by decide) <| htskip rfl rfl rfl (by decide) <| htskip rfl rfl rfl (by decide) <| htskip rfl rfl rfl (by decide) <| htskip rfl rfl rfl (by decide) <| htyU (y_pickF rfl rfl) <| htyU (y_move rfl) <| ?_
    refine htskip rfl rfl rfl (by decide) <| htskip rfl rfl rfl (by decide) <| htskip rfl rfl rfl (by decide) <| htskip rfl rfl rfl (by decide) <| htskip rfl rfl rfl (by decide) <| htskip rfl rfl rfl (by decide) <| htskip rfl rfl rfl (by decide) <| htskip rfl rfl rfl (by decide) <| htskip rfl rfl rfl (by decide) <| htskip rfl rfl rfl (by decide) <| htskip rfl rfl rfl (by decide) <| htskip rfl rfl rfl (by decide) <| htskip rfl rfl rfl (by decide) <| htyU (y_pickF rfl rfl) <| htend <| hsub (ρ' := [(32, _), (7, _), (6, _), (0, _), (1, _), (2, _)]) ⟨rfl, rfl, rfl, rfl, rfl, rfl, trivial⟩ <| hthen <| ?_
    refine hiff rfl (rfl) ?_
    refine hexit <| hthen_exit <| hthen_exit <| hqblock_exit <| hthen <| hseq <| hreg <| hy (fun _ => y_move rfl) <| hy (fun _ => y_assign rfl) <| hend <| hsub (ρ' := [(6, _), (32, _), (7, _), (0, _), (1, _), (2, _)]) ⟨rfl, rfl, rfl, rfl, rfl, rfl, trivial⟩ <| hthen <| hret <| ?_
    exact hret1 trivial rfl rfl [] rfl [] rfl ⟨rfl, rfl, rfl⟩
/-! ### the finder: where four bytes stand -/
structure IRow where
  A : Option Addr
  c : Nat
  l : List Nat
def IRow.val (r : IRow) : Value := .slice r.A r.l.length r.c
def nts (l : List Nat) : List Value := l.map fun n => Value.int .i64 (n : Nat)
theorem nts_one {l : List Nat} : ∀ u ∈ nts l, u.oneCell' = true := by
  intro u hu
  obtain ⟨n, _, rfl⟩ := List.mem_map.1 hu
  rfl
def IRow.res (r : IRow) : Res := ROwn 3 1 (.slice r.A r.l.length r.c) r.l.length (nts r.l)
abbrev Fes := List (Bn 4 × IRow)
def fvals (es : Fes) : List (Bn 4 × Value) := es.map fun x => (x.1, x.2.val)
def fress (es : Fes) : List Res := es.map fun x => x.2.res
abbrev RFnd (g gm : Nat) (A : Option Addr) (n c m : Nat) (es : Fes) : Res := RPack [RBlk g 259 [.slice A n c, .map (some gm), .int .i64 (m : Nat)], RMap (KN (n := 4)) gm (fvals es), RPack (fress es)]
def FOk (l : List UInt8) (m : Nat) (es : Fes) : Prop := ∀ k : Bn 4, ((aget es k).map IRow.l).getD [] = posL l m k.1
theorem fvals_get (k : Bn 4) : ∀ es : Fes, aget (fvals es) k = (aget es k).map IRow.val
  | [] => rfl
  | (q, r) :: t => by
    have ih := fvals_get k t
    unfold fvals at ih ⊢
    simp only [List.map_cons, aget]
    split
    · rfl
    · exact ih
theorem fvals_put (k : Bn 4) (r : IRow) : ∀ es : Fes, aput (fvals es) k r.val = fvals (aput es k r)
  | [] => rfl
  | (q, x) :: t => by
    have ih := fvals_put k r t
    unfold fvals at ih ⊢
    simp only [List.map_cons, aput]
    split
    · rfl
    · rw [ih]; rfl
theorem put_absent {k : Bn 4} (r : IRow) : ∀ {es : Fes}, aget es k = none → fress (aput es k r) = fress es ++ [r.res]
  | [], _ => rfl
  | (q, x) :: t, h => by
    simp only [aget] at h
    split at h
    · cases h
    · rename_i hq
      have ih := put_absent r h
      unfold fress at ih ⊢
      simp only [aput, if_neg hq, List.map_cons, ih, List.cons_append]
theorem put_present {k : Bn 4} : ∀ {es : Fes} {x : IRow}, aget es k = some x → ∃ i, (fress es)[i]? = some x.res ∧ ∀ r : IRow, fress (aput es k r) = (fress es).set i r.res
  | [], _, h => by cases h
  | (q, y) :: t, x, h => by
    simp only [aget] at h
    split at h
    · rename_i hq
      cases h
      exact ⟨0, rfl, fun r => by simp [fress, aput, hq]⟩
    · rename_i hq
      obtain ⟨i, h1, h2⟩ := put_present h
      refine ⟨i + 1, by simpa [fress] using h1, fun r => ?_⟩
      have h2 := h2 r
      unfold fress at h2 ⊢
      simp only [aput, if_neg hq, List.map_cons, h2, List.set_cons_succ]
theorem set_perm {α : Type} : ∀ (l : List α) (i : Nat) (x : α), i < l.length → (l.set i x).Perm (x :: l.eraseIdx i)
  | [], i, x, h => by simp at h
  | a :: t, 0, x, h => by simp
  | a :: t, i + 1, x, h => by
    have := set_perm t i x (by simpa using h)
    simp only [List.set_cons_succ, List.eraseIdx_cons_succ]
    exact (this.cons a).trans (List.Perm.swap ..)
theorem fok_put {l : List UInt8} {m : Nat} {es : Fes} {A : Option Addr} {c : Nat} (h : FOk l m es) (hm : m + 4 ≤ l.length) : FOk l (m + 1) (aput es ⟨key4 l m, key4_length hm⟩ ⟨A, c, posL l m (key4 l m) ++ [m]⟩) := by
  intro k
  rw [aget_aput, posL_succ]
  by_cases hk : key4 l m = k.1
  · rw [if_pos (Subtype.ext hk), if_pos hk, ← hk]; rfl
  · rw [if_neg (fun e => hk (congrArg Subtype.val e)), if_neg hk, List.append_nil]
    exact h k
theorem fok_nil (l : List UInt8) : FOk l 0 [] := fun k => rfl
theorem kept_pos {es : Fes} {l : List UInt8} {m : Nat} {k : Bn 4} {r : IRow} (h : FOk l m es) (hr : aget es k = some r) : r.l = posL l m k.1 := by
  have := h k
  rw [hr] at this
  exact this
theorem kept_none {es : Fes} {l : List UInt8} {m : Nat} {k : Bn 4} (h : FOk l m es) (hr : aget es k = none) : posL l m k.1 = [] := by
  have := h k
  rw [hr] at this
  exact this.symm
theorem uptoC {g gm : Nat} {A : Option Addr} {n c p i : Nat} {l : List UInt8} {es : Fes} (hc : n ≤ c) (hn : n ≤ 1000000000) (hl : l.length = n) (hpi : p ≤ i) (hi : i + 4 ≤ n) (hF : FOk l p es) : Con Tryd.prog 174 [.pointer (some ⟨g, 0, none⟩), .int .i64 (i : Nat)] [RFnd g gm A n c p es] [RRd 1 A n (b8s l)] (fun v_ X_ S_ => ∃ es1, v_ = (.tuple #[]) ∧ X_ = [RFnd g gm A n c i es1] ∧ S_ = [] ∧ (FOk l i es1)) := by
  refine henter (N := 61) Tryd.func174 rfl rfl (by simp) fun b => ?_
  refine hfactC (fun m => rdB (m.rd 0 rfl)) ?_
  rintro ⟨hl_r, hA_r⟩
  refine hmemC (fun w m => (m.perm (takeR_perm [0] _ [_] _ rfl)).unpack) ?_
  refine hblock <| ?_
  refine hloop2 (fun p es => i - p) (fun p es => []) (fun p es => [RBlk g 259 [.slice A n c, .map (some gm), .int .i64 (p : Nat)], RMap (KN (n := 4)) gm (fvals es), RPack (fress es)]) (fun p es => []) (fun p es => p ≤ i ∧ FOk l p es) p es [(0, _), (1, _)] ⟨rfl, rfl, trivial⟩ [0, 0, 0] rfl [] rfl (⟨hpi, hF⟩) trivial (fun p es ⟨hpi, hF⟩ => ?_)
  refine hseq <| hseq <| hdrw [] [(0, some 0), (1, some 0), (2, some 0), (3, some 0), (4, some 0), (5, some 0), (6, some 0), (7, some 0), (8, some 0), (9, some 0), (10, some 0), (11, some 0), (12, some 0), (13, some 0), (14, some 0), (15, some 0), (16, some 0), (17, some 0), (18, some 0)] (by kernel_rfl) (by kernel_rfl) rfl 99 <| htyU (y_move rfl) <| htyU (y_nilp rfl) <| htyU (y_fld rfl fa259_2 (by decide)) <| hty (fun m => y_ld1 rfl ag3 (ld_blk (m.blk 0 rfl) rfl)) <| htyU (y_move rfl) <| htyU (y_lss rfl rfl) <| htyU (y_move rfl) <| ?_
  refine htsplit 11 rfl (fun h1 => ?_) (fun h1 => ?_)
  · refine htyUg (o := _) rfl rfl rfl (y_move rfl) <| htyUg (o := _) rfl rfl rfl (y_nilp rfl) <| htyUg (o := _) rfl rfl rfl (y_fld rfl fa259_2 (by decide)) <| htyg (o := _) rfl rfl rfl (fun m => y_ld1 rfl ag3 (ld_blk (m.blk 0 rfl) rfl)) <| htyUg (o := _) rfl rfl rfl (y_add rfl rfl (w64 (by omega) (by omega))) <| htyUg (o := _) rfl rfl rfl (y_move rfl) <| htyUg (o := _) rfl rfl rfl (y_nilp rfl) <| htyUg (o := _) rfl rfl rfl (y_fld rfl fa259_0 (by decide)) <| htyg (o := _) rfl rfl rfl (fun m => y_ld1 rfl ag32 (ld_blk (m.blk 0 rfl) rfl)) <| htyUg (o := _) rfl rfl rfl (y_lenS rfl Tryd.underlying32) <| htyUg (o := _) rfl rfl rfl (y_leq rfl rfl) <| htyU (y_pickT rfl rfl) <| htend <| hsub (ρ' := [(23, _), (0, _), (1, _)]) ⟨rfl, rfl, rfl, trivial⟩ <| hthen <| ?_
    refine hift rfl ((decide_eq_true (by omega))) ?_
    refine hfactC (fun m => (m.rd 0 rfl).some (by omega)) fun h_ => ?_
    obtain ⟨a, rfl⟩ : ∃ a_, A = some a_ := ⟨_, h_⟩
    clear h_
    refine hcskip <| hthen <| hseq <| hblock <| hseq <| hdrw [16, 17] [(0, some 1), (1, some 1), (2, some 1), (3, some 1), (4, some 1), (5, some 1), (6, some 1), (7, some 1), (8, some 1), (9, some 1), (10, some 1), (11, some 1), (12, some 1), (13, some 1), (14, some 1), (15, some 1), (16, none), (17, none)] (by kernel_rfl) (by kernel_rfl) rfl 1 <| htyU (y_move rfl) <| htyU (y_nilp rfl) <| htyU (y_fld rfl fa259_0 (by decide)) <| hty (fun m => y_ld1 rfl ag32 (ld_blk (m.blk 0 rfl) rfl)) <| htyU (y_move rfl) <| htyU (y_nilp rfl) <| htyU (y_fld rfl fa259_2 (by decide)) <| hty (fun m => y_ld1 rfl ag3 (ld_blk (m.blk 0 rfl) rfl)) <| htyU (y_move rfl) <| htyU (y_nilp rfl) <| htyU (y_fld rfl fa259_2 (by decide)) <| hty (fun m => y_ld1 rfl ag3 (ld_blk (m.blk 0 rfl) rfl)) <| htyU (y_add rfl rfl (w64 (by omega) (by omega))) <| htyU (yV (y_slBoth rfl rfl rfl Tryd.underlying32 sz5 rfl (show ((p + 4 : Nat) : Int) = _ by omega) (by omega) (by omega)) ((show Value.slice (if c = p then some a else (some a).map (·.add (p * 1))) (p + 4 - p) (c - p) = .slice (some (a.add p)) 4 (c - p) by rw [if_neg (by omega), Nat.mul_one, Nat.add_sub_cancel_left]; rfl))) <| htyU (y_arrAt rfl Tryd.underlying265 (by omega)) <| hty (fun m => yV (y_ldN rfl ag265 sz265 (by rw [b8s_length]; exact key4_length (by omega)) (Rd.part (m.rd 0 rfl))) ((rfl : Value.agg _ = .agg (b8s (key4 l p)).toArray))) <| ?_
    refine htx (xh_alloc ti265 (fun g4 => ⟨(fun _ => wk [1, 1, 1] [0] rfl rfl), ?_⟩))
    refine htx0 (xh_stA 0 rfl rfl rfl sz265 (by rw [b8s_length]; exact key4_length (by omega)) b8s_one rfl ⟨(fun h => absurd h (by decide)), ?_⟩)
    refine htend <| hsub (ρ' := [(4, _), (23, _), (0, _), (1, _)]) ⟨rfl, rfl, rfl, rfl, trivial⟩ <| hmemQ (X' := [_, _, _, _]) (S' := [_]) (fun _ m => m) <| hthen <| ?_
    refine hdrw [9, 10, 12, 14] [(0, some 1), (1, some 1), (2, some 1), (3, some 1), (4, some 1), (5, some 0), (6, some 0), (7, some 0), (8, some 0), (9, none), (10, none), (11, some 2), (13, some 3), (12, none), (14, none)] (by kernel_rfl) (by kernel_rfl) rfl 1 <| htyU (y_move rfl) <| htyU (y_nilp rfl) <| htyU (y_fld rfl fa259_1 (by decide)) <| hty (fun m => y_ld1 rfl ag257 (ld_blk (m.blk 1 rfl) rfl)) <| hty (fun m => yV (y_ldN rfl ag265 sz265 (by rw [b8s_length]; exact key4_length (by omega)) ((m.blk 0 rfl).cells0)) ((rfl : Value.agg _ = KN ⟨key4 l p, key4_length (by omega)⟩))) <| htyU (y_move rfl) <| htyU (y_nilp rfl) <| htyU (y_fld rfl fa259_2 (by decide)) <| hty (fun m => y_ld1 rfl ag3 (ld_blk (m.blk 1 rfl) rfl)) <| ?_
    refine htx (xh_bsl Tryd.underlying263 ti3 rfl rfl rfl (by simp [Value.cells, B8]) (by decide) (by decide) (fun g57 => ⟨(fun _ => wk [1, 1, 1, 1] [0] rfl rfl), ?_⟩))
    have hA_b57 : 0 < 1 → (some (⟨g57, 0, none⟩ : Addr)) ≠ none := fun _ h => by cases h
    refine htmem (fun w m => m.eqX 0 rfl (show _ = ROwn 3 1 (.slice (some ⟨g57, 0, none⟩) 1 1) 1 (nts [p]) from rfl)) ?_
    refine htx (xh_entry (enc := (KN (n := 4))) (k := ⟨key4 l p, key4_length (by omega)⟩) 3 rfl rfl rfl Tryd.underlying257 ti263 (bnKey Tryd.underlying265 Tryd.underlying5 (by kernel_rfl) (by kernel_rfl) (by kernel_rfl)) (fun st58 => ⟨(fun h => absurd h (by decide)), ?_⟩))
    rw [fvals_get]
    rcases hq : aget es ⟨key4 l p, key4_length (by omega)⟩ with _ | x
    · have e0 := kept_none hF hq
      refine htmem (fun w m => m.addX (r' := ROwn 3 1 (.slice none 0 0) 0 []) (.refl _ _) (Own.nil _ _ _ _) (fun k hk => hk.elim)) ?_
      refine htyU (y_extract rfl rfl) <| htyU (y_extract rfl rfl) <| ?_
      refine htx (xh_app 0 rfl rfl rfl Tryd.underlying263 Tryd.underlying263 (by exact .inl rfl) ti3 rfl (fun m => Src.of_rd (m.ord 2 rfl)) (nts_one (l := [p])) (by unfold maxLen; omega) (by omega) (fun u => ⟨(fun h => absurd h (by decide)), ?_⟩))
      refine htfact (fun m => (m.own 0 rfl).slice) ?_
      rintro ⟨A_x, c_x, rfl, hc_x⟩
      refine htfact (fun m => (m.ord 0 rfl).2.1) fun hA_x => ?_
      refine htx0 (xh_estore (enc := (KN (n := 4))) 1 rfl rfl rfl rfl ⟨(fun h => absurd h (by decide)), ?_⟩)
      refine htend <| hsub (ρ' := [(4, _), (23, _), (0, _), (1, _)]) ⟨rfl, rfl, rfl, rfl, trivial⟩ <| hmemQ (X' := [_, _, _, _, _, _]) (S' := [_]) (fun _ m => m) <| hqblock <| hthen <| hreg <| hy (fun _ => y_move rfl) <| hy (fun _ => y_nilp rfl) <| hy (fun _ => y_fld rfl fa259_2 (by decide)) <| hy (fun m => y_ld1 rfl ag3 (ld_blk (m.blk 4 rfl) rfl)) <| hy (fun _ => y_add rfl rfl (w64 (by omega) (by omega))) <| hy (fun _ => y_nilp rfl) <| hy (fun _ => y_fld rfl fa259_2 (by decide)) <| ?_
      refine hx0 (xh_st1a 4 rfl rfl rfl sz3 rfl (by first | exact Nat.le_of_ble_eq_true rfl | simp) ?_)
      refine hend <| hsub (ρ' := [(4, _), (23, _), (0, _), (1, _)]) ⟨rfl, rfl, rfl, rfl, trivial⟩ <| hmemQ (X' := [_, _, _, _, _, _]) (S' := [_]) (fun _ m => m) <| ?_
      refine hmemQ (fun w m => m.eqX 0 rfl (show _ = RBlk g 259 [.slice (some a) n c, .map (some gm), .int .i64 ((p + 1 : Nat) : Int)] from rfl)) ?_
      refine hmemQ (fun w m => m.eqX 1 rfl (show _ = RMap (KN (n := 4)) gm (fvals (aput es ⟨key4 l p, key4_length (by omega)⟩ ⟨A_x, c_x, [p]⟩)) from congrArg (RMap _ _) (aput_aput.trans (fvals_put _ ⟨A_x, c_x, [p]⟩ es)))) ?_
      refine hmemQ (X' := RPack (fress (aput es ⟨key4 l p, key4_length (by omega)⟩ ⟨A_x, c_x, [p]⟩)) :: _) (fun w m => (Mem.packPut (m.perm (takeR_perm [2, 4] _ [_, _] _ rfl))).packPerm (by rw [put_absent _ hq]; exact (List.perm_append_singleton _ _).symm)) ?_
      refine hnext2 (p + 1) (aput es ⟨key4 l p, key4_length (by omega)⟩ ⟨A_x, c_x, [p]⟩) ⟨rfl, rfl, trivial⟩ [2, 1, 0] rfl [0] rfl (⟨by omega, by have := fok_put (A := A_x) (c := c_x) hF (by omega); rw [e0] at this; exact this⟩) (by omega)
    · obtain ⟨j, hj1, hj2⟩ := put_present hq
      have e0 := kept_pos hF hq
      have hxl : x.l.length ≤ n := by rw [e0]; exact Nat.le_trans (posL_length _ _ _) (by omega)
      refine htmem (X' := ROwn 3 1 (.slice x.A x.l.length x.c) x.l.length (nts x.l) :: _) (fun w m => (m.perm (takeR_perm [4] _ [_] _ rfl)).packTake j hj1) ?_
      refine htyU (y_extract rfl rfl) <| htyU (y_extract rfl rfl) <| ?_
      refine htx (xh_app 0 rfl rfl rfl Tryd.underlying263 Tryd.underlying263 (by exact .inl rfl) ti3 rfl (fun m => Src.of_rd (m.ord 3 rfl)) (nts_one (l := [p])) (by unfold maxLen; omega) (by omega) (fun u => ⟨(fun h => absurd h (by decide)), ?_⟩))
      refine htfact (fun m => (m.own 0 rfl).slice) ?_
      rintro ⟨A_y, c_y, rfl, hc_y⟩
      refine htfact (fun m => (m.ord 0 rfl).2.1) fun hA_y => ?_
      refine htx0 (xh_estore (enc := (KN (n := 4))) 2 rfl rfl rfl rfl ⟨(fun h => absurd h (by decide)), ?_⟩)
      refine htend <| hsub (ρ' := [(4, _), (23, _), (0, _), (1, _)]) ⟨rfl, rfl, rfl, rfl, trivial⟩ <| hmemQ (X' := [_, _, _, _, _, _]) (S' := [_]) (fun _ m => m) <| hqblock <| hthen <| hreg <| hy (fun _ => y_move rfl) <| hy (fun _ => y_nilp rfl) <| hy (fun _ => y_fld rfl fa259_2 (by decide)) <| hy (fun m => y_ld1 rfl ag3 (ld_blk (m.blk 5 rfl) rfl)) <| hy (fun _ => y_add rfl rfl (w64 (by omega) (by omega))) <| hy (fun _ => y_nilp rfl) <| hy (fun _ => y_fld rfl fa259_2 (by decide)) <| ?_
      refine hx0 (xh_st1a 5 rfl rfl rfl sz3 rfl (by first | exact Nat.le_of_ble_eq_true rfl | simp) ?_)
      refine hend <| hsub (ρ' := [(4, _), (23, _), (0, _), (1, _)]) ⟨rfl, rfl, rfl, rfl, trivial⟩ <| hmemQ (X' := [_, _, _, _, _, _]) (S' := [_]) (fun _ m => m) <| ?_
      refine hmemQ (fun w m => m.eqX 0 rfl (show _ = RBlk g 259 [.slice (some a) n c, .map (some gm), .int .i64 ((p + 1 : Nat) : Int)] from rfl)) ?_
      have h1e : aput (fvals es) ⟨key4 l p, key4_length (by omega)⟩ (.slice A_y (x.l.length + 1) c_y) = fvals (aput es ⟨key4 l p, key4_length (by omega)⟩ ⟨A_y, c_y, x.l ++ [p]⟩) := by rw [← fvals_put]; simp [IRow.val]
      refine hmemQ (fun w m => m.eqX 1 rfl (show _ = RMap (KN (n := 4)) gm (fvals (aput es ⟨key4 l p, key4_length (by omega)⟩ ⟨A_y, c_y, x.l ++ [p]⟩)) from congrArg (RMap _ _) (aput_aput.trans h1e))) ?_
      have h2e : ROwn 3 1 (.slice A_y (x.l.length + 1) c_y) (x.l.length + 1) (nts x.l ++ nts [p]) = (⟨A_y, c_y, x.l ++ [p]⟩ : IRow).res := by simp [IRow.res, nts]
      refine hmemQ (fun w m => m.eqX 2 rfl (show _ = (⟨A_y, c_y, x.l ++ [p]⟩ : IRow).res from h2e)) ?_
      have hjl := (List.getElem?_eq_some_iff.1 hj1).1
      refine hmemQ (X' := RPack (fress (aput es ⟨key4 l p, key4_length (by omega)⟩ ⟨A_y, c_y, x.l ++ [p]⟩)) :: _) (fun w m => (Mem.packPut (m.perm (takeR_perm [0, 2] _ [_, _] _ rfl))).packPerm (by rw [hj2]; exact (set_perm _ _ _ hjl).symm)) ?_
      refine hnext2 (p + 1) (aput es ⟨key4 l p, key4_length (by omega)⟩ ⟨A_y, c_y, x.l ++ [p]⟩) ⟨rfl, rfl, trivial⟩ [2, 1, 0] rfl [0] rfl (⟨by omega, by have := fok_put (A := A_y) (c := c_y) hF (by omega); rw [← e0] at this; exact this⟩) (by omega)
  · obtain rfl : p = i := by omega
    refine htskip rfl rfl rfl (by decide) <| htskip rfl rfl rfl (by decide) <| htskip rfl rfl rfl (by decide) <| htskip rfl rfl rfl (by decide) <| htskip rfl rfl rfl (by decide) <| htskip rfl rfl rfl (by decide) <| htskip rfl rfl rfl (by decide) <| htskip rfl rfl rfl (by decide) <| htskip rfl rfl rfl (by decide) <| htskip rfl rfl rfl (by decide) <| htskip rfl rfl rfl (by decide) <| htyU (y_pickF rfl rfl) <| htend <| hsub (ρ' := [(23, _), (0, _), (1, _)]) ⟨rfl, rfl, rfl, trivial⟩ <| hthen <| ?_
    refine hiff rfl (rfl) ?_
    refine hexit <| hthen_exit <| hthen_exit <| hqblock_exit <| ?_
    refine hmemQ (X' := RFnd g gm A n c p es :: _) (fun w m => (m.perm (takeR_perm [0, 0, 0] _ [_, _, _] _ rfl)).pack) ?_
    exact hret0 trivial rfl [0] rfl [] rfl ⟨es, rfl, rfl, rfl, hF⟩
end Go.Proofs.YtfikjheicjamhaaDoor
end
section
/- The engine within a round of a range over a function: the same rules of control, under the round's fence. No statement is proved here. -/
set_option linter.unusedVariables false
set_option linter.unusedSimpArgs false
set_option linter.unusedSectionVars false
namespace Go.Eng
open Go.RowKit
def isDef : Op → Bool
  | .defer _ => true
  | _ => false
abbrev rfence (l : Nat) : Fence := Fence.wide.inRound l
section
variable {P : Program} {Q : Exit → Act → World → Prop} {a : Act} {w : World} {l n : Nat}
theorem op_in {o : Oper} {next next' : Act → World → Prop} (h : o.wp P a w next Q) (hd : isDef o.op = false) (hn : ∀ a w, next a w → next' a w) : o.wpIn (rfence l) n P a w next' Q := by
  refine ⟨fun _ _ => trivial, ?_⟩
  have e : o.semAt (rfence l).round a.eval = execOp a.eval o := Oper.semAt_eq _ _ _ (fun c hc => by rw [hc] at hd; cases hd)
  rw [e]
  unfold Oper.wp at h
  generalize (execOp a.eval o).run P w = r at h
  match r, h with
  | .ok (.value v) w', h => exact hn _ _ h
  | .ok .skip w', h => exact hn _ _ h
  | .ok (.defer d) w', h => exact hn _ _ h
  | .ok (.enter f args) w', h =>
    refine ⟨fun h => by simp [Fence.wide] at h, CallsIn.inRound l (callsIn_wide.2 (Calls.mono h ?_))⟩
    intro e w'' q
    cases e with
    | returned v => exact hn _ _ q
    | panicked c => exact q
    | outgrown => exact q
  | .ok (.row row args) w', h => exact ⟨fun h => by simp [Fence.wide] at h, fun c cs _ => let ⟨v, w'', r, s⟩ := h c cs; ⟨v, w'', hn _ _ r, stepsIn_wide.2 s⟩⟩
  | .halt (.panic v) w', h => exact h
theorem ops_in {ops : Array Oper} (hQ : ¬ LetsOut Q) (hd : ops.toList.all (fun o => !isDef o.op) = true) : ∀ (il : List Nat) (a : Act) (w : World), wpOps P ops Q il a w → wpOpsIn (rfence l) n P ops Q il a w
  | [], a, w, h => h
  | i :: rest, a, w, h => by
    unfold wpOps at h
    unfold wpOpsIn
    cases ho : ops[i]? with
    | none => simp only [ho] at h ⊢; exact ops_in hQ hd rest a w h
    | some o =>
      simp only [ho] at h ⊢
      have hod : isDef o.op = false := by
        have h1 := List.all_eq_true.1 hd o (by obtain ⟨hi, he⟩ := Array.getElem?_eq_some_iff.1 ho; rw [← he]; exact Array.getElem_mem_toList ..)
        simpa using h1
      split
      · rename_i hw
        rw [if_pos hw] at h
        rcases h with h | ⟨_, h⟩
        · exact op_in h hod (fun a w h => ops_in hQ hd rest a w h)
        · exact absurd h hQ
      · rename_i hw
        rw [if_neg hw] at h
        exact ⟨fun _ _ => trivial, ops_in hQ hd rest _ w h⟩
end
/-- the judgement within round l -/
def HCR (l n : Nat) (P : Program) (Q : Exit → Act → World → Prop) (N : Nat) (D : List Deferred) (c : Code) (ρ : Env) (b : Base) (X S : List Res) : Prop :=
  ¬ LetsOut Q → ∀ w, Mem b X S w → ∀ a, Ag N D ρ a → c.wpIn (rfence l) n P Q a w
section
variable {P : Program} {Q : Exit → Act → World → Prop} {N : Nat} {D : List Deferred} {ρ ρ' : Env} {b : Base} {X X' X1 Xr S S' S1 : List Res} {c c' : Code} {l n : Nat} {ops : Array Oper}
theorem letsOut_then {K : Act → World → Prop} : LetsOut (Exit.then K Q) → LetsOut Q := fun ⟨a, w, h⟩ => ⟨a, w, h⟩
theorem letsOut_block {id : Nat} : LetsOut (Exit.inBlock id Q) → LetsOut Q := fun ⟨a, w, h⟩ => ⟨a, w, h⟩
theorem letsOut_noPan : LetsOut (NoPan Q) → LetsOut Q := fun ⟨a, w, h⟩ => ⟨a, w, by first | exact h | exact h.elim⟩
theorem hseqR (h : HCR l n P (Exit.then (fun a w => ¬ LetsOut Q → c'.wpIn (rfence l) n P Q a w) Q) N D c ρ b X S) : HCR l n P Q N D (.seq c c') ρ b X S := fun hQ w m a ha =>
  wpIn_seq (wpIn_mono (h (fun k => hQ (letsOut_then k)) w m a ha) (fun e a w q => by cases e <;> first | exact q hQ | exact q))
theorem hregR {id : Nat} {il : List Oper} (h : HL P il.toArray Q N D il ρ b X S) (hd : il.all (fun o => !isDef o.op) = true := by rfl) : HCR l n P Q N D (.region id il.toArray false) ρ b X S := fun hQ w m a ha => by
  refine wpIn_region (ops_in hQ (by simpa using hd) _ _ _ ?_)
  have h1 := h w m a ha
  rw [List.range_eq_range', ← Array.length_toList, wpOps_eq_wpList il.toArray.toList 0 (by simp)]
  simpa using h1
theorem hcskipR (h : HQ Q N D .normal ρ b X S) : HCR l n P Q N D .skip ρ b X S := fun hQ w m a ha => wpIn_skip (h w m a ha)
theorem hexitR {id : Nat} (h : HQ Q N D (.exit id) ρ b X S) : HCR l n P Q N D (.exit id) ρ b X S := fun hQ w m a ha => wpIn_exit (h w m a ha)
theorem hblockR {id : Nat} (h : HCR l n P (Exit.inBlock id Q) N D c ρ b X S) : HCR l n P Q N D (.block id c) ρ b X S := fun hQ w m a ha => wpIn_block (h (fun k => hQ (letsOut_block k)) w m a ha)
theorem hifR {p : Prop} [Decidable p] {x : Operand} (hc : ev ρ x = some (.bool (decide p))) (ht : p → HCR l n P Q N D c ρ b X S) (he : ¬ p → HCR l n P Q N D c' ρ b X S) : HCR l n P Q N D (.cond x c c') ρ b X S :=
  fun hQ w m a ha => wpIn_cond_split (ha.eval hc) (fun h => ht (of_decide_eq_true h) hQ w m a ha) (fun h => he (of_decide_eq_false h) hQ w m a ha)
theorem hthenR (h : HCR l n P Q N D c ρ b X S) : HQ (Exit.then (fun a w => ¬ LetsOut Q → c.wpIn (rfence l) n P Q a w) Q) N D .normal ρ b X S := fun w m a ha hQ => h hQ w m a ha
theorem hdrwR {id : Nat} {il : List (Option Nat × Oper)} (Xs : List Nat) (L : List (Nat × Option Nat)) (hm : P.follows .mixedOrders = true) (hk : (Region.noSelect ops && seqOkG ops Xs L (Array.replicate ops.size false) && decide (L.length ≤ ops.size)) = true)
    (hp : pickG ops L = some il) (cc : Nat) (h : HT P ops (NoPan Q) (TT b X S cc) N D 0 il ρ b X S) (hd : ops.toList.all (fun o => !isDef o.op) = true := by rfl) : HCR l n P Q N D (.region id ops true) ρ b X S := fun hQ w m a ha => by
  simp only [Bool.and_eq_true, decide_eq_true_eq] at hk
  refine wpIn_mono (Q := NoPan Q) ?_ (fun e a w q => by cases e <;> first | exact q | exact q.elim)
  refine wpIn_region_draw fun t => ops_in (fun k => hQ (letsOut_noPan k)) hd _ _ _ ?_
  simp only [Region.schedule, hm, Bool.true_or, if_true]
  refine wpAny_sound ops.size t _ a _ ?_
  refine wpAny_of_wpG _ _ _ _ (wpG_of_seq (X := Xs) hk.1.1 (fun c a d v w q => q.elim) L il _ a _ _ 0 hp hk.1.2 hk.2 ?_ ?_ (T := TT b X S cc) (fun _ => m.lift (Fr.drew w)) (h _ (m.lift (Fr.drew w)) a ha))
  · intro j hj
    simp [Array.getElem?_replicate] at hj
    split at hj <;> cases hj
  · unfold cnt
    rw [List.countP_eq_zero]
    intro x _
    simp [Array.getElem?_replicate]
    split <;> rfl
theorem hdrwBR {id : Nat} {il : List (Option Nat × Oper)} (is js : List Nat) (hX : takeR is X = some (X1, Xr)) (hS : getR js S = some S1) (Xs : List Nat) (L : List (Nat × Option Nat)) (hm : P.follows .mixedOrders = true) (hk : (Region.noSelect ops && seqOkG ops Xs L (Array.replicate ops.size false) && decide (L.length ≤ ops.size)) = true)
    (hp : pickG ops L = some il) (cc : Nat) (h : HT P ops (NoPan Q) (TT b X1 S1 cc) N D 0 il ρ b X S) (hd : ops.toList.all (fun o => !isDef o.op) = true := by rfl) : HCR l n P Q N D (.region id ops true) ρ b X S := fun hQ w m a ha => by
  simp only [Bool.and_eq_true, decide_eq_true_eq] at hk
  refine wpIn_mono (Q := NoPan Q) ?_ (fun e a w q => by cases e <;> first | exact q | exact q.elim)
  refine wpIn_region_draw fun t => ops_in (fun k => hQ (letsOut_noPan k)) hd _ _ _ ?_
  simp only [Region.schedule, hm, Bool.true_or, if_true]
  refine wpAny_sound ops.size t _ a _ ?_
  refine wpAny_of_wpG _ _ _ _ (wpG_of_seq (X := Xs) hk.1.1 (fun c a d v w q => q.elim) L il _ a _ _ 0 hp hk.1.2 hk.2 ?_ ?_ (T := TT b X1 S1 cc) (fun _ => (wk is js hX hS).mem (m.lift (Fr.drew w))) (h _ (m.lift (Fr.drew w)) a ha))
  · intro j hj
    simp [Array.getElem?_replicate] at hj
    split at hj <;> cases hj
  · unfold cnt
    rw [List.countP_eq_zero]
    intro x _
    simp [Array.getElem?_replicate]
    split <;> rfl
end
end Go.Eng
end
section
/- A range over a function in the engine over things in memory. No statement is proved here. -/
set_option linter.unusedVariables false
set_option linter.unusedSimpArgs false
set_option linter.unusedSectionVars false
namespace Go.Eng
open Go.RowKit
/-- the block that gathers a loop's deferred calls: there are none -/
def RCol (D : Nat) : Res where
  foot k := k = D
  holds w := w.heap[D]? = some (.deferred (some []))
  keep := fun {S w w'} f h e => by
    have hlt := (Array.getElem?_eq_some_iff.1 e).1
    exact (f.block D hlt (h D rfl)).trans e
  low := fun {w k} e hk => by
    have hk' : k = D := hk
    rw [hk']; exact (Array.getElem?_eq_some_iff.1 e).1
theorem Mem.grown {b : Base} {X S : List Res} {w w' : World} {R : Nat → Prop} (m : Mem b X S w) (f : Fr R w w') (h1 : ∀ k, R k → b.w.heap.size ≤ k) (h2 : ∀ k, R k → ∀ x ∈ X, ¬ x.foot k) (h3 : ∀ k, R k → ∀ s ∈ S, ¬ s.foot k) : Mem b X S w' :=
  ⟨m.fr.trans f (fun _ e => e) (fun i hi e => absurd (h1 i e) (by omega)), m.xx, m.xs, fun x hx => x.keep f (fun k hk hr => h2 k hr x hx hk) (m.hx x hx), fun s hs => s.keep f (fun k hk hr => h3 k hr s hs hk) (m.hs s hs), m.nx, m.ns⟩
theorem fr_of_grown {w w' : World} {row : Option Nat} (h : w.grownBy w' row) : Fr (fun k => row = some k) w w' := ⟨h.os, h.tape, h.output, h.size, fun k hk hn => h.block k hk (fun e => hn e.symm)⟩
/-- what a round keeps below B: all but M -/
def KpM (B : Nat) (M : Nat → Prop) (W W' : World) : Prop := ∀ k, k < B → ¬ M k → W'.heap[k]? = W.heap[k]?
def penv (ps : Array Tmp) (vs : List Value) : Env := (ps.toList.zip vs)
theorem Mem.addCol {b : Base} {X S : List Res} {w : World} {D B : Nat} (m : Mem b X S w) (hb : b.w.heap.size ≤ B) (hD : B ≤ D) (hx : ∀ x ∈ X, ∀ k, x.foot k → k < B) (hs : ∀ s ∈ S, ∀ k, s.foot k → k < B) (h : w.heap[D]? = some (.deferred (some []))) : Mem b (RCol D :: X) S w := by
  refine ⟨m.fr, List.pairwise_cons.2 ⟨fun y hy k hk hy' => ?_, m.xx⟩, fun x hx' s hs' k hk hk' => ?_, fun x hx' => ?_, m.hs, fun x hx' k hk => ?_, m.ns⟩
  · have hk' : k = D := hk
    have := hx y hy k hy'
    omega
  · rcases List.mem_cons.1 hx' with rfl | hx'
    · have h1 : k = D := hk
      have := hs s hs' k hk'
      omega
    · exact m.xs x hx' s hs' k hk hk'
  · rcases List.mem_cons.1 hx' with rfl | hx'
    · exact h
    · exact m.hx x hx'
  · rcases List.mem_cons.1 hx' with rfl | hx'
    · have h1 : k = D := hk
      exact .inr (by omega)
    · exact m.nx x hx' k hk
theorem Mem.off {b : Base} {X S X1 Xr : List Res} {w : World} {is : List Nat} (m : Mem b X S w) (hX : takeR is X = some (X1, Xr)) (j : Nat) {r : Res} (hj : Xr[j]? = some r) {k : Nat} (hk : r.foot k) : ¬ feet X1 k := by
  have m1 := m.perm (takeR_perm _ _ _ _ hX)
  rintro ⟨x, hx, hxk⟩
  exact (List.pairwise_append.1 m1.xx).2.2 x hx r (List.mem_of_getElem? hj) k hxk hk
/-- how a round may be left -/
def RQ {α σ : Type} (b : Base) (X1 : σ → List Res) (Sb : List Res) (id : Nat) (step : σ → α → σ) (brk : σ → α → Prop) (s : σ) (x : α) : Exit → Act → World → Prop
  | .normal, _, w => Mem b (X1 (step s x)) Sb w
  | .exit i, _, w => i = id ∧ Mem b (X1 s) Sb w ∧ brk s x
  | _, _, _ => False
theorem hrq_nextE {α σ : Type} {b : Base} {X1 : σ → List Res} {Sb : List Res} {id : Nat} {step : σ → α → σ} {brk : σ → α → Prop} {s : σ} {x : α} {N : Nat} {D : List Deferred} {ρ : Env} {X S Xz : List Res} (s' : σ) (he : step s x = s') (is : List Nat) (hX : takeR is X = some (X1 s', Xz)) (js : List Nat) (hS : getR js S = some Sb) :
    HQ (RQ b X1 Sb id step brk s x) N D .normal ρ b X S := fun w m a ha => by
  show Mem b (X1 (step s x)) Sb w
  rw [he]
  exact m.out is hX js hS
theorem hrq_break {α σ : Type} {b : Base} {X1 : σ → List Res} {Sb : List Res} {id : Nat} {step : σ → α → σ} {brk : σ → α → Prop} {s : σ} {x : α} {N : Nat} {D : List Deferred} {ρ : Env} {X S Xz : List Res} (is : List Nat) (hX : takeR is X = some (X1 s, Xz)) (js : List Nat) (hS : getR js S = some Sb) (hb : brk s x) :
    HQ (RQ b X1 Sb id step brk s x) N D (.exit id) ρ b X S := fun w m a ha => ⟨rfl, m.out is hX js hS, hb⟩
section
variable {P : Program} {Q : Exit → Act → World → Prop} {N : Nat} {D : List Deferred} {ρ ρ' : Env} {b : Base} {X X' Xr S S' Sb : List Res}
theorem hrange {α σ : Type} {g gf id : Nat} {ps : Array Tmp} {assign body : Code} {lb : List Value} (X1 : σ → List Res) (s0 : σ) (step : σ → α → σ) (brk : σ → α → Prop) (encs : α → List Value) (xs : List α) (ρx : α → Env) (ρk : Env) (hk : SubB ρk ρ)
    (hv : get ρ g = some (.func (.func gf) #[] lb.toArray)) (heg : ∀ args w, (callFunc gf args).run P w = .ok (.enter gf args) w)
    (is : List Nat) (hX : takeR is X = some (X1 s0, Xr)) (hft : ∀ s k, feet (X1 s) k ↔ feet (X1 s0) k) (js : List Nat) (hS : getR js S = some Sb)
    (hseq : ∀ w, Mem b X S w → SeqStopsK Fence.wide 2 P gf lb.toArray (fun x => (encs x).toArray) (KpM w.heap.size (feet (X1 s0))) (fun ys => ys = xs) (fun pre => pre <+: xs) xs.length w)
    (hps : ∀ x, (encs x).length = ps.size) (hpn : ∀ p ∈ ps.toList, p < N) (hnd : ∀ x (a : Act), Ag N D ρ a → Ag N [] (ρ' ++ penv ps (encs x) ++ ρ) { tmps := (ps.zip (encs x).toArray).foldl (fun t (p, v) => t.setIfInBounds p v) a.tmps, defers := [] })
    (hasg : ∀ (l : Nat) (b' : Base) (s : σ) (x : α) (Q' : Exit → Act → World → Prop), HQ Q' N [] .normal (ρx x ++ ρk) b' (X1 s) Sb → HCR l 1 P Q' N [] assign (ρ' ++ penv ps (encs x) ++ ρ) b' (X1 s) Sb)
    (hbody : ∀ (l : Nat) (b' : Base) (s : σ) (x : α), HCR l 1 P (RQ b' X1 Sb id step brk s x) N [] body (ρx x ++ ρk) b' (X1 s) Sb)
    (k : ∀ (Dk : Nat) (s : σ), (s = xs.foldl step s0 ∨ ∃ pre x rest, xs = pre ++ x :: rest ∧ s = pre.foldl step s0 ∧ brk s x) → HQ Q N (⟨.collected Dk, #[]⟩ :: D) .normal ρ b (RCol Dk :: (X1 s ++ Xr)) S) :
    HC P Q N D (.block id (.rangeFunc (.tmp g) ps assign body)) ρ b X S := by
  intro w m a ha
  have m1 := m.perm (takeR_perm _ _ _ _ hX)
  have hSb := getR_sub _ _ _ hS
  obtain ⟨M, hM⟩ : ∃ M, M = feet (X1 s0) := ⟨_, rfl⟩
  have hbz : b.w.heap.size ≤ w.heap.size := m.fr.size
  have lowM : ∀ k, M k → k < w.heap.size := by
    rw [hM]
    rintro k ⟨x, hx, hk⟩
    exact x.low (m1.hx x (List.mem_append_left _ hx)) hk
  have lowX : ∀ s x, x ∈ X1 s ++ Xr → ∀ k, x.foot k → k < w.heap.size := by
    intro s x hx k hk
    rcases List.mem_append.1 hx with hx | hx
    · exact lowM k (by rw [hM]; exact (hft s k).1 ⟨x, hx, hk⟩)
    · exact x.low (m1.hx x (List.mem_append_right _ hx)) hk
  have lowS : ∀ s ∈ S, ∀ k, s.foot k → k < w.heap.size := fun s hs k hk => s.low (m.hs s hs) hk
  refine wpIn_wide (n := 3).1 (wpIn_block ?_)
  have hown : ∀ {s : σ} {W W' : World} {row : Option Nat}, Mem b (X1 s ++ Xr) S W → W.grownBy W' row → (∀ r, row = some r → w.heap.size ≤ r ∧ ∃ o : Obj, W.heap[r]? = some o ∧ o.isCells = false) → Mem b (X1 s ++ Xr) S W' := by
    intro s W W' row mW hg hr
    refine mW.grown (fr_of_grown hg) (fun k e => Nat.le_trans hbz (hr k e).1) (fun k e x hx hk => ?_) (fun k e x hx hk => ?_)
    · have h1 := lowX s x hx k hk
      have h2 := (hr k e).1
      omega
    · have h1 := lowS x hx k hk
      have h2 := (hr k e).1
      omega
  have hround : ∀ {s : σ} {W W' : World} {Y : List Res}, Mem b (X1 s ++ Xr) S W → w.heap.size ≤ W.heap.size → Mem ⟨W, feet (X1 s), feet Sb⟩ Y Sb W' → KeepsFrom w.heap.size W W' ∧ KpM w.heap.size M W W' ∧ Mem b (Y ++ Xr) S W' := by
    intro s W W' Y mW hsz mY
    have e : ∀ k, feet (X1 s) k ↔ M k := fun k => by rw [hM]; exact hft s k
    refine ⟨⟨mY.fr.size, fun k o hk ho _ => ?_⟩, fun k hk hn => ?_, (mW.frame hSb mY).subS (fun x hx => List.mem_append_right _ hx)⟩
    · have hlt := (Array.getElem?_eq_some_iff.1 ho).1
      exact (mY.fr.block k hlt (fun q => by have := lowM k ((e k).1 q); omega)).trans ho
    · exact mY.fr.block k (by show k < W.heap.size; omega) (fun q => hn ((e k).1 q))
  refine wpIn_rangeFunc_ownH (n := 3) (α := α) (gf := gf) (lb := lb.toArray) rfl (by decide) (ha.eval hv) trivial heg (hseq w m)
    (fun {A B C} h1 h2 k hk hn => (h2 k hk hn).trans (h1 k hk hn)) (fun W l o o' hl ho _ _ k hk hn => World.putObj_heap_other (by omega)) (Below.refl _ w) (fun x => by simpa using hps x)
    (fun pre W => w.heap.size ≤ W.heap.size ∧ Mem b (X1 (pre.foldl step s0) ++ Xr) S W) (fun c pre W => c = .exit id ∧ ∃ pre' x, pre = pre' ++ [x] ∧ Mem b (X1 (pre'.foldl step s0) ++ Xr) S W ∧ brk (pre'.foldl step s0) x)
    (fun pre W W' row h hg hr => ⟨Nat.le_trans h.1 hg.size, hown h.2 hg hr⟩)
    (fun c pre W W' row h hg hr => by
      obtain ⟨hc, pre', x, e, h1, h2⟩ := h
      exact ⟨hc, pre', x, e, hown h1 hg hr, h2⟩)
    ⟨Nat.le_refl _, m1⟩ (fun x a' _ => Ag N [] (ρx x ++ ρk) a') (fun x a' => ownFrom_pure _ (fun _ => Ag N [] (ρx x ++ ρk) a')) ?_ ?_ ?_ ?_
  · rintro l pre x W K ⟨hsz, mW⟩ hK
    refine hasg l ⟨W, feet (X1 (pre.foldl step s0)), feet Sb⟩ (pre.foldl step s0) x _ (fun W' m' a' ha' => ?_) (fun ⟨_, _, h⟩ => h) W (mW.part hSb) _ (hnd x a ha)
    obtain ⟨h1, h2, h3⟩ := hround mW hsz m'
    exact hK a' W' h1 (by rw [← hM]; exact h2) ⟨Nat.le_trans hsz h1.size, h3⟩ ha'
  · rintro l pre x a' W _ _ ⟨hsz, mW⟩ hax _
    refine wpIn_mono (hbody l ⟨W, feet (X1 (pre.foldl step s0)), feet Sb⟩ (pre.foldl step s0) x (fun ⟨_, _, h⟩ => h) W (mW.part hSb) a' hax) ?_
    intro e a2 W2 q
    cases e with
    | normal =>
      have q' : Mem _ (X1 (step (pre.foldl step s0) x)) Sb W2 := q
      obtain ⟨h1, h2, h3⟩ := hround mW hsz q'
      refine ⟨h1, by rw [← hM]; exact h2, Nat.le_trans hsz h1.size, ?_⟩
      rw [List.foldl_append]
      exact h3
    | exit i =>
      obtain ⟨rfl, q1, q2⟩ := q
      obtain ⟨h1, h2, h3⟩ := hround mW hsz q1
      exact ⟨h1, rfl, pre, x, rfl, h3, q2⟩
    | ret => exact q.elim
    | goto t => exact q.elim
    | panic c => exact q.elim
    | outgrown => exact q.elim
  · rintro Dk ys W hD rfl ⟨hsz, mW⟩ hdef
    exact k Dk _ (.inl rfl) W (mW.addCol hbz hD (lowX _) lowS hdef) _ ⟨ha.sz, by rw [ha.df], ha.gt⟩
  · rintro Dk c pre W hD hpre ⟨rfl, pre', x, rfl, mW, hb⟩ hdef
    obtain ⟨rest, hr⟩ := hpre
    refine wpIn_exit ?_
    have hq := k Dk _ (.inr ⟨pre', x, rest, by rw [← hr]; simp, rfl, hb⟩) W (mW.addCol hbz hD (lowX _) lowS hdef) { a with defers := ⟨.collected Dk, #[]⟩ :: a.defers } ⟨ha.sz, by show _ :: a.defers = _; rw [ha.df], ha.gt⟩
    show (Exit.inBlock id Q) (.exit id) _ W
    simp only [Exit.inBlock, if_pos]
    exact hq
end
theorem ag_nd2 {N p q : Nat} {D : List Deferred} {ρ : Env} {a : Act} {u v : Value} (hpq : (p == q) = false) (hp : p < N) (hq : q < N) (ha : Ag N D ρ a) :
    Ag N [] ([] ++ penv #[p, q] [u, v] ++ ρ) { tmps := ((#[p, q] : Array Tmp).zip [u, v].toArray).foldl (fun t (p, v) => t.setIfInBounds p v) a.tmps, defers := [] } := by
  have hne : p ≠ q := by simpa using hpq
  have e : (((#[p, q] : Array Tmp).zip [u, v].toArray).foldl (fun t (p, v) => t.setIfInBounds p v) a.tmps) = (a.tmps.setIfInBounds p u).setIfInBounds q v := by simp
  rw [e]
  have hsz := ha.sz
  refine ⟨by simpa using hsz, rfl, fun t z ht => ?_⟩
  simp only [penv, List.nil_append, List.zip_cons_cons, List.zip_nil_right, List.cons_append, get] at ht
  show ((a.tmps.setIfInBounds p u).setIfInBounds q v)[t]? = some z
  cases h1 : Nat.beq p t with
  | true =>
    rw [h1] at ht
    have h1' : p = t := Nat.eq_of_beq_eq_true h1
    simp only [cond_true, Option.some.injEq] at ht
    subst h1'; subst ht
    rw [Array.getElem?_setIfInBounds_ne (Ne.symm hne), Array.getElem?_setIfInBounds_self_of_lt (by omega)]
  | false =>
    rw [h1] at ht
    simp only [cond_false] at ht
    have h1' : p ≠ t := Nat.ne_of_beq_eq_false h1
    cases h2 : Nat.beq q t with
    | true =>
      rw [h2] at ht
      have h2' : q = t := Nat.eq_of_beq_eq_true h2
      simp only [cond_true, Option.some.injEq] at ht
      subst h2'; subst ht
      rw [Array.getElem?_setIfInBounds_self_of_lt (by simp; omega)]
    | false =>
      rw [h2] at ht
      have h2' : q ≠ t := Nat.ne_of_beq_eq_false h2
      rw [Array.getElem?_setIfInBounds_ne h2', Array.getElem?_setIfInBounds_ne h1']
      exact ha.gt t z (by simpa using ht)
/-! ### In and out of a function with such a loop -/
theorem henterM {P : Program} {f : Nat} {fn : Func} {c : Code} {vs : List Value} {R : Value → List Res → List Res → Prop} {N : Nat} {X0 S0 : List Res} (hf : P.funcs[f]? = some fn) (hb : fn.body = some c) (hN : fn.ntmps = N) (hl : vs.length ≤ N)
    (h : ∀ b, HC P (bodyPostM Fence.wide 3 P fn (RB b R)) N [] c (argsEnv vs 0) b X0 S0) : Con P f vs X0 S0 R := fun w m => by
  refine callsIn_wide (n := 3).1 (callsIn_of_wp_marks hf hb trivial (wpIn_wide.2 (h _ w m _ ⟨?_, rfl, fun t v ht => ?_⟩)))
  · simp [hN]; omega
  · obtain ⟨_, h2⟩ := get_argsEnv vs 0 t v ht
    have hlt := (List.getElem?_eq_some_iff.1 h2).1
    rw [Array.getElem?_append_left (by simpa using hlt)]
    simpa using h2
section
variable {P : Program} {fn : Func} {R : Value → List Res → List Res → Prop} {N n : Nat} {D : List Deferred} {ρ : Env} {b : Base} {X X' Xz S S' : List Res} {e : Exit}
/-- the block is given back -/
theorem hcol {Dk : Nat} (he : Leaves e) (is : List Nat) (hX : takeR is X = some ([RCol Dk], X')) (k : HQ (bodyPostM Fence.wide n P fn (RB b R)) N D e ρ b X' S) : HQ (bodyPostM Fence.wide n P fn (RB b R)) N (⟨.collected Dk, #[]⟩ :: D) e ρ b X S := by
  intro w m a ha
  have m1 := m.perm (takeR_perm _ _ _ _ hX)
  have hc : w.heap[Dk]? = some (.deferred (some [])) := m1.hx (RCol Dk) (by simp)
  have hx1 := (List.pairwise_cons.1 m1.xx).1
  have hr := run_takeDeferred (P := P) hc
  have hf : Fr (fun k => k = Dk) w (w.putObj Dk (.deferred none)) := ⟨rfl, rfl, rfl, by simp, fun k _ hk => World.putObj_heap_other hk⟩
  have hbz : b.w.heap.size ≤ Dk ∨ b.M Dk := (m1.nx (RCol Dk) (by simp) Dk rfl).symm
  have m2 : Mem b X' S (w.putObj Dk (.deferred none)) := by
    refine ⟨m1.fr.trans hf (fun _ e => e) (fun i hi e => ?_), (List.pairwise_cons.1 m1.xx).2, fun x hx => m1.xs x (List.mem_cons_of_mem _ hx), fun x hx => x.keep hf (fun k hk e => ?_) (m1.hx x (List.mem_cons_of_mem _ hx)), fun s hs => s.keep hf (fun k hk e => ?_) (m1.hs s hs), fun x hx => m1.nx x (List.mem_cons_of_mem _ hx), m1.ns⟩
    · subst e
      rcases hbz with h | h
      · omega
      · exact h
    · exact hx1 x hx k e hk
    · exact m1.xs (RCol Dk) (by simp) s hs k e hk
  have hk := k _ m2 { a with defers := D } ⟨ha.sz, rfl, ha.gt⟩
  cases e with
  | normal =>
    show LeavesInM Fence.wide n P fn a.tmps _ a.defers .returning w
    rw [ha.df]
    exact ⟨by simp, .inl ⟨Dk, _, rfl, hr, hk⟩⟩
  | ret =>
    show LeavesInM Fence.wide n P fn a.tmps _ a.defers .returning w
    rw [ha.df]
    exact ⟨by simp, .inl ⟨Dk, _, rfl, hr, hk⟩⟩
  | _ => exact he.elim
theorem hretM {v : Value} (he : Leaves e) (h : ∀ a, Ag N [] ρ a → ∀ w, (results fn a.tmps).run P w = .ok v w) (is : List Nat) (hX : takeR is X = some (X', Xz)) (js : List Nat) (hS : getR js S = some S') (hR : R v X' S') : HQ (bodyPostM Fence.wide n P fn (RB b R)) N [] e ρ b X S := by
  intro w m a ha
  have hm := m.out is hX js hS
  cases e with
  | normal =>
    show LeavesInM Fence.wide n P fn a.tmps _ a.defers .returning w
    rw [ha.df]
    exact ⟨v, h a ha w, _, _, _, rfl, hR, hm⟩
  | ret =>
    show LeavesInM Fence.wide n P fn a.tmps _ a.defers .returning w
    rw [ha.df]
    exact ⟨v, h a ha w, _, _, _, rfl, hR, hm⟩
  | _ => exact he.elim
theorem hretM2 {t t' : Nat} {v v' : Value} (he : Leaves e) (hr : fn.results = #[.tmp t, .tmp t']) (hv : get ρ t = some v) (hv' : get ρ t' = some v') (is : List Nat) (hX : takeR is X = some (X', Xz)) (js : List Nat) (hS : getR js S = some S') (hR : R (.tuple #[v, v']) X' S') : HQ (bodyPostM Fence.wide n P fn (RB b R)) N [] e ρ b X S :=
  hretM he (fun a ha w => by have h1 := ha.getD hv; have h2 := ha.getD hv'; simp at h1 h2; simp [results, hr, h1, h2]) is hX js hS hR
end
end Go.Eng
end
section
/- The library's slices.Backward over a slice of numbers: what it hands to a loop's body, and in which order. -/
set_option linter.unusedVariables false
set_option linter.unusedSimpArgs false
namespace Go.Proofs.YtfikjheicjamhaaDoor
open Go.Eng Go.RowKit Go.Shelf
attribute [local go_sem] Oper.semAt_some
set_option maxRecDepth 100000 in
set_option maxHeartbeats 4000000 in
theorem back1_in (F : Fence) (n : Nat) (h7 : F.fn 189) (hro : F.round = none) (hn : 1 ≤ n) (l Bs B b off cap : Nat) (M : Nat → Prop) (zs : List Int) {α : Type} (L : List α) (encs : α → List Value) (hL : L.length = zs.length) (henc : ∀ (k : Nat) (x : α), L[k]? = some x → encs x = [.int .i64 ((zs.length - 1 - k : Nat) : Int), .int .i64 (zs[zs.length - 1 - k]?.getD 0)]) (hreach : zs.length * 8 ≤ 140737488351232) (hbs : Bs < B ∧ ¬ M Bs) (hb : b < B ∧ ¬ M b) (J Jx : List α → World → Prop)
    (hY : ∀ pre x W, J pre W → pre.length < L.length → YieldAt F (n - 1) Tryd.prog l (encs x).toArray W fun e W' =>
      (e = .returned (.bool true) ∧ J (pre ++ [x]) W' ∧ KpM B M W W') ∨ (e = .returned (.bool false) ∧ Jx (pre ++ [x]) W'))
    (W : World) (hBs : W.cell? ⟨Bs, 0, none⟩ = some (.slice (some ⟨b, off, none⟩) zs.length cap)) (hc : ∀ j, j < zs.length → W.cell? ⟨b, off + j, none⟩ = some (.int .i64 (zs[j]?.getD 0))) (h0 : J [] W) :
    CallsIn F n Tryd.prog 189 #[.func (.yield l) #[] #[], .pointer (some ⟨Bs, 0, none⟩)] W fun e W' => (∃ v, e = .returned v) ∧
      ((∃ ys, ys = L ∧ J ys W') ∨ (∃ pre, pre <+: L ∧ Jx pre W')) := by
  refine callsIn_of_wp Tryd.func189 rfl h7 ?_ hro
  simp only [Tryd.ntmps189, List.size_toArray, List.length_cons, List.length_nil, Nat.reduceAdd, Nat.reduceSub, Array.replicate_succ, Array.replicate_zero, List.push_toArray, List.append_toArray, List.nil_append, List.cons_append]
  gi_wp2
  gi_loopw [3] (fun i wr => ∃ k : Nat, k ≤ zs.length ∧ i = .int .i64 ((zs.length : Int) - 1 - (k : Int)) ∧ J (L.take k) wr ∧ KpM B M W wr)
    (fun i _ => (intOf i + 1).toNat)
  case atStart => exact ⟨0, Nat.zero_le _, by simp, h0, fun _ _ _ => rfl⟩
  case round =>
    obtain ⟨k, hk, rfl, hJs, hnx⟩ := hrel
    have hBs' : wr.cell? ⟨Bs, 0, none⟩ = some (.slice (some ⟨b, off, none⟩) zs.length cap) := by rw [← hBs]; simp only [World.cell?, hnx Bs hbs.1 hbs.2]
    have hcx : ∀ j, j < zs.length → wr.cell? ⟨b, off + j, none⟩ = some (.int .i64 (zs[j]?.getD 0)) := fun j h => by rw [← hc j h]; simp only [World.cell?, hnx b hb.1 hb.2]
    by_cases hlt : k < zs.length
    · obtain ⟨j, hj⟩ : ∃ j : Nat, j + 1 + k = zs.length := ⟨zs.length - 1 - k, by omega⟩
      have hjk : zs.length - 1 - k = j := by omega
      have hji : (zs.length : Int) - 1 - (k : Int) = (j : Int) := by omega
      obtain ⟨x, hx⟩ : ∃ x, L[k]? = some x := ⟨_, List.getElem?_eq_getElem (by omega)⟩
      have htk : L.take (k + 1) = L.take k ++ [x] := by rw [List.take_add_one, hx]; rfl
      obtain ⟨fn, tmps, assign, body, hy, hR⟩ := hY _ x wr hJs (by rw [List.length_take]; omega)
      rw [henc k x hx, hjk] at hy
      have hcx' := hcx j (by omega)
      obtain ⟨z, hz⟩ : ∃ z, zs[j]?.getD 0 = z := ⟨_, rfl⟩
      rw [hz] at hcx' hy
      clear hcx hz hc
      rw [hji]
      have hge : ¬ ((j : Int) < 0) := by omega
      have hjl : j < zs.length := by omega
      gi_wp2
      refine hR.mono ?_
      rintro e W3 (⟨rfl, hJ3, hk3⟩ | ⟨rfl, hJx3⟩)
      · gi_wp2
        go_roundw
        case rel => exact ⟨k + 1, by omega, by congr 1 <;> omega, by rw [htk]; exact hJ3, fun q h1 h2 => (hk3 q h1 h2).trans (hnx q h1 h2)⟩
        case measure => simp [intOf] <;> omega
      · gi_wp2
        refine bodyPost_ret (results_none rfl _ _ _) rfl ?_
        exact ⟨⟨_, rfl⟩, .inr ⟨_, by rw [← htk]; exact List.take_prefix _ _, hJx3⟩⟩
    · obtain rfl : k = zs.length := by omega
      have hge : ¬ ((zs.length : Int) - 1 - (zs.length : Int) ≥ 0) := by omega
      gi_wp2
      go_end0
      exact ⟨⟨_, rfl⟩, .inl (by rw [← hL, List.take_length] at hJs; exact hJs)⟩
set_option maxRecDepth 100000 in
set_option maxHeartbeats 4000000 in
theorem back0_in (F : Fence) (n : Nat) (h7 : F.fn 189) (hro : F.round = none) (l Bs cap : Nat) (A : Option Addr) (J : World → Prop)
    (W : World) (hBs : W.cell? ⟨Bs, 0, none⟩ = some (.slice A 0 cap)) (h0 : J W) :
    CallsIn F n Tryd.prog 189 #[.func (.yield l) #[] #[], .pointer (some ⟨Bs, 0, none⟩)] W fun e W' => (∃ v, e = .returned v) ∧ J W' := by
  refine callsIn_of_wp Tryd.func189 rfl h7 ?_ hro
  simp only [Tryd.ntmps189, List.size_toArray, List.length_cons, List.length_nil, Nat.reduceAdd, Nat.reduceSub, Array.replicate_succ, Array.replicate_zero, List.push_toArray, List.append_toArray, List.nil_append, List.cons_append]
  gi_wp2
  gi_loopw [3] (fun i wr => i = .int .i64 (-1) ∧ J wr) (fun _ _ => 0)
  case atStart => exact ⟨by simp, h0⟩
  case round =>
    obtain ⟨rfl, hJs⟩ := hrel
    gi_wp2
    go_end0
    exact ⟨⟨_, rfl⟩, hJs⟩
theorem back_stops (F : Fence) (n : Nat) (h7 : F.fn 189) (hro : F.round = none) (hn : 1 ≤ n) {w : World} {Bs e : Nat} {v : Value} {zs : List Int} {M : Nat → Prop} {α : Type} (L : List α) (encs : α → List Value) (hL : L.length = zs.length) (henc : ∀ (k : Nat) (x : α), L[k]? = some x → encs x = [.int .i64 ((zs.length - 1 - k : Nat) : Int), .int .i64 (zs[zs.length - 1 - k]?.getD 0)]) (hreach : zs.length * 8 ≤ 140737488351232)
    (hBs : w.cell? ⟨Bs, 0, none⟩ = some v) (hMB : ¬ M Bs) (h : Go.Eng.Own w 0 e 1 v zs.length (zs.map (Value.int .i64))) (hMA : ∀ k, vblk v k → ¬ M k) :
    SeqStopsK F n Tryd.prog 189 #[.pointer (some ⟨Bs, 0, none⟩)] (fun x => (encs x).toArray) (KpM w.heap.size M) (fun ys => ys = L) (fun pre => pre <+: L) L.length w := by
  intro l J Jx W hW _ _ hY h0
  have hlt := lt_of_cell hBs
  have hc' : W.cell? ⟨Bs, 0, none⟩ = some v := (hW.cell (p := ⟨Bs, 0, none⟩) hlt).trans hBs
  obtain ⟨hl, ⟨rfl, hz⟩ | ⟨g, o, cap, cur, rfl, _, hb, hcap, hml, hcl, hx⟩⟩ := h
  · have hL0 : L = [] := List.eq_nil_of_length_eq_zero (by omega)
    subst hL0
    exact (back0_in F n h7 hro l Bs 0 none (J []) W hc' h0).mono fun e W' ⟨he, hj⟩ => ⟨he, .inl ⟨_, rfl, hj⟩⟩
  · by_cases hz : zs.length = 0
    · have hL0 : L = [] := List.eq_nil_of_length_eq_zero (by omega)
      subst hL0
      rw [hz] at hc'
      exact (back0_in F n h7 hro l Bs cap _ (J []) W hc' h0).mono fun e W' ⟨he, hj⟩ => ⟨he, .inl ⟨_, rfl, hj⟩⟩
    · have hcs : ∀ j, j < zs.length → W.cell? ⟨g, o + j, none⟩ = some (.int .i64 (zs[j]?.getD 0)) := fun j hj => by
        refine (hW.cell (p := ⟨g, o + j, none⟩) hb.lt).trans (hb.cell ?_)
        have h1 : ((cur.drop o).take (zs.length * 1))[j]? = (zs.map (Value.int .i64))[j]? := by rw [hx]
        rw [List.getElem?_take, if_pos (by omega), List.getElem?_drop, List.getElem?_map, List.getElem?_eq_getElem hj] at h1
        rw [h1, List.getElem?_eq_getElem hj]
        rfl
      have hsz := hW.size
      have := back1_in F n h7 hro hn l Bs w.heap.size g o cap M zs L encs hL henc hreach ⟨hlt, hMB⟩ ⟨hb.lt, hMA g rfl⟩ J Jx hY W hc' hcs h0
      refine this.mono ?_
      rintro e W' ⟨he, ⟨ys, rfl, hj⟩ | ⟨pre, hp, hj⟩⟩
      · exact ⟨he, .inl ⟨_, rfl, hj⟩⟩
      · exact ⟨he, .inr ⟨_, hp, hj⟩⟩
end Go.Proofs.YtfikjheicjamhaaDoor
end
section
/- Contracts: bytes in fewer (layer 5): the match at a place. -/
set_option linter.unusedVariables false
set_option linter.unusedSimpArgs false
set_option maxRecDepth 20000
set_option maxHeartbeats 2000000
namespace Go.Proofs.YtfikjheicjamhaaDoor
open Go.Eng Go.Hx
/-- places from behind, each with its number -/
def backPos (zs : List Nat) (i : Nat) (h : ∀ z ∈ zs, z < i) : List {x : Nat × Nat // x.2 < i} := (zs.attach.zipIdx.map fun x => (⟨(x.2, x.1.1), h _ x.1.2⟩ : {x : Nat × Nat // x.2 < i})).reverse
theorem backPos_length (zs : List Nat) (i : Nat) (h : ∀ z ∈ zs, z < i) : (backPos zs i h).length = zs.length := by simp [backPos]
theorem backPos_map (zs : List Nat) (i : Nat) (h : ∀ z ∈ zs, z < i) : (backPos zs i h).map (fun x => x.1.2) = zs.reverse := by
  unfold backPos
  rw [List.map_reverse, List.map_map]
  congr 1
  apply List.ext_getElem
  · simp
  · intro j h1 h2
    simp
theorem backPos_get (zs : List Nat) (i : Nat) (h : ∀ z ∈ zs, z < i) (k : Nat) (x : {x : Nat × Nat // x.2 < i}) (hx : (backPos zs i h)[k]? = some x) : k < zs.length ∧ x.1.1 = zs.length - 1 - k ∧ zs[zs.length - 1 - k]? = some x.1.2 := by
  have hk : k < zs.length := by rw [← backPos_length zs i h]; exact (List.getElem?_eq_some_iff.1 hx).1
  unfold backPos at hx
  rw [List.getElem?_reverse (by simpa using hk)] at hx
  simp only [List.length_map, List.length_zipIdx, List.length_attach, List.getElem?_map, List.getElem?_zipIdx, Nat.zero_add] at hx
  have hlt : zs.length - 1 - k < zs.attach.length := by simp; omega
  rw [List.getElem?_eq_getElem hlt] at hx
  simp only [Option.map_some, Option.some.injEq] at hx
  subst hx
  refine ⟨hk, rfl, ?_⟩
  rw [List.getElem?_eq_getElem (by simpa using hlt)]
  simp
theorem foldl_backPos (f : Nat × Nat → Nat → Nat × Nat) (s : Nat × Nat) (i : Nat) (L : List {x : Nat × Nat // x.2 < i}) : L.foldl (fun s x => f s x.1.2) s = (L.map (fun x => x.1.2)).foldl f s := by rw [List.foldl_map]
theorem match_ends {l : List UInt8} {i : Nat} {zs : List Nat} (hz : zs = posL l i (key4 l i)) (hi : i + 4 ≤ l.length) (h : ∀ z ∈ zs, z < i) {s : Nat × Nat}
    (hs : s = (backPos zs i h).foldl (fun s x => pstep l i s x.1.2) (0, 0) ∨ ∃ pre x rest, backPos zs i h = pre ++ x :: rest ∧ s = pre.foldl (fun s x => pstep l i s x.1.2) (0, 0) ∧ 1024 < i - x.1.2) : s = matchL l i := by
  subst hz
  rcases hs with rfl | ⟨pre, x, rest, e, rfl, hb⟩
  · rw [foldl_backPos, backPos_map, match_eq hi]
  · have e2 := congrArg (List.map fun x => x.1.2) e
    rw [backPos_map, List.map_append, List.map_cons] at e2
    rw [foldl_backPos, ← match_eq hi]
    exact (match_brk e2 hb).symm
def nints (l : List Nat) : List Int := l.map fun n : Nat => (n : Int)
theorem nints_length (l : List Nat) : (nints l).length = l.length := List.length_map ..
theorem own_ints {w : World} {e : TypeId} {v : Value} {l : List Nat} (h : Go.Eng.Own w 0 e 1 v l.length (nts l)) : Go.Eng.Own w 0 e 1 v (nints l).length ((nints l).map (Value.int .i64)) := by
  rw [nints_length]
  unfold nints
  rw [List.map_map]
  exact h
theorem z_back {es : Fes} {j : Nat} {x : IRow} (h : (fress es)[j]? = some x.res) : (x.res :: (fress es).eraseIdx j).Perm (fress es) := by
  obtain ⟨h1, h2⟩ := List.getElem?_eq_some_iff.1 h
  have := eraseIdx_perm (fress es) j h1
  rwa [h2] at this
theorem backC {A : Option Addr} {n c : Nat} : Con Tryd.prog 175 [.slice A n c] [] [] (fun v_ X_ S_ => ∃ gB, v_ = (.func (.func 189) #[] #[.pointer (some ⟨gB, 0, none⟩)]) ∧ X_ = [RBlk gB 263 [.slice A n c]] ∧ S_ = []) := by
  refine henter (N := 4) Tryd.func175 rfl rfl (by simp) fun b => ?_
  refine hseq <| hreg <| ?_
  refine hx (xh_box rfl (fun g1 => ?_))
  refine hy (fun _ => y_assign rfl) <| hend <| hmemQ (X' := [_]) (S' := []) (fun _ m => m) <| hthen <| hseq <| hreg <| hy (fun _ => y_mkf rfl rfl) <| hy (fun _ => y_assign rfl) <| hend <| hsub (ρ' := [(2, _), (1, _), (0, _)]) ⟨rfl, rfl, rfl, trivial⟩ <| hthen <| hret <| ?_
  refine hmemQ (fun w m => m.eqX 0 rfl (show _ = RBlk g1 263 [.slice A n c] from rfl)) ?_
  exact hret1 trivial rfl rfl [0] rfl [] rfl ⟨_, rfl, rfl, rfl⟩
theorem overC {A : Option Addr} {n c : Nat} : Con Tryd.prog 156 [.slice A n c] [] [] (fun v_ X_ S_ => ∃ g gm, v_ = (.pointer (some ⟨g, 0, none⟩)) ∧ X_ = [RFnd g gm A n c 0 []] ∧ S_ = []) := by
  refine henter (N := 7) Tryd.func156 rfl rfl (by simp) fun b => ?_
  refine hseq <| hreg <| hy (fun _ => y_assign rfl) <| hend <| hthen <| hseq <| hreg <| hy (fun _ => y_move rfl) <| ?_
  refine hx (xh_mkmap (KN (n := 4)) (fun g4 => ?_))
  refine hy (fun _ => y_build ti259 rfl rfl (by kernel_rfl) (.cons (o := 0) (sz := 1) (by kernel_rfl) rfl rfl (Nat.le_of_ble_eq_true rfl) (.cons (o := 1) (sz := 1) (by kernel_rfl) rfl rfl (Nat.le_of_ble_eq_true rfl) .nil))) <| ?_
  refine hx (xh_box rfl (fun g6 => ?_))
  refine hy (fun _ => y_assign rfl) <| hend <| hsub (ρ' := [(2, _), (0, _)]) ⟨rfl, rfl, trivial⟩ <| hmemQ (X' := [_, _]) (S' := []) (fun _ m => m) <| hthen <| hret <| ?_
  refine hmemQ (fun w m => m.packNil) ?_
  refine hmemQ (fun w m => m.eqX 1 rfl (show _ = RBlk g6 259 [.slice A n c, .map (some g4), .int .i64 ((0 : Nat) : Int)] from rfl)) ?_
  refine hmemQ (X' := RFnd g6 g4 A n c 0 [] :: _) (fun w m => (m.perm (takeR_perm [0, 1, 0] _ [_, _, _] _ rfl)).pack) ?_
  exact hret1 trivial rfl rfl [0] rfl [] rfl ⟨_, _, rfl, rfl, rfl⟩
theorem enc_ok (zs : List Nat) (i : Nat) (h : ∀ z ∈ zs, z < i) (k : Nat) (x : {x : Nat × Nat // x.2 < i}) (hx : (backPos zs i h)[k]? = some x) : [Value.int .i64 (x.1.1 : Nat), .int .i64 (x.1.2 : Nat)] = [.int .i64 (((nints zs).length - 1 - k : Nat) : Int), .int .i64 ((nints zs)[(nints zs).length - 1 - k]?.getD 0)] := by
  obtain ⟨h1, h2, h3⟩ := backPos_get zs i h k x hx
  rw [nints_length]
  unfold nints
  rw [List.getElem?_map, h3, h2]
  rfl
theorem matchC {g gm : Nat} {A : Option Addr} {n c p i : Nat} {l : List UInt8} {es : Fes} (hc : n ≤ c) (hn : n ≤ 1000000000) (hl : l.length = n) (hpi : p ≤ i) (hi : i ≤ n) (hF : FOk l p es) : Con Tryd.prog 158 [.pointer (some ⟨g, 0, none⟩), .int .i64 (i : Nat)] [RFnd g gm A n c p es] [RRd 1 A n (b8s l)] (fun v_ X_ S_ => ∃ p1 es1, v_ = (.tuple #[.int .i64 ((matchL l i).1 : Nat), .int .i64 ((matchL l i).2 : Nat)]) ∧ X_ = [RFnd g gm A n c p1 es1] ∧ S_ = [] ∧ (p1 ≤ i ∧ FOk l p1 es1)) := by
  refine henterM (N := 60) Tryd.func158 rfl rfl (by simp) fun b => ?_
  refine hfactC (fun m => rdB (m.rd 0 rfl)) ?_
  rintro ⟨hl_r, hA_r⟩
  refine hmemC (fun w m => (m.perm (takeR_perm [0] _ [_] _ rfl)).unpack) ?_
  refine hseq <| hreg <| ?_
  refine hx (xh_box rfl (fun g2 => ?_))
  refine hx (xh_box rfl (fun g3 => ?_))
  refine hy (fun _ => y_assign rfl) <| hy (fun _ => y_assign rfl) <| hend <| hmemQ (X' := [_, _, _, _, _]) (S' := [_]) (fun _ m => m) <| hthen <| hseq <| hseq <| hdrw [] [(0, some 0), (1, some 0), (2, some 0), (3, some 0), (4, some 0), (5, some 0), (6, some 0), (7, some 0)] (by kernel_rfl) (by kernel_rfl) rfl 99 <| hty (fun m => y_ld1 rfl ag3 (ld_blk (m.blk 0 rfl) rfl)) <| htyU (y_add rfl rfl (w64 (by omega) (by omega))) <| hty (fun m => y_ld1 rfl ag238 (ld_blk (m.blk 1 rfl) rfl)) <| htyU (y_nilp rfl) <| htyU (y_fld rfl fa259_0 (by decide)) <| hty (fun m => y_ld1 rfl ag32 (ld_blk (m.blk 2 rfl) rfl)) <| htyU (y_lenS rfl Tryd.underlying32) <| htyU (y_gtr rfl rfl) <| htend <| hsub (ρ' := [(18, _), (5, _), (4, _), (3, _), (2, _), (0, _), (1, _)]) ⟨rfl, rfl, rfl, rfl, rfl, rfl, rfl, trivial⟩ <| hthen <| ?_
  refine hif rfl (fun h1 => ?_) (fun h1 => ?_)
  · have e := match_short (b := l) (i := i) (by omega) (by omega)
    rw [e]
    refine hseq <| hreg <| hy (fun _ => y_assign rfl) <| hy (fun _ => y_assign rfl) <| hend <| hthen <| hret <| hthen_ret <| ?_
    refine hmemQ (X' := RFnd g gm A n c p es :: _) (fun w m => (m.perm (takeR_perm [2, 2, 2] _ [_, _, _] _ rfl)).pack) ?_
    exact hretM2 trivial rfl rfl rfl [0] rfl [] rfl ⟨p, es, rfl, rfl, rfl, ⟨hpi, hF⟩⟩
  · have hi4 : i + 4 ≤ n := by omega
    refine hcskip <| hthen <| hseq <| ?_
    refine hmemC (X' := RFnd g gm A n c p es :: _) (fun w m => (m.perm (takeR_perm [2, 2, 2] _ [_, _, _] _ rfl)).pack) ?_
    refine hreg <| hy (fun m => y_ld1 rfl ag238 (ld_blk (m.blk 2 rfl) rfl)) <| hy (fun m => y_ld1 rfl ag3 (ld_blk (m.blk 1 rfl) rfl)) <| ?_
    refine hx (xh_call rfl Tryd.call174 (uptoC (by omega) (by omega) hl (by omega) (by omega) hF) [0] rfl [0] rfl ?_)
    rintro _ _ _ ⟨es1, rfl, rfl, rfl, hp⟩
    have hF1 := hp
    refine hend <| hsub (ρ' := [(18, _), (5, _), (4, _), (3, _), (2, _), (0, _), (1, _)]) ⟨rfl, rfl, rfl, rfl, rfl, rfl, rfl, trivial⟩ <| hmemQ (X' := [_, _, _]) (S' := [_]) (fun _ m => m) <| hthen <| hseq <| hreg <| ?_
    refine hx (xh_alloc ti3 (fun g6 => ?_))
    refine hx (xh_alloc ti3 (fun g7 => ?_))
    refine hx0 (xh_st1 1 rfl rfl rfl sz3 rfl (by first | exact Nat.le_of_ble_eq_true rfl | simp) ?_)
    refine hx0 (xh_st1 1 rfl rfl rfl sz3 rfl (by first | exact Nat.le_of_ble_eq_true rfl | simp) ?_)
    refine hend <| hmemQ (X' := [_, _, _, _, _]) (S' := [_]) (fun _ m => m) <| hthen <| hseq <| hseq <| ?_
    refine hmemC (fun w m => (m.perm (takeR_perm [2] _ [_] _ rfl)).unpack) ?_
    refine hfactC (fun m => (m.rd 0 rfl).some (by omega)) fun h_ => ?_
    obtain ⟨a, rfl⟩ : ∃ a_, A = some a_ := ⟨_, h_⟩
    clear h_
    rcases hq : aget es1 ⟨key4 l i, key4_length (by omega)⟩ with _ | x
    · have e0 := kept_none hF1 hq
      refine hdrw [15] [(0, some 1), (1, some 0), (2, some 0), (3, some 0), (4, some 1), (5, some 1), (6, some 1), (7, some 1), (8, some 1), (9, some 1), (10, some 1), (11, some 0), (12, some 0), (13, some 0), (14, some 0), (15, none)] (by kernel_rfl) (by kernel_rfl) rfl 99 <| hty (fun m => y_ld1 rfl ag238 (ld_blk (m.blk 6 rfl) rfl)) <| htyU (y_nilp rfl) <| htyU (y_fld rfl fa259_1 (by decide)) <| hty (fun m => y_ld1 rfl ag257 (ld_blk (m.blk 0 rfl) rfl)) <| hty (fun m => y_ld1 rfl ag238 (ld_blk (m.blk 6 rfl) rfl)) <| htyU (y_nilp rfl) <| htyU (y_fld rfl fa259_0 (by decide)) <| hty (fun m => y_ld1 rfl ag32 (ld_blk (m.blk 0 rfl) rfl)) <| hty (fun m => y_ld1 rfl ag3 (ld_blk (m.blk 5 rfl) rfl)) <| hty (fun m => y_ld1 rfl ag3 (ld_blk (m.blk 5 rfl) rfl)) <| htyU (y_add rfl rfl (w64 (by omega) (by omega))) <| htyU (yV (y_slBoth rfl rfl rfl Tryd.underlying32 sz5 rfl (show ((i + 4 : Nat) : Int) = _ by omega) (by omega) (by omega)) ((show Value.slice (if c = i then some a else (some a).map (·.add (i * 1))) (i + 4 - i) (c - i) = .slice (some (a.add i)) 4 (c - i) by rw [if_neg (by omega), Nat.mul_one, Nat.add_sub_cancel_left]; rfl))) <| htyU (y_arrAt rfl Tryd.underlying265 (by omega)) <| hty (fun m => yV (y_ldN rfl ag265 sz265 (by rw [b8s_length]; exact key4_length (by omega)) (Rd.part (m.rd 0 rfl))) ((show Value.agg (b8s ((l.drop i).take 4)).toArray = KN ⟨key4 l i, key4_length (by omega)⟩ from rfl))) <| hty (fun m => yV (y_lookM (enc := (KN (n := 4))) (k := ⟨key4 l i, key4_length (by omega)⟩) rfl rfl Tryd.underlying257 ti263 (bnKey Tryd.underlying265 Tryd.underlying5 (by kernel_rfl) (by kernel_rfl) (by kernel_rfl)) (m.mapX 1 rfl)) ((show lookVal false (.slice none 0 0) (aget (fvals es1) ⟨key4 l i, key4_length (by omega)⟩) = .slice none 0 0 by rw [fvals_get, hq]; rfl))) <| ?_
      refine htx (xh_call rfl Tryd.call175 (backC) [] rfl [] rfl ?_)
      rintro _ _ _ ⟨gB, rfl, rfl, rfl⟩
      refine ⟨(fun _ => wk [1, 1, 1, 1, 1, 1, 1] [0] rfl rfl), ?_⟩
      refine htend <| hsub (ρ' := [(37, _), (7, _), (6, _), (18, _), (5, _), (4, _), (3, _), (2, _), (0, _), (1, _)]) ⟨rfl, rfl, rfl, rfl, rfl, rfl, rfl, rfl, rfl, rfl, trivial⟩ <| hmemQ (X' := [_, _, _, _, _, _, _, _]) (S' := [_]) (fun _ m => m) <| hthen <| ?_
      have hlt : ∀ z ∈ ([] : List Nat), z < i := fun z hz => by cases hz
      refine hrange (σ := Nat × Nat) (α := {x : Nat × Nat // x.2 < i}) (ρ' := []) (fun s_ : Nat × Nat => [RBlk g6 3 [.int .i64 (s_.1 : Nat)], RBlk g7 3 [.int .i64 (s_.2 : Nat)], RBlk g3 3 [.int .i64 (i : Nat)], RBlk g2 238 [.pointer (some ⟨g, 0, none⟩)], RBlk g 259 [.slice (some a) n c, .map (some gm), .int .i64 (i : Nat)]]) (0, 0) (fun s_ x_ => pstep l i s_ x_.1.2) (fun s_ x_ => 1024 < i - x_.1.2) (fun x_ => [.int .i64 (x_.1.1 : Nat), .int .i64 (x_.1.2 : Nat)]) (backPos (([] : List Nat)) i hlt) (fun x_ => [(9, .int .i64 (x_.1.2 : Nat))]) [(37, _), (7, _), (6, _), (18, _), (5, _), (4, _), (3, _), (2, _), (0, _), (1, _)] ⟨rfl, rfl, rfl, rfl, rfl, rfl, rfl, rfl, rfl, rfl, trivial⟩ rfl Tryd.call189 [5, 4, 4, 4, 1] rfl (fun s_ k_ => by simp [feet, RBlk]) [0] rfl (fun w m => back_stops Fence.wide 2 trivial rfl (by decide) (zs := nints (([] : List Nat))) (e := 3) (backPos (([] : List Nat)) i hlt) (fun x_ => [.int .i64 (x_.1.1 : Nat), .int .i64 (x_.1.2 : Nat)]) (by rw [backPos_length, nints_length]) (enc_ok _ _ _) (by rw [nints_length]; first | omega | simp) (ld_blk (m.blk 0 rfl) rfl) (m.off (is := [5, 4, 4, 4, 1]) rfl 0 rfl rfl) (Go.Eng.Own.nil _ _ _ _) (fun k hk => hk.elim)) (fun _ => rfl) (by decide) (fun _ _ ha_ => ag_nd2 rfl (by decide) (by decide) ha_) (fun l_ b_ s_ x_ Q_ h_ => ?_) (fun l_ b s_ x_ => ?_) (fun Dk_ s_ hs_ => ?_)
      · exact hregR (hy (fun _ => y_assign rfl) ((hend (by refine hsub ?_ h_; exact ⟨rfl, rfl, rfl, rfl, rfl, rfl, rfl, rfl, rfl, rfl, rfl, trivial⟩))))
      · obtain ⟨u1, u2⟩ := s_
        obtain ⟨⟨j, q⟩, hq2⟩ := x_
        try dsimp only
        have hq2 : q < i := hq2
        refine hblockR <| hseqR <| hseqR <| hregR <| hy (fun m => y_ld1 rfl ag3 (ld_blk (m.blk 2 rfl) rfl)) <| hy (fun _ => y_move rfl) <| hy (fun _ => y_sub rfl rfl (w64 (by omega) (by omega))) <| hy (fun _ => y_gtr rfl rfl) <| hend <| hsub (ρ' := [(43, _), (9, _), (37, _), (7, _), (6, _), (18, _), (5, _), (4, _), (3, _), (2, _), (0, _), (1, _)]) ⟨rfl, rfl, rfl, rfl, rfl, rfl, rfl, rfl, rfl, rfl, rfl, rfl, trivial⟩ <| hthenR <| ?_
        refine hifR rfl (fun hb => ?_) (fun hb => ?_)
        · refine hexitR <| hthen_exit <| hqblock_exit' (by decide) <| ?_
          exact hrq_break [0, 0, 0, 0, 0] rfl [0] rfl ((show 1024 < i - q by omega))
        · refine hcskipR <| hthenR <| hseqR <| hdrwR [6] [(0, some 0), (1, some 0), (2, some 0), (3, some 0), (4, some 0), (5, some 0), (6, none), (7, some 1)] (by kernel_rfl) (by kernel_rfl) rfl 99 <| hty (fun m => y_ld1 rfl ag238 (ld_blk (m.blk 3 rfl) rfl)) <| htyU (y_nilp rfl) <| htyU (y_fld rfl fa259_0 (by decide)) <| hty (fun m => y_ld1 rfl ag32 (ld_blk (m.blk 4 rfl) rfl)) <| hty (fun m => y_ld1 rfl ag3 (ld_blk (m.blk 2 rfl) rfl)) <| htyU (y_move rfl) <| ?_
          refine htx (xh_call rfl Tryd.call176 (longC (by omega) hl (by omega) (by omega)) [] rfl [0] rfl ?_)
          rintro _ _ _ ⟨rfl, rfl, rfl⟩
          refine ⟨(fun _ => wk [0, 0, 0, 0, 0] [0] rfl rfl), ?_⟩
          refine htyU (y_assign rfl) <| htend <| hsub (ρ' := [(10, _), (43, _), (9, _), (37, _), (7, _), (6, _), (18, _), (5, _), (4, _), (3, _), (2, _), (0, _), (1, _)]) ⟨rfl, rfl, rfl, rfl, rfl, rfl, rfl, rfl, rfl, rfl, rfl, rfl, rfl, trivial⟩ <| hmemQ (X' := [_, _, _, _, _]) (S' := [_]) (fun _ m => m) <| hthenR <| hseqR <| hregR <| hy (fun _ => y_move rfl) <| hy (fun m => y_ld1 rfl ag3 (ld_blk (m.blk 0 rfl) rfl)) <| hy (fun _ => y_gtr rfl rfl) <| hend <| hsub (ρ' := [(53, _), (10, _), (43, _), (9, _), (37, _), (7, _), (6, _), (18, _), (5, _), (4, _), (3, _), (2, _), (0, _), (1, _)]) ⟨rfl, rfl, rfl, rfl, rfl, rfl, rfl, rfl, rfl, rfl, rfl, rfl, rfl, rfl, trivial⟩ <| hthenR <| ?_
          refine hifR rfl (fun hx1 => ?_) (fun hx1 => ?_)
          · refine hdrwBR [2, 2, 2] [0] rfl rfl [4, 5] [(0, some 0), (1, some 1), (2, some 1), (3, some 1), (4, none), (5, none)] (by kernel_rfl) (by kernel_rfl) rfl 99 <| htyU (y_move rfl) <| hty (fun m => y_ld1 rfl ag3 (ld_blk (m.blk 0 rfl) rfl)) <| htyU (y_move rfl) <| htyU (yV (y_sub rfl rfl (w64 (by omega) (by omega))) ((show Value.int .i64 ((i : Int) - (q : Int)) = .int .i64 ((i - q : Nat) : Int) by congr 1; omega))) <| ?_
            refine htx0 (xh_st1 0 rfl rfl rfl sz3 rfl (by first | exact Nat.le_of_ble_eq_true rfl | simp) ⟨(fun _ => wk [2, 2, 2] [0] rfl rfl), ?_⟩)
            refine htx0 (xh_st1 1 rfl rfl rfl sz3 rfl (by first | exact Nat.le_of_ble_eq_true rfl | simp) ⟨(fun _ => wk [2, 2, 2] [0] rfl rfl), ?_⟩)
            refine htend <| hsub (ρ' := [(53, _), (10, _), (43, _), (9, _), (37, _), (7, _), (6, _), (18, _), (5, _), (4, _), (3, _), (2, _), (0, _), (1, _)]) ⟨rfl, rfl, rfl, rfl, rfl, rfl, rfl, rfl, rfl, rfl, rfl, rfl, rfl, rfl, trivial⟩ <| hmemQ (X' := [_, _, _, _, _]) (S' := [_]) (fun _ m => m) <| hqblock <| ?_
            exact hrq_nextE (lng l i q, i - q) (by show pstep l i (u1, u2) q = _; unfold pstep; rw [if_neg (by omega), if_pos (by show u1 < _; omega)]) [1, 0, 0, 0, 0] rfl [0] rfl
          · refine hcskipR <| hqblock <| ?_
            exact hrq_nextE (u1, u2) (by show pstep l i (u1, u2) q = _; unfold pstep; rw [if_neg (by omega), if_neg (by show ¬ u1 < _; omega)]) [0, 0, 0, 0, 0] rfl [0] rfl
      · obtain ⟨u1, u2⟩ := s_
        have hend := match_ends e0.symm (by omega) hlt hs_
        have hu1 : u1 = (matchL l i).1 := congrArg Prod.fst hend
        have hu2 : u2 = (matchL l i).2 := congrArg Prod.snd hend
        refine hthen <| hseq <| hdrw [] [(0, some 0), (1, some 0), (2, some 0), (3, some 0)] (by kernel_rfl) (by kernel_rfl) rfl 99 <| hty (fun m => y_ld1 rfl ag3 (ld_blk (m.blk 1 rfl) rfl)) <| hty (fun m => y_ld1 rfl ag3 (ld_blk (m.blk 2 rfl) rfl)) <| htyU (y_assign rfl) <| htyU (y_assign rfl) <| htend <| hsub (ρ' := [(5, _), (4, _), (37, _), (7, _), (6, _), (18, _), (3, _), (2, _), (0, _), (1, _)]) ⟨rfl, rfl, rfl, rfl, rfl, rfl, rfl, rfl, rfl, rfl, trivial⟩ <| hthen <| hret <| ?_
        refine hcol trivial [0] rfl ?_
        skip
        refine hmemQ (X' := RFnd g gm (some a) n c i es1 :: _) (fun w m => (m.perm (takeR_perm [4, 5, 5] _ [_, _, _] _ rfl)).pack) ?_
        exact hretM2 trivial rfl rfl rfl [0] rfl [] rfl ⟨i, es1, (by rw [← hu1, ← hu2]), rfl, rfl, ⟨Nat.le_refl _, hF1⟩⟩
    · have e0 := kept_pos hF1 hq
      refine hdrw [15] [(0, some 1), (1, some 0), (2, some 0), (3, some 0), (4, some 1), (5, some 1), (6, some 1), (7, some 1), (8, some 1), (9, some 1), (10, some 1), (11, some 0), (12, some 0), (13, some 0), (14, some 0), (15, none)] (by kernel_rfl) (by kernel_rfl) rfl 99 <| hty (fun m => y_ld1 rfl ag238 (ld_blk (m.blk 6 rfl) rfl)) <| htyU (y_nilp rfl) <| htyU (y_fld rfl fa259_1 (by decide)) <| hty (fun m => y_ld1 rfl ag257 (ld_blk (m.blk 0 rfl) rfl)) <| hty (fun m => y_ld1 rfl ag238 (ld_blk (m.blk 6 rfl) rfl)) <| htyU (y_nilp rfl) <| htyU (y_fld rfl fa259_0 (by decide)) <| hty (fun m => y_ld1 rfl ag32 (ld_blk (m.blk 0 rfl) rfl)) <| hty (fun m => y_ld1 rfl ag3 (ld_blk (m.blk 5 rfl) rfl)) <| hty (fun m => y_ld1 rfl ag3 (ld_blk (m.blk 5 rfl) rfl)) <| htyU (y_add rfl rfl (w64 (by omega) (by omega))) <| htyU (yV (y_slBoth rfl rfl rfl Tryd.underlying32 sz5 rfl (show ((i + 4 : Nat) : Int) = _ by omega) (by omega) (by omega)) ((show Value.slice (if c = i then some a else (some a).map (·.add (i * 1))) (i + 4 - i) (c - i) = .slice (some (a.add i)) 4 (c - i) by rw [if_neg (by omega), Nat.mul_one, Nat.add_sub_cancel_left]; rfl))) <| htyU (y_arrAt rfl Tryd.underlying265 (by omega)) <| hty (fun m => yV (y_ldN rfl ag265 sz265 (by rw [b8s_length]; exact key4_length (by omega)) (Rd.part (m.rd 0 rfl))) ((show Value.agg (b8s ((l.drop i).take 4)).toArray = KN ⟨key4 l i, key4_length (by omega)⟩ from rfl))) <| hty (fun m => yV (y_lookM (enc := (KN (n := 4))) (k := ⟨key4 l i, key4_length (by omega)⟩) rfl rfl Tryd.underlying257 ti263 (bnKey Tryd.underlying265 Tryd.underlying5 (by kernel_rfl) (by kernel_rfl) (by kernel_rfl)) (m.mapX 1 rfl)) ((show lookVal false (.slice none 0 0) (aget (fvals es1) ⟨key4 l i, key4_length (by omega)⟩) = .slice x.A x.l.length x.c by rw [fvals_get, hq]; rfl))) <| ?_
      refine htx (xh_call rfl Tryd.call175 (backC) [] rfl [] rfl ?_)
      rintro _ _ _ ⟨gB, rfl, rfl, rfl⟩
      refine ⟨(fun _ => wk [1, 1, 1, 1, 1, 1, 1] [0] rfl rfl), ?_⟩
      refine htend <| hsub (ρ' := [(37, _), (7, _), (6, _), (18, _), (5, _), (4, _), (3, _), (2, _), (0, _), (1, _)]) ⟨rfl, rfl, rfl, rfl, rfl, rfl, rfl, rfl, rfl, rfl, trivial⟩ <| hmemQ (X' := [_, _, _, _, _, _, _, _]) (S' := [_]) (fun _ m => m) <| hthen <| ?_
      have hlt : ∀ z ∈ x.l, z < i := fun z hz => (posL_lt (e0 ▸ hz)).1
      have hxl : x.l.length ≤ n := by rw [e0]; exact Nat.le_trans (posL_length _ _ _) (by omega)
      obtain ⟨j, hj1, _⟩ := put_present hq
      refine hmemC (X' := ROwn 3 1 (.slice x.A x.l.length x.c) x.l.length (nts x.l) :: _) (fun w m => (m.perm (takeR_perm [3] _ [_] _ rfl)).packTake j hj1) ?_
      refine hrange (σ := Nat × Nat) (α := {x : Nat × Nat // x.2 < i}) (ρ' := []) (fun s_ : Nat × Nat => [RBlk g6 3 [.int .i64 (s_.1 : Nat)], RBlk g7 3 [.int .i64 (s_.2 : Nat)], RBlk g3 3 [.int .i64 (i : Nat)], RBlk g2 238 [.pointer (some ⟨g, 0, none⟩)], RBlk g 259 [.slice (some a) n c, .map (some gm), .int .i64 (i : Nat)]]) (0, 0) (fun s_ x_ => pstep l i s_ x_.1.2) (fun s_ x_ => 1024 < i - x_.1.2) (fun x_ => [.int .i64 (x_.1.1 : Nat), .int .i64 (x_.1.2 : Nat)]) (backPos (x.l) i hlt) (fun x_ => [(9, .int .i64 (x_.1.2 : Nat))]) [(37, _), (7, _), (6, _), (18, _), (5, _), (4, _), (3, _), (2, _), (0, _), (1, _)] ⟨rfl, rfl, rfl, rfl, rfl, rfl, rfl, rfl, rfl, rfl, trivial⟩ rfl Tryd.call189 [6, 5, 5, 5, 3] rfl (fun s_ k_ => by simp [feet, RBlk]) [0] rfl (fun w m => back_stops Fence.wide 2 trivial rfl (by decide) (zs := nints (x.l)) (e := 3) (backPos (x.l) i hlt) (fun x_ => [.int .i64 (x_.1.1 : Nat), .int .i64 (x_.1.2 : Nat)]) (by rw [backPos_length, nints_length]) (enc_ok _ _ _) (by rw [nints_length]; first | omega | simp) (ld_blk (m.blk 2 rfl) rfl) (m.off (is := [6, 5, 5, 5, 3]) rfl 2 rfl rfl) (own_ints (m.own 0 rfl)) (fun k hk => m.off (is := [6, 5, 5, 5, 3]) rfl 0 rfl hk)) (fun _ => rfl) (by decide) (fun _ _ ha_ => ag_nd2 rfl (by decide) (by decide) ha_) (fun l_ b_ s_ x_ Q_ h_ => ?_) (fun l_ b s_ x_ => ?_) (fun Dk_ s_ hs_ => ?_)
      · exact hregR (hy (fun _ => y_assign rfl) ((hend (by refine hsub ?_ h_; exact ⟨rfl, rfl, rfl, rfl, rfl, rfl, rfl, rfl, rfl, rfl, rfl, trivial⟩))))
      · obtain ⟨u1, u2⟩ := s_
        obtain ⟨⟨j, q⟩, hq2⟩ := x_
        try dsimp only
        have hq2 : q < i := hq2
        refine hblockR <| hseqR <| hseqR <| hregR <| hy (fun m => y_ld1 rfl ag3 (ld_blk (m.blk 2 rfl) rfl)) <| hy (fun _ => y_move rfl) <| hy (fun _ => y_sub rfl rfl (w64 (by omega) (by omega))) <| hy (fun _ => y_gtr rfl rfl) <| hend <| hsub (ρ' := [(43, _), (9, _), (37, _), (7, _), (6, _), (18, _), (5, _), (4, _), (3, _), (2, _), (0, _), (1, _)]) ⟨rfl, rfl, rfl, rfl, rfl, rfl, rfl, rfl, rfl, rfl, rfl, rfl, trivial⟩ <| hthenR <| ?_
        refine hifR rfl (fun hb => ?_) (fun hb => ?_)
        · refine hexitR <| hthen_exit <| hqblock_exit' (by decide) <| ?_
          exact hrq_break [0, 0, 0, 0, 0] rfl [0] rfl ((show 1024 < i - q by omega))
        · refine hcskipR <| hthenR <| hseqR <| hdrwR [6] [(0, some 0), (1, some 0), (2, some 0), (3, some 0), (4, some 0), (5, some 0), (6, none), (7, some 1)] (by kernel_rfl) (by kernel_rfl) rfl 99 <| hty (fun m => y_ld1 rfl ag238 (ld_blk (m.blk 3 rfl) rfl)) <| htyU (y_nilp rfl) <| htyU (y_fld rfl fa259_0 (by decide)) <| hty (fun m => y_ld1 rfl ag32 (ld_blk (m.blk 4 rfl) rfl)) <| hty (fun m => y_ld1 rfl ag3 (ld_blk (m.blk 2 rfl) rfl)) <| htyU (y_move rfl) <| ?_
          refine htx (xh_call rfl Tryd.call176 (longC (by omega) hl (by omega) (by omega)) [] rfl [0] rfl ?_)
          rintro _ _ _ ⟨rfl, rfl, rfl⟩
          refine ⟨(fun _ => wk [0, 0, 0, 0, 0] [0] rfl rfl), ?_⟩
          refine htyU (y_assign rfl) <| htend <| hsub (ρ' := [(10, _), (43, _), (9, _), (37, _), (7, _), (6, _), (18, _), (5, _), (4, _), (3, _), (2, _), (0, _), (1, _)]) ⟨rfl, rfl, rfl, rfl, rfl, rfl, rfl, rfl, rfl, rfl, rfl, rfl, rfl, trivial⟩ <| hmemQ (X' := [_, _, _, _, _]) (S' := [_]) (fun _ m => m) <| hthenR <| hseqR <| hregR <| hy (fun _ => y_move rfl) <| hy (fun m => y_ld1 rfl ag3 (ld_blk (m.blk 0 rfl) rfl)) <| hy (fun _ => y_gtr rfl rfl) <| hend <| hsub (ρ' := [(53, _), (10, _), (43, _), (9, _), (37, _), (7, _), (6, _), (18, _), (5, _), (4, _), (3, _), (2, _), (0, _), (1, _)]) ⟨rfl, rfl, rfl, rfl, rfl, rfl, rfl, rfl, rfl, rfl, rfl, rfl, rfl, rfl, trivial⟩ <| hthenR <| ?_
          refine hifR rfl (fun hx1 => ?_) (fun hx1 => ?_)
          · refine hdrwBR [2, 2, 2] [0] rfl rfl [4, 5] [(0, some 0), (1, some 1), (2, some 1), (3, some 1), (4, none), (5, none)] (by kernel_rfl) (by kernel_rfl) rfl 99 <| htyU (y_move rfl) <| hty (fun m => y_ld1 rfl ag3 (ld_blk (m.blk 0 rfl) rfl)) <| htyU (y_move rfl) <| htyU (yV (y_sub rfl rfl (w64 (by omega) (by omega))) ((show Value.int .i64 ((i : Int) - (q : Int)) = .int .i64 ((i - q : Nat) : Int) by congr 1; omega))) <| ?_
            refine htx0 (xh_st1 0 rfl rfl rfl sz3 rfl (by first | exact Nat.le_of_ble_eq_true rfl | simp) ⟨(fun _ => wk [2, 2, 2] [0] rfl rfl), ?_⟩)
            refine htx0 (xh_st1 1 rfl rfl rfl sz3 rfl (by first | exact Nat.le_of_ble_eq_true rfl | simp) ⟨(fun _ => wk [2, 2, 2] [0] rfl rfl), ?_⟩)
            refine htend <| hsub (ρ' := [(53, _), (10, _), (43, _), (9, _), (37, _), (7, _), (6, _), (18, _), (5, _), (4, _), (3, _), (2, _), (0, _), (1, _)]) ⟨rfl, rfl, rfl, rfl, rfl, rfl, rfl, rfl, rfl, rfl, rfl, rfl, rfl, rfl, trivial⟩ <| hmemQ (X' := [_, _, _, _, _]) (S' := [_]) (fun _ m => m) <| hqblock <| ?_
            exact hrq_nextE (lng l i q, i - q) (by show pstep l i (u1, u2) q = _; unfold pstep; rw [if_neg (by omega), if_pos (by show u1 < _; omega)]) [1, 0, 0, 0, 0] rfl [0] rfl
          · refine hcskipR <| hqblock <| ?_
            exact hrq_nextE (u1, u2) (by show pstep l i (u1, u2) q = _; unfold pstep; rw [if_neg (by omega), if_neg (by show ¬ u1 < _; omega)]) [0, 0, 0, 0, 0] rfl [0] rfl
      · obtain ⟨u1, u2⟩ := s_
        have hend := match_ends e0 (by omega) hlt hs_
        have hu1 : u1 = (matchL l i).1 := congrArg Prod.fst hend
        have hu2 : u2 = (matchL l i).2 := congrArg Prod.snd hend
        refine hthen <| hseq <| hdrw [] [(0, some 0), (1, some 0), (2, some 0), (3, some 0)] (by kernel_rfl) (by kernel_rfl) rfl 99 <| hty (fun m => y_ld1 rfl ag3 (ld_blk (m.blk 1 rfl) rfl)) <| hty (fun m => y_ld1 rfl ag3 (ld_blk (m.blk 2 rfl) rfl)) <| htyU (y_assign rfl) <| htyU (y_assign rfl) <| htend <| hsub (ρ' := [(5, _), (4, _), (37, _), (7, _), (6, _), (18, _), (3, _), (2, _), (0, _), (1, _)]) ⟨rfl, rfl, rfl, rfl, rfl, rfl, rfl, rfl, rfl, rfl, trivial⟩ <| hthen <| hret <| ?_
        refine hcol trivial [0] rfl ?_
        refine hmemQ (X' := RPack (fress es1) :: _) (fun w m => (Mem.packPut (m.perm (takeR_perm [5, 5] _ [_, _] _ rfl))).packPerm (z_back hj1)) ?_
        refine hmemQ (X' := RFnd g gm (some a) n c i es1 :: _) (fun w m => (m.perm (takeR_perm [5, 6, 0] _ [_, _, _] _ rfl)).pack) ?_
        exact hretM2 trivial rfl rfl rfl [0] rfl [] rfl ⟨i, es1, (by rw [← hu1, ← hu2]), rfl, rfl, ⟨Nat.le_refl _, hF1⟩⟩
end Go.Proofs.YtfikjheicjamhaaDoor
end
