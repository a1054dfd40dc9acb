/- The law SlotsCrashes. -/
import Derived.Test.YtfikjheicjamhaaDoorG10
import Derived.Test.YtfikjheicjamhaaDoorG11
import Derived.Test.YtfikjheicjamhaaDoorG6
import Derived.Test.YtfikjheicjamhaaDoorG7
set_option linter.unusedVariables false
set_option linter.unusedSimpArgs false
set_option maxRecDepth 20000
set_option maxHeartbeats 4000000
namespace Go.Proofs.YtfikjheicjamhaaDoor
open Go.Eng Go.Hx
theorem dpowerC {g : Nat} {st : DSt} {d : RD} {kk : Nat} {n : Int} (hD : DS st d kk) (hn : n ≤ 1000000000000) : Con Tryd.prog 32 [.pointer (some ⟨g, 0, none⟩), .int .i64 n] [RDisk g st] [] (fun v_ X_ S_ => ∃ st1, v_ = (.tuple #[]) ∧ X_ = [RDisk g st1] ∧ S_ = [] ∧ (DS st1 (d.power n) kk)) := by
  exact Con.mono powerC (fun v X S h => by
    obtain ⟨h1, h2, h3⟩ := h
    exact ⟨_, h1, h2, h3, hD.power hn⟩)
theorem drestartC {g : Nat} {st : DSt} {d : RD} {kk : Nat} {A : Option Addr} {n c : Nat} {bs : List Bool} (hD : DS st d kk) (hkk : kk ≤ 99000) (hnr : ∀ c ∈ d.waits, c.1 ≠ 2) (hc : n ≤ c) : Con Tryd.prog 33 [.pointer (some ⟨g, 0, none⟩), .slice A n c] [RDisk g st] [RRd 1 A n (bools bs)] (fun v_ X_ S_ => ∃ st1, v_ = (.tuple #[]) ∧ X_ = [RDisk g st1] ∧ S_ = [] ∧ (DS st1 (d.restart bs) kk)) := by
  have hR : ∀ c ∈ st.waits, ∀ p, c ≠ .removed p := by
    rintro c hc p rfl
    have h1 : Chg.rc (.removed p) ∈ d.waits := by rw [← hD.waits]; exact List.mem_map.2 ⟨_, hc, rfl⟩
    exact hnr _ h1 rfl
  have hw : st.waits.length ≤ 1000000 := by have := hD.ok.rest; omega
  exact Con.mono (restartNC hc hR hD.ok.sm hw) (fun v X S h => by
    obtain ⟨gs, h1, h2, h3⟩ := h
    exact ⟨_, h1, h2, h3, hD.restart bs gs⟩)
def cjn (tw : Bool) (i : Nat) : Nat := if tw then i else i - 1
theorem slotsCrashesC {A : Option Addr} {n c : Nat} {la : List UInt8} {B : Option Addr} {m1 c1 : Nat} {lb : List UInt8} {z : Int} {K : Option Addr} {mk ck : Nat} {bs : List Bool} {tw : Bool} (hc : n ≤ c) (hn : n ≤ 140737488351232) (hc1 : m1 ≤ c1) (hm1 : m1 ≤ 140737488351232) (hz : -9223372036854775808 ≤ z ∧ z ≤ 9223372036854775807) (hck : mk ≤ ck) (hmk : mk ≤ 140737488351232) : Con Tryd.prog 7 [.slice A n c, .slice B m1 c1, .int .i64 z, .slice K mk ck, .bool tw] [] [RRd 1 A n (b8s la), RRd 1 B m1 (b8s lb), RRd 1 K mk (bools bs), RRoots] (fun v_ X_ S_ => v_ = (.bool true) ∧ X_ = [] ∧ S_ = []) := by
  have hs0 := begun_sst (room := 2000) (by decide)
  have hb0 : begun 2000 = ((RD.new 2000).saveSup Sup.zero).1 := rfl
  rw [← hb0] at hs0
  generalize hbe : begun 2000 = d0 at hb0 hs0
  obtain ⟨ar0, ar1⟩ := around_lt z 15 (by decide)
  refine henter (N := 211) Tryd.func7 rfl rfl (by simp) fun b => ?_
  refine hfactC (fun m => rdB (m.rd 0 rfl)) ?_
  rintro ⟨hl_ra, hA_ra⟩
  refine hfactC (fun m => rdB (m.rd 1 rfl)) ?_
  rintro ⟨hl_rb, hA_rb⟩
  refine hfactC (fun m => rdX (m.rd 2 rfl)) ?_
  rintro ⟨hl_rk, hA_rk⟩
  refine hseq <| hreg <| hy (fun _ => y_assign rfl) <| hend <| hthen <| hseq <| hreg <| ?_
  refine hx (xh_call rfl Tryd.call26 (beginC (by decide) (by decide)) [] rfl [] rfl ?_)
  rintro _ _ _ ⟨gw, gd, st, y, rfl, rfl, rfl, hg⟩
  refine hy (fun _ => y_assign rfl) <| hend <| hsub (ρ' := [(11, _), (10, _), (0, _), (1, _), (2, _), (3, _), (4, _)]) ⟨rfl, rfl, rfl, rfl, rfl, rfl, rfl, trivial⟩ <| hmemQ (X' := [_, _]) (S' := [_, _, _, _, _]) (fun _ m => m) <| hthen <| hseq <| hseq <| hreg <| hy (fun _ => y_move rfl) <| hy (fun _ => y_eqPn rfl rfl (by kernel_rfl)) <| hend <| hsub (ρ' := [(34, _), (11, _), (10, _), (0, _), (1, _), (2, _), (3, _), (4, _)]) ⟨rfl, rfl, rfl, rfl, rfl, rfl, rfl, rfl, trivial⟩ <| hthen <| ?_
  refine hiff rfl (rfl) ?_
  obtain ⟨hD0, hy0⟩ := hg
  rw [hbe] at hD0
  obtain ⟨X0, hX0⟩ : ∃ X0, X0 = la.take 40 := ⟨_, rfl⟩
  obtain ⟨Y0, hY0⟩ : ∃ Y0, Y0 = lb.take 40 := ⟨_, rfl⟩
  have hXl : X0.length = min n 40 := by rw [hX0, List.length_take, hl_ra, Nat.min_comm]
  have hYl : Y0.length = min m1 40 := by rw [hY0, List.length_take, hl_rb, Nat.min_comm]
  have hX40 : X0.length ≤ 40 := by omega
  have hY40 : Y0.length ≤ 40 := by omega
  refine hcskip <| hthen <| hseq <| hreg <| hy (fun _ => y_move rfl) <| ?_
  refine hx (xh_call rfl Tryd.call21 (fewC (by omega) (by omega) (m := 40)) [] rfl [1] rfl ?_)
  rintro _ _ _ ⟨v, rfl, rfl, rfl⟩
  refine hfactL (fun m => (m.own 0 rfl).slice) ?_
  rintro ⟨A_x, c_x, rfl, hc_x⟩
  refine hfactL (fun m => (m.ord 0 rfl).2.1) fun hA_x => ?_
  refine hy (fun _ => y_assign rfl) <| hend <| hsub (ρ' := [(12, _), (34, _), (11, _), (10, _), (0, _), (1, _), (2, _), (3, _), (4, _)]) ⟨rfl, rfl, rfl, rfl, rfl, rfl, rfl, rfl, rfl, trivial⟩ <| hmemQ (X' := [_, _, _]) (S' := [_, _, _, _, _]) (fun _ m => m) <| hthen <| hseq <| hreg <| hy (fun _ => y_move rfl) <| ?_
  refine hx (xh_call rfl Tryd.call21 (fewC (by omega) (by omega) (m := 40)) [] rfl [2] rfl ?_)
  rintro _ _ _ ⟨v2, rfl, rfl, rfl⟩
  refine hfactL (fun m => (m.own 0 rfl).slice) ?_
  rintro ⟨A_x2, c_x2, rfl, hc_x2⟩
  refine hfactL (fun m => (m.ord 0 rfl).2.1) fun hA_x2 => ?_
  refine hy (fun _ => y_assign rfl) <| hend <| hsub (ρ' := [(13, _), (12, _), (34, _), (11, _), (10, _), (0, _), (1, _), (2, _), (3, _), (4, _)]) ⟨rfl, rfl, rfl, rfl, rfl, rfl, rfl, rfl, rfl, rfl, trivial⟩ <| hmemQ (X' := [_, _, _, _]) (S' := [_, _, _, _, _]) (fun _ m => m) <| hthen <| hseq <| hseq <| hreg <| hy (fun _ => y_assign rfl) <| hend <| hthen <| hblock <| ?_
  refine hmemC (fun w m => m.eqX 1 rfl (show _ = ROwn 5 1 (.slice A_x (min n 40) c_x) (min n 40) (b8s X0) from by rw [hX0])) ?_
  refine hmemC (fun w m => m.eqX 1 rfl (show _ = ROwn 5 1 (.slice A_x2 (min m1 40) c_x2) (min m1 40) (b8s Y0) from by rw [hY0])) ?_
  refine hloop3 (fun i st dd => 2 - i) (fun i st dd => [(14, .int .i64 (i : Nat))]) (fun i st dd => [RDisk gd st]) (fun i st dd => []) (fun i st dd => i ≤ 2 ∧ CJ X0 dd (cjn tw i) ∧ DS st dd (2 + 5 * i)) 0 st d0 [(13, _), (12, _), (34, _), (11, _), (0, _), (1, _), (2, _), (3, _), (4, _)] ⟨rfl, rfl, rfl, rfl, rfl, rfl, rfl, rfl, rfl, trivial⟩ [3] rfl [] rfl (⟨by decide, (by cases tw <;> exact hs0), hD0⟩) ⟨rfl, trivial⟩ (fun i st dd ⟨hi2, hCJ, hDD⟩ => ?_)
  refine hseq <| hseq <| hreg <| hy (fun _ => y_move rfl) <| hy (fun _ => y_lss rfl rfl) <| hend <| hsub (ρ' := [(40, _), (14, _), (13, _), (12, _), (34, _), (11, _), (0, _), (1, _), (2, _), (3, _), (4, _)]) ⟨rfl, rfl, rfl, rfl, rfl, rfl, rfl, rfl, rfl, rfl, rfl, trivial⟩ <| hthen <| ?_
  refine hif rfl (fun hlt => ?_) (fun hlt => ?_)
  · refine hcskip <| hthen <| hseq <| hblock <| hseq <| hseq <| hreg <| hy (fun _ => y_move rfl) <| hy (fun _ => y_eql rfl rfl) <| hy (fun _ => y_move rfl) <| ?_
    refine hsplit 45 rfl (fun hi0 => ?_) (fun hi0 => ?_)
    · refine hyg (o := _) rfl rfl rfl (fun _ => y_move rfl) <| hyg (o := _) rfl rfl rfl (fun _ => (y_not rfl)) <| hy (fun _ => y_pickT rfl rfl) <| hend <| hsub (ρ' := [(48, _), (40, _), (14, _), (13, _), (12, _), (34, _), (11, _), (0, _), (1, _), (2, _), (3, _), (4, _)]) ⟨rfl, rfl, rfl, rfl, rfl, rfl, rfl, rfl, rfl, rfl, rfl, rfl, trivial⟩ <| hthen <| ?_
      have hi00 : i = 0 := by omega
      refine hifb rfl (fun htw => ?_) (fun htw => ?_)
      · have htw' : tw = false := by simpa using htw
        refine hexit <| hthen_exit <| hqblock_exit <| hthen <| hreg <| hy (fun _ => y_move rfl) <| hy (fun _ => y_add rfl rfl (w64 (by omega) (by omega))) <| hy (fun _ => y_assign rfl) <| hend <| hsub (ρ' := [(14, _), (48, _), (40, _), (13, _), (12, _), (34, _), (11, _), (0, _), (1, _), (2, _), (3, _), (4, _)]) ⟨rfl, rfl, rfl, rfl, rfl, rfl, rfl, rfl, rfl, rfl, rfl, rfl, trivial⟩ <| ?_
        refine hnext3 (i + 1) st dd ⟨rfl, rfl, rfl, rfl, rfl, rfl, rfl, rfl, rfl, rfl, trivial⟩ [0, 0, 0, 0] rfl [0, 1, 2, 3, 4] rfl (⟨by omega, (by rw [htw', hi00] at hCJ ⊢; exact hCJ), hDD.le (by omega)⟩) (by omega)
      · have htw' : tw = true := by simpa using htw
        obtain ⟨d1, d2, i1, k1, e1, e2, hC2⟩ := cj_step hX40 (show cjn tw i < 2 by rw [htw', hi00]; decide) hCJ
        refine hcskip <| hthen <| hseq <| hreg <| hy (fun _ => y_move rfl) <| hy (fun _ => y_nilp rfl) <| hy (fun _ => y_fld rfl fa64_0 (by decide)) <| hy (fun m => y_ld1 rfl ag58 (ld_blk (m.blk 3 rfl) (i := 0) rfl)) <| hy (fun _ => y_move rfl) <| ?_
        refine hx (xh_calll rfl Tryd.call27 (stageSC hXl hDD (by omega) (bb := X0)) [0] rfl (.x 1 rfl .own .nil) ?_)
        rintro _ _ _ ⟨st1, rfl, rfl, rfl, hE1⟩
        refine ⟨rfl, ?_⟩
        refine hy (fun _ => y_move rfl) <| hy (fun _ => y_extract rfl rfl) <| hy (fun _ => y_extract rfl rfl) <| hy (fun _ => y_assign rfl) <| hy (fun _ => y_assign rfl) <| hend <| hsub (ρ' := [(16, _), (48, _), (40, _), (14, _), (13, _), (12, _), (34, _), (11, _), (0, _), (1, _), (2, _), (3, _), (4, _)]) ⟨rfl, rfl, rfl, rfl, rfl, rfl, rfl, rfl, rfl, rfl, rfl, rfl, rfl, trivial⟩ <| hmemQ (X' := [_, _, _, _]) (S' := [_, _, _, _, _]) (fun _ m => m) <| hthen <| hseq <| hdrw [5, 6] [(0, some 1), (1, some 1), (2, some 1), (3, some 1), (4, some 0), (5, none), (6, none), (7, some 2), (8, some 2), (9, some 2), (10, some 2), (11, some 2)] (by kernel_rfl) (by kernel_rfl) rfl 1 <| ?_
        rw [e1] at hE1 ⊢
        refine htyU (y_move rfl) <| htyU (y_nilp rfl) <| htyU (y_fld rfl fa64_0 (by decide)) <| hty (fun m => y_ld1 rfl ag58 (ld_blk (m.blk 3 rfl) (i := 0) rfl)) <| htyU (y_move rfl) <| ?_
        refine htx (xh_calll rfl Tryd.call29 (rshaSumC (by omega)) [] rfl (.x 2 rfl .own .nil) ?_)
        rintro _ _ _ ⟨rfl, rfl, rfl⟩
        refine ⟨rfl, ?_⟩
        refine ⟨(fun _ => wk [0, 0, 0, 0] [0, 1, 2, 3, 4] rfl rfl), ?_⟩
        refine htx (xh_call rfl Tryd.call28 (flipSC (shaL_length _) hE1 (by omega)) [0] rfl [4] rfl ?_)
        rintro _ _ _ ⟨st12, rfl, rfl, rfl, hE2⟩
        refine ⟨(fun h => absurd h (by decide)), ?_⟩
        refine htyU (y_move rfl) <| htyU (y_extract rfl rfl) <| htyU (y_extract rfl rfl) <| htyU (y_assign rfl) <| htyU (y_assign rfl) <| htend <| hsub (ρ' := [(18, _), (16, _), (48, _), (40, _), (14, _), (13, _), (12, _), (34, _), (11, _), (0, _), (1, _), (2, _), (3, _), (4, _)]) ⟨rfl, rfl, rfl, rfl, rfl, rfl, rfl, rfl, rfl, rfl, rfl, rfl, rfl, rfl, trivial⟩ <| hmemQ (X' := [_, _, _, _]) (S' := [_, _, _, _, _]) (fun _ m => m) <| hthen <| hseq <| hreg <| ?_
        rw [e2] at hE2 ⊢
        refine hy (fun _ => y_move rfl) <| hy (fun _ => y_neq rfl rfl) <| hy (fun _ => y_move rfl) <| hyg (o := _) rfl rfl rfl (fun _ => y_move rfl) <| hyg (o := _) rfl rfl rfl (fun _ => y_neq rfl rfl) <| hy (fun _ => y_pickF rfl rfl) <| hend <| hsub (ρ' := [(73, _), (18, _), (16, _), (48, _), (40, _), (14, _), (13, _), (12, _), (34, _), (11, _), (0, _), (1, _), (2, _), (3, _), (4, _)]) ⟨rfl, rfl, rfl, rfl, rfl, rfl, rfl, rfl, rfl, rfl, rfl, rfl, rfl, rfl, rfl, trivial⟩ <| hthen <| ?_
        refine hiff rfl (rfl) ?_
        refine hcskip <| hqblock <| hthen <| hreg <| hy (fun _ => y_move rfl) <| hy (fun _ => y_add rfl rfl (w64 (by omega) (by omega))) <| hy (fun _ => y_assign rfl) <| hend <| hsub (ρ' := [(14, _), (73, _), (18, _), (16, _), (48, _), (40, _), (13, _), (12, _), (34, _), (11, _), (0, _), (1, _), (2, _), (3, _), (4, _)]) ⟨rfl, rfl, rfl, rfl, rfl, rfl, rfl, rfl, rfl, rfl, rfl, rfl, rfl, rfl, rfl, trivial⟩ <| ?_
        refine hnext3 (i + 1) st12 d2 ⟨rfl, rfl, rfl, rfl, rfl, rfl, rfl, rfl, rfl, rfl, trivial⟩ [0, 0, 0, 0] rfl [0, 1, 2, 3, 4] rfl (⟨by omega, (by rw [(show cjn tw (i + 1) = cjn tw i + 1 by rw [htw', hi00]; rfl)]; exact hC2), hE2.le (by omega)⟩) (by omega)
    · have hi01 : i = 1 := by omega
      refine hskip rfl rfl rfl (by decide) <| hskip rfl rfl rfl (by decide) <| hy (fun _ => y_pickF rfl rfl) <| hend <| hsub (ρ' := [(48, _), (40, _), (14, _), (13, _), (12, _), (34, _), (11, _), (0, _), (1, _), (2, _), (3, _), (4, _)]) ⟨rfl, rfl, rfl, rfl, rfl, rfl, rfl, rfl, rfl, rfl, rfl, rfl, trivial⟩ <| hthen <| ?_
      refine hiff rfl (rfl) ?_
      obtain ⟨d1, d2, i1, k1, e1, e2, hC2⟩ := cj_step hX40 (show cjn tw i < 2 by rw [hi01]; cases tw <;> decide) hCJ
      refine hcskip <| hthen <| hseq <| hreg <| hy (fun _ => y_move rfl) <| hy (fun _ => y_nilp rfl) <| hy (fun _ => y_fld rfl fa64_0 (by decide)) <| hy (fun m => y_ld1 rfl ag58 (ld_blk (m.blk 3 rfl) (i := 0) rfl)) <| hy (fun _ => y_move rfl) <| ?_
      refine hx (xh_calll rfl Tryd.call27 (stageSC hXl hDD (by omega) (bb := X0)) [0] rfl (.x 1 rfl .own .nil) ?_)
      rintro _ _ _ ⟨st1, rfl, rfl, rfl, hE1⟩
      refine ⟨rfl, ?_⟩
      refine hy (fun _ => y_move rfl) <| hy (fun _ => y_extract rfl rfl) <| hy (fun _ => y_extract rfl rfl) <| hy (fun _ => y_assign rfl) <| hy (fun _ => y_assign rfl) <| hend <| hsub (ρ' := [(16, _), (48, _), (40, _), (14, _), (13, _), (12, _), (34, _), (11, _), (0, _), (1, _), (2, _), (3, _), (4, _)]) ⟨rfl, rfl, rfl, rfl, rfl, rfl, rfl, rfl, rfl, rfl, rfl, rfl, rfl, trivial⟩ <| hmemQ (X' := [_, _, _, _]) (S' := [_, _, _, _, _]) (fun _ m => m) <| hthen <| hseq <| hdrwB [1, 1, 1] [0, 1, 2, 3, 4] rfl rfl [5, 6] [(0, some 1), (1, some 1), (2, some 1), (3, some 1), (4, some 0), (5, none), (6, none), (7, some 2), (8, some 2), (9, some 2), (10, some 2), (11, some 2)] (by kernel_rfl) (by kernel_rfl) rfl 99 <| ?_
      rw [e1] at hE1 ⊢
      refine htyU (y_move rfl) <| htyU (y_nilp rfl) <| htyU (y_fld rfl fa64_0 (by decide)) <| hty (fun m => y_ld1 rfl ag58 (ld_blk (m.blk 2 rfl) (i := 0) rfl)) <| htyU (y_move rfl) <| ?_
      refine htx (xh_calll rfl Tryd.call29 (rshaSumC (by omega)) [] rfl (.x 2 rfl .own .nil) ?_)
      rintro _ _ _ ⟨rfl, rfl, rfl⟩
      refine ⟨rfl, ?_⟩
      refine ⟨(fun _ => wk [1, 1, 1] [0, 1, 2, 3, 4] rfl rfl), ?_⟩
      refine htx (xh_call rfl Tryd.call28 (flipSC (shaL_length _) hE1 (by omega)) [0] rfl [4] rfl ?_)
      rintro _ _ _ ⟨st12, rfl, rfl, rfl, hE2⟩
      refine ⟨(fun _ => wk [1, 1, 1] [0, 1, 2, 3, 4] rfl rfl), ?_⟩
      refine htyU (y_move rfl) <| htyU (y_extract rfl rfl) <| htyU (y_extract rfl rfl) <| htyU (y_assign rfl) <| htyU (y_assign rfl) <| htend <| hsub (ρ' := [(18, _), (16, _), (48, _), (40, _), (14, _), (13, _), (12, _), (34, _), (11, _), (0, _), (1, _), (2, _), (3, _), (4, _)]) ⟨rfl, rfl, rfl, rfl, rfl, rfl, rfl, rfl, rfl, rfl, rfl, rfl, rfl, rfl, trivial⟩ <| hmemQ (X' := [_, _, _, _]) (S' := [_, _, _, _, _]) (fun _ m => m) <| hthen <| hseq <| hreg <| ?_
      rw [e2] at hE2 ⊢
      refine hy (fun _ => y_move rfl) <| hy (fun _ => y_neq rfl rfl) <| hy (fun _ => y_move rfl) <| hyg (o := _) rfl rfl rfl (fun _ => y_move rfl) <| hyg (o := _) rfl rfl rfl (fun _ => y_neq rfl rfl) <| hy (fun _ => y_pickF rfl rfl) <| hend <| hsub (ρ' := [(73, _), (18, _), (16, _), (48, _), (40, _), (14, _), (13, _), (12, _), (34, _), (11, _), (0, _), (1, _), (2, _), (3, _), (4, _)]) ⟨rfl, rfl, rfl, rfl, rfl, rfl, rfl, rfl, rfl, rfl, rfl, rfl, rfl, rfl, rfl, trivial⟩ <| hthen <| ?_
      refine hiff rfl (rfl) ?_
      refine hcskip <| hqblock <| hthen <| hreg <| hy (fun _ => y_move rfl) <| hy (fun _ => y_add rfl rfl (w64 (by omega) (by omega))) <| hy (fun _ => y_assign rfl) <| hend <| hsub (ρ' := [(14, _), (73, _), (18, _), (16, _), (48, _), (40, _), (13, _), (12, _), (34, _), (11, _), (0, _), (1, _), (2, _), (3, _), (4, _)]) ⟨rfl, rfl, rfl, rfl, rfl, rfl, rfl, rfl, rfl, rfl, rfl, rfl, rfl, rfl, rfl, trivial⟩ <| ?_
      refine hnext3 (i + 1) st12 d2 ⟨rfl, rfl, rfl, rfl, rfl, rfl, rfl, rfl, rfl, rfl, trivial⟩ [0, 0, 0, 0] rfl [0, 1, 2, 3, 4] rfl (⟨by omega, (by rw [(show cjn tw (i + 1) = cjn tw i + 1 by rw [hi01]; cases tw <;> rfl)]; exact hC2), hE2.le (by omega)⟩) (by omega)
  · obtain rfl : i = 2 := by omega
    have hCJ2 : CJ X0 dd (if tw then 2 else 1) := by cases tw <;> exact hCJ
    have hcr := cj_crash hX40 hY40 hCJ2
    clear hCJ
    obtain ⟨N0, hN0⟩ : ∃ N0 : Nat, around z 15 = (N0 : Int) := ⟨(around z 15).toNat, by omega⟩
    refine hexit <| hthen_exit <| hthen_exit <| hqblock_exit <| hthen <| hseq <| hreg <| hy (fun _ => y_move rfl) <| ?_
    refine hx (xh_call rfl Tryd.call14 (aroundC hz.1 hz.2 (by decide) (n := z) (m := 15)) [] rfl [] rfl ?_)
    rintro _ _ _ ⟨rfl, rfl, rfl⟩
    refine hy (fun _ => y_assign rfl) <| hend <| hsub (ρ' := [(19, _), (40, _), (14, _), (13, _), (12, _), (34, _), (11, _), (0, _), (1, _), (2, _), (3, _), (4, _)]) ⟨rfl, rfl, rfl, rfl, rfl, rfl, rfl, rfl, rfl, rfl, rfl, rfl, trivial⟩ <| hmemQ (X' := [_, _, _, _]) (S' := [_, _, _, _, _]) (fun _ m => m) <| hthen <| hseq <| hreg <| ?_
    rw [hN0]
    refine hy (fun _ => y_move rfl) <| hy (fun _ => y_nilp rfl) <| hy (fun _ => y_fld rfl fa64_0 (by decide)) <| hy (fun m => y_ld1 rfl ag58 (ld_blk (m.blk 3 rfl) (i := 0) rfl)) <| hy (fun _ => y_move rfl) <| ?_
    refine hx (xh_call rfl Tryd.call32 (dpowerC hDD (by omega)) [0] rfl [] rfl ?_)
    rintro _ _ _ ⟨st1, rfl, rfl, rfl, hP1⟩
    refine hend <| hsub (ρ' := [(19, _), (40, _), (14, _), (13, _), (12, _), (34, _), (11, _), (0, _), (1, _), (2, _), (3, _), (4, _)]) ⟨rfl, rfl, rfl, rfl, rfl, rfl, rfl, rfl, rfl, rfl, rfl, rfl, trivial⟩ <| hmemQ (X' := [_, _, _, _]) (S' := [_, _, _, _, _]) (fun _ m => m) <| hthen <| hseq <| hreg <| hy (fun _ => y_move rfl) <| hy (fun _ => y_nilp rfl) <| hy (fun _ => y_fld rfl fa64_0 (by decide)) <| ?_
    refine hy (fun m => y_ld1 rfl ag58 (ld_blk (m.blk 3 rfl) (i := 0) rfl)) <| hy (fun _ => y_move rfl) <| ?_
    refine hx (xh_calll rfl Tryd.call27 (stageSC hYl hP1 (by omega) (bb := Y0)) [0] rfl (.x 0 rfl .own .nil) ?_)
    rintro _ _ _ ⟨st12, rfl, rfl, rfl, hE3⟩
    refine ⟨rfl, ?_⟩
    refine hy (fun _ => y_move rfl) <| hy (fun _ => y_extract rfl rfl) <| hy (fun _ => y_extract rfl rfl) <| hy (fun _ => y_assign rfl) <| hy (fun _ => y_assign rfl) <| hend <| hsub (ρ' := [(21, _), (19, _), (40, _), (14, _), (13, _), (12, _), (34, _), (11, _), (0, _), (1, _), (2, _), (3, _), (4, _)]) ⟨rfl, rfl, rfl, rfl, rfl, rfl, rfl, rfl, rfl, rfl, rfl, rfl, rfl, trivial⟩ <| hmemQ (X' := [_, _, _, _]) (S' := [_, _, _, _, _]) (fun _ m => m) <| hthen <| hseq <| hreg <| hy (fun _ => y_move rfl) <| hy (fun _ => y_assign rfl) <| hend <| hsub (ρ' := [(22, _), (21, _), (19, _), (40, _), (14, _), (13, _), (12, _), (34, _), (11, _), (0, _), (1, _), (2, _), (3, _), (4, _)]) ⟨rfl, rfl, rfl, rfl, rfl, rfl, rfl, rfl, rfl, rfl, rfl, rfl, rfl, rfl, trivial⟩ <| hthen <| hseq <| hseq <| hreg <| hy (fun _ => y_move rfl) <| hy (fun _ => y_eql rfl rfl) <| hend <| hsub (ρ' := [(93, _), (22, _), (21, _), (19, _), (40, _), (14, _), (13, _), (12, _), (34, _), (11, _), (0, _), (1, _), (2, _), (3, _), (4, _)]) ⟨rfl, rfl, rfl, rfl, rfl, rfl, rfl, rfl, rfl, rfl, rfl, rfl, rfl, rfl, rfl, trivial⟩ <| hthen <| ?_
    have need1 : (if true = true then (10 : Nat) else 6) = 10 := rfl
    have need0 : (if false = true then (10 : Nat) else 6) = 6 := rfl
    have hbt : (bools bs).take (min mk 20 * 1) = bools (bs.take (min mk 20)) := by rw [Nat.mul_one]; simp [bools, List.map_take]
    rcases hcr N0 with ⟨d1, q1, q2, hF⟩ | ⟨d1, d2, i1, j1, e1, q1, q2, q3, hF⟩
    · rw [q1] at hE3 ⊢
      refine hiff rfl (rfl) ?_
      refine hcskip <| hthen <| hseq <| hreg <| hy (fun _ => y_assign rfl) <| hend <| hthen <| hseq <| hseq <| hreg <| hy (fun _ => y_move rfl) <| hend <| hthen <| ?_
      refine hifb rfl (fun htw => ?_) (fun htw => ?_)
      · rw [htw, need1] at q2
        refine hreg <| hy (fun _ => y_assign rfl) <| hend <| hthen <| hseq <| hseq <| hreg <| hy (fun _ => y_move rfl) <| hy (fun _ => yF (y_eql rfl rfl) (rfl)) <| hy (fun _ => y_move rfl) <| hy (fun _ => y_move rfl) <| hy (fun _ => yF (y_geq rfl rfl) ((decide_eq_false (by omega)))) <| hy (fun _ => yF (y_bne Tryd.underlying4 rfl rfl) (rfl)) <| hy (fun _ => y_move rfl) <| hyg (o := _) rfl rfl rfl (fun _ => y_move rfl) <| hyg (o := _) rfl rfl rfl (fun _ => yT (y_neq rfl rfl) (rfl)) <| hyg (o := _) rfl rfl rfl (fun _ => y_move rfl) <| hyg (o := _) rfl rfl rfl (fun _ => y_move rfl) <| hyg (o := _) rfl rfl rfl (fun _ => yF (y_neq rfl rfl) (rfl)) <| hyg (o := _) rfl rfl rfl (fun _ => y_pickT rfl rfl) <| hy (fun _ => y_pickF rfl rfl) <| hend <| hsub (ρ' := [(118, _), (23, _), (104, _), (93, _), (22, _), (21, _), (19, _), (40, _), (14, _), (13, _), (12, _), (34, _), (11, _), (0, _), (1, _), (2, _), (3, _), (4, _)]) ⟨rfl, rfl, rfl, rfl, rfl, rfl, rfl, rfl, rfl, rfl, rfl, rfl, rfl, rfl, rfl, rfl, rfl, rfl, trivial⟩ <| hthen <| ?_
        refine hiff rfl (rfl) ?_
        refine hmemC (fun w m => m.asV 3 rfl (View.takeV (k := min mk 20) (Nat.min_le_left _ _))) ?_
        refine hfactC (fun m => rdX (m.rd 0 rfl)) ?_
        rintro ⟨hl_rf, hA_rf⟩
        rw [hbt]
        obtain ⟨sq, gg, qq, hS, hW, hq, h00, hgen⟩ := hF.re (bs.take (min mk 20))
        refine hcskip <| hthen <| hseq <| hdrwB [1, 1, 1] [0, 1, 2, 3, 4, 5] rfl rfl [9] [(0, some 0), (1, some 0), (2, some 0), (3, some 0), (4, some 0), (5, some 0), (6, some 0), (7, some 0), (8, some 0), (9, none)] (by kernel_rfl) (by kernel_rfl) rfl 99 <| htyU (y_move rfl) <| htyU (y_nilp rfl) <| htyU (y_fld rfl fa64_0 (by decide)) <| hty (fun m => y_ld1 rfl ag58 (ld_blk (m.blk 2 rfl) (i := 0) rfl)) <| htyU (y_move rfl) <| htyU (y_move rfl) <| htyU (y_lenS rfl Tryd.underlying72) <| htyU (y_min rfl rfl) <| htyU (y_slTo rfl rfl Tryd.underlying72 sz4 (show ((min mk 20 : Nat) : Int) = _ by omega) (by omega)) <| ?_
        refine htx (xh_call rfl Tryd.call33 (drestartC hE3 (by omega) hF.nr (by omega)) [0] rfl [0] rfl ?_)
        rintro _ _ _ ⟨st13, rfl, rfl, rfl, hE5⟩
        refine ⟨(fun _ => wk [1, 1, 1] [0, 1, 2, 3, 4, 5] rfl rfl), ?_⟩
        refine htend <| hsub (ρ' := [(118, _), (23, _), (104, _), (93, _), (22, _), (21, _), (19, _), (40, _), (14, _), (13, _), (12, _), (34, _), (11, _), (0, _), (1, _), (2, _), (3, _), (4, _)]) ⟨rfl, rfl, rfl, rfl, rfl, rfl, rfl, rfl, rfl, rfl, rfl, rfl, rfl, rfl, rfl, rfl, rfl, rfl, trivial⟩ <| hmemQ (X' := [_, _, _, _]) (S' := [_, _, _, _, _, _]) (fun _ m => m) <| hthen <| hseq <| hreg <| hy (fun _ => y_move rfl) <| hy (fun _ => y_nilp rfl) <| hy (fun _ => y_fld rfl fa64_0 (by decide)) <| hy (fun m => y_ld1 rfl ag58 (ld_blk (m.blk 3 rfl) (i := 0) rfl)) <| ?_
        refine hx (xh_call rfl Tryd.call30 (activeSC hE5) [0] rfl [5] rfl ?_)
        rintro _ _ _ ⟨v3, rfl, rfl, rfl⟩
        refine hfactL (fun m => (m.own 1 rfl).slice) ?_
        rintro ⟨A_x3, c_x3, rfl, hc_x3⟩
        refine hfactL (fun m => (m.ord 1 rfl).2.1) fun hA_x3 => ?_
        refine hy (fun _ => y_move rfl) <| hy (fun _ => y_extract rfl rfl) <| hy (fun _ => y_extract rfl rfl) <| hy (fun _ => y_assign rfl) <| hy (fun _ => y_assign rfl) <| hend <| hsub (ρ' := [(25, _), (24, _), (118, _), (23, _), (104, _), (93, _), (22, _), (21, _), (19, _), (40, _), (14, _), (13, _), (12, _), (34, _), (11, _), (0, _), (1, _), (2, _), (3, _), (4, _)]) ⟨rfl, rfl, rfl, rfl, rfl, rfl, rfl, rfl, rfl, rfl, rfl, rfl, rfl, rfl, rfl, rfl, rfl, rfl, rfl, rfl, trivial⟩ <| hmemQ (X' := [_, _, _, _, _]) (S' := [_, _, _, _, _, _]) (fun _ m => m) <| hthen <| hseq <| hseq <| hreg <| ?_
        rw [hS.whole hW]
        refine hy (fun _ => y_move rfl) <| hy (fun _ => yF (y_neq rfl rfl) (rfl)) <| hy (fun _ => y_move rfl) <| hyg (o := _) rfl rfl rfl (fun _ => y_move rfl) <| hyg (o := _) rfl rfl rfl (fun m => y_b2s rfl Tryd.underlying32 Tryd.underlying5 Tryd.underlying9 (m.ord 1 rfl)) <| hyg (o := _) rfl rfl rfl (fun _ => y_move rfl) <| hyg (o := _) rfl rfl rfl (fun m => y_b2s rfl Tryd.underlying32 Tryd.underlying5 Tryd.underlying9 (m.ord 3 rfl)) <| ?_
        by_cases hqx : qq = X0
        · refine hyg (o := _) rfl rfl rfl (fun _ => yF (y_sne rfl rfl) ((decide_eq_false (fun h => h (congrArg strOf hqx))))) <| hyg (o := _) rfl rfl rfl (fun _ => y_move rfl) <| hskip rfl rfl rfl (by decide) <| hskip rfl rfl rfl (by decide) <| hskip rfl rfl rfl (by decide) <| hskip rfl rfl rfl (by decide) <| hskip rfl rfl rfl (by decide) <| hyg (o := _) rfl rfl rfl (fun _ => y_pickF rfl rfl) <| hy (fun _ => y_pickF rfl rfl) <| hy (fun _ => y_move rfl) <| hyg (o := _) rfl rfl rfl (fun _ => y_move rfl) <| hyg (o := _) rfl rfl rfl (fun _ => yF (y_eql rfl rfl) (rfl)) <| hyg (o := _) rfl rfl rfl (fun _ => y_move rfl) <| hskip rfl rfl rfl (by decide) <| hskip rfl rfl rfl (by decide) <| hskip rfl rfl rfl (by decide) <| hskip rfl rfl rfl (by decide) <| hskip rfl rfl rfl (by decide) <| hyg (o := _) rfl rfl rfl (fun _ => y_pickF rfl rfl) <| hy (fun _ => y_pickF rfl rfl) <| hend <| hsub (ρ' := [(163, _), (25, _), (24, _), (118, _), (23, _), (104, _), (93, _), (22, _), (21, _), (19, _), (40, _), (14, _), (13, _), (12, _), (34, _), (11, _), (0, _), (1, _), (2, _), (3, _), (4, _)]) ⟨rfl, rfl, rfl, rfl, rfl, rfl, rfl, rfl, rfl, rfl, rfl, rfl, rfl, rfl, rfl, rfl, rfl, rfl, rfl, rfl, rfl, trivial⟩ <| hthen <| ?_
          refine hiff rfl (rfl) ?_
          obtain ⟨d3, d4, i3, j3, k1, k2, k3⟩ := crash_end hS hgen hY40 (by decide)
          refine hcskip <| hthen <| hseq <| hreg <| hy (fun _ => y_move rfl) <| hy (fun _ => y_nilp rfl) <| hy (fun _ => y_fld rfl fa64_0 (by decide)) <| hy (fun m => y_ld1 rfl ag58 (ld_blk (m.blk 4 rfl) (i := 0) rfl)) <| hy (fun _ => y_move rfl) <| ?_
          refine hx (xh_calll rfl Tryd.call27 (stageSC hYl hE5 (by omega) (bb := Y0)) [0] rfl (.x 1 rfl .own .nil) ?_)
          rintro _ _ _ ⟨st14, rfl, rfl, rfl, hE6⟩
          refine ⟨rfl, ?_⟩
          refine hy (fun _ => y_move rfl) <| hy (fun _ => y_extract rfl rfl) <| hy (fun _ => y_extract rfl rfl) <| hy (fun _ => y_assign rfl) <| hy (fun _ => y_assign rfl) <| hend <| hsub (ρ' := [(27, _), (163, _), (25, _), (24, _), (118, _), (23, _), (104, _), (93, _), (22, _), (21, _), (19, _), (40, _), (14, _), (13, _), (12, _), (34, _), (11, _), (0, _), (1, _), (2, _), (3, _), (4, _)]) ⟨rfl, rfl, rfl, rfl, rfl, rfl, rfl, rfl, rfl, rfl, rfl, rfl, rfl, rfl, rfl, rfl, rfl, rfl, rfl, rfl, rfl, rfl, trivial⟩ <| hmemQ (X' := [_, _, _, _, _]) (S' := [_, _, _, _, _, _]) (fun _ m => m) <| hthen <| hseq <| hdrw [5, 6] [(0, some 1), (1, some 1), (2, some 1), (3, some 1), (4, some 0), (5, none), (6, none), (7, some 2), (8, some 2), (9, some 2), (10, some 2), (11, some 2)] (by kernel_rfl) (by kernel_rfl) rfl 1 <| ?_
          rw [k1] at hE6 ⊢
          refine htyU (y_move rfl) <| htyU (y_nilp rfl) <| htyU (y_fld rfl fa64_0 (by decide)) <| hty (fun m => y_ld1 rfl ag58 (ld_blk (m.blk 4 rfl) (i := 0) rfl)) <| htyU (y_move rfl) <| ?_
          refine htx (xh_calll rfl Tryd.call29 (rshaSumC (by omega)) [] rfl (.x 2 rfl .own .nil) ?_)
          rintro _ _ _ ⟨rfl, rfl, rfl⟩
          refine ⟨rfl, ?_⟩
          refine ⟨(fun _ => wk [0, 0, 0, 0, 0] [0, 1, 2, 3, 4, 5] rfl rfl), ?_⟩
          refine htx (xh_call rfl Tryd.call28 (flipSC (shaL_length _) hE6 (by omega)) [0] rfl [5] rfl ?_)
          rintro _ _ _ ⟨st15, rfl, rfl, rfl, hE7⟩
          refine ⟨(fun h => absurd h (by decide)), ?_⟩
          refine htyU (y_move rfl) <| htyU (y_extract rfl rfl) <| htyU (y_extract rfl rfl) <| htyU (y_assign rfl) <| htyU (y_assign rfl) <| htend <| hsub (ρ' := [(29, _), (27, _), (163, _), (25, _), (24, _), (118, _), (23, _), (104, _), (93, _), (22, _), (21, _), (19, _), (40, _), (14, _), (13, _), (12, _), (34, _), (11, _), (0, _), (1, _), (2, _), (3, _), (4, _)]) ⟨rfl, rfl, rfl, rfl, rfl, rfl, rfl, rfl, rfl, rfl, rfl, rfl, rfl, rfl, rfl, rfl, rfl, rfl, rfl, rfl, rfl, rfl, rfl, trivial⟩ <| hmemQ (X' := [_, _, _, _, _]) (S' := [_, _, _, _, _, _]) (fun _ m => m) <| hthen <| hseq <| hreg <| ?_
          rw [k2] at hE7 ⊢
          refine hy (fun _ => y_move rfl) <| hy (fun _ => y_nilp rfl) <| hy (fun _ => y_fld rfl fa64_0 (by decide)) <| hy (fun m => y_ld1 rfl ag58 (ld_blk (m.blk 4 rfl) (i := 0) rfl)) <| ?_
          refine hx (xh_call rfl Tryd.call30 (activeSC hE7) [0] rfl [5] rfl ?_)
          rintro _ _ _ ⟨v4, rfl, rfl, rfl⟩
          refine hfactL (fun m => (m.own 1 rfl).slice) ?_
          rintro ⟨A_x4, c_x4, rfl, hc_x4⟩
          refine hfactL (fun m => (m.ord 1 rfl).2.1) fun hA_x4 => ?_
          refine hy (fun _ => y_move rfl) <| hy (fun _ => y_extract rfl rfl) <| hy (fun _ => y_extract rfl rfl) <| hy (fun _ => y_assign rfl) <| hy (fun _ => y_assign rfl) <| hend <| hsub (ρ' := [(31, _), (30, _), (29, _), (27, _), (163, _), (25, _), (24, _), (118, _), (23, _), (104, _), (93, _), (22, _), (21, _), (19, _), (40, _), (14, _), (13, _), (12, _), (34, _), (11, _), (0, _), (1, _), (2, _), (3, _), (4, _)]) ⟨rfl, rfl, rfl, rfl, rfl, rfl, rfl, rfl, rfl, rfl, rfl, rfl, rfl, rfl, rfl, rfl, rfl, rfl, rfl, rfl, rfl, rfl, rfl, rfl, rfl, trivial⟩ <| hmemQ (X' := [_, _, _, _, _, _]) (S' := [_, _, _, _, _, _]) (fun _ m => m) <| hthen <| hseq <| hreg <| ?_
          rw [k3]
          refine hy (fun _ => y_move rfl) <| hy (fun _ => y_eql rfl rfl) <| hy (fun _ => y_move rfl) <| hyg (o := _) rfl rfl rfl (fun _ => y_move rfl) <| hyg (o := _) rfl rfl rfl (fun _ => y_eql rfl rfl) <| hy (fun _ => y_pickT rfl rfl) <| hy (fun _ => y_move rfl) <| hyg (o := _) rfl rfl rfl (fun _ => y_move rfl) <| hyg (o := _) rfl rfl rfl (fun _ => y_eql rfl rfl) <| hy (fun _ => y_pickT rfl rfl) <| hy (fun _ => y_move rfl) <| hyg (o := _) rfl rfl rfl (fun _ => y_move rfl) <| hyg (o := _) rfl rfl rfl (fun m => y_b2s rfl Tryd.underlying32 Tryd.underlying5 Tryd.underlying9 (m.ord 1 rfl)) <| hyg (o := _) rfl rfl rfl (fun _ => y_move rfl) <| hyg (o := _) rfl rfl rfl (fun m => y_b2s rfl Tryd.underlying32 Tryd.underlying5 Tryd.underlying9 (m.ord 3 rfl)) <| hyg (o := _) rfl rfl rfl (fun _ => yT (y_seq rfl rfl) ((decide_eq_true rfl))) <| hy (fun _ => y_pickT rfl rfl) <| hy (fun _ => y_move rfl) <| ?_
          refine hxg (o := _) rfl rfl rfl (xh_call rfl Tryd.call20 (lives22C) [] rfl [5] rfl ?_)
          rintro _ _ _ ⟨rfl, rfl, rfl⟩
          refine hy (fun _ => y_pickT rfl rfl) <| hy (fun _ => y_assign rfl) <| hend <| hsub (ρ' := [(10, _), (31, _), (30, _), (29, _), (27, _), (163, _), (25, _), (24, _), (118, _), (23, _), (104, _), (93, _), (22, _), (21, _), (19, _), (40, _), (14, _), (13, _), (12, _), (34, _), (11, _), (0, _), (1, _), (2, _), (3, _), (4, _)]) ⟨rfl, rfl, rfl, rfl, rfl, rfl, rfl, rfl, rfl, rfl, rfl, rfl, rfl, rfl, rfl, rfl, rfl, rfl, rfl, rfl, rfl, rfl, rfl, rfl, rfl, rfl, trivial⟩ <| hmemQ (X' := [_, _, _, _, _, _]) (S' := [_, _, _, _, _, _]) (fun _ m => m) <| hthen <| hret <| ?_
          exact hret1 trivial rfl rfl [] rfl [] rfl ⟨rfl, rfl, rfl⟩
        · refine hyg (o := _) rfl rfl rfl (fun _ => yT (y_sne rfl rfl) ((decide_eq_true (fun h => hqx (by have := congrArg bytesOf h; rwa [bytesOf_strOf, bytesOf_strOf] at this))))) <| hyg (o := _) rfl rfl rfl (fun _ => y_move rfl) <| hyg (o := _) rfl rfl rfl (fun _ => y_move rfl) <| hyg (o := _) rfl rfl rfl (fun m => y_b2s rfl Tryd.underlying32 Tryd.underlying5 Tryd.underlying9 (m.ord 1 rfl)) <| hyg (o := _) rfl rfl rfl (fun _ => y_move rfl) <| hyg (o := _) rfl rfl rfl (fun m => y_b2s rfl Tryd.underlying32 Tryd.underlying5 Tryd.underlying9 (m.ord 2 rfl)) <| hyg (o := _) rfl rfl rfl (fun _ => yF (y_sne rfl rfl) ((decide_eq_false (fun h => h (congrArg strOf (hq.resolve_left hqx)))))) <| hyg (o := _) rfl rfl rfl (fun _ => y_pickT rfl rfl) <| hy (fun _ => y_pickF rfl rfl) <| hy (fun _ => y_move rfl) <| hyg (o := _) rfl rfl rfl (fun _ => y_move rfl) <| hyg (o := _) rfl rfl rfl (fun _ => yF (y_eql rfl rfl) (rfl)) <| hyg (o := _) rfl rfl rfl (fun _ => y_move rfl) <| hskip rfl rfl rfl (by decide) <| hskip rfl rfl rfl (by decide) <| hskip rfl rfl rfl (by decide) <| hskip rfl rfl rfl (by decide) <| hskip rfl rfl rfl (by decide) <| hyg (o := _) rfl rfl rfl (fun _ => y_pickF rfl rfl) <| hy (fun _ => y_pickF rfl rfl) <| hend <| hsub (ρ' := [(163, _), (25, _), (24, _), (118, _), (23, _), (104, _), (93, _), (22, _), (21, _), (19, _), (40, _), (14, _), (13, _), (12, _), (34, _), (11, _), (0, _), (1, _), (2, _), (3, _), (4, _)]) ⟨rfl, rfl, rfl, rfl, rfl, rfl, rfl, rfl, rfl, rfl, rfl, rfl, rfl, rfl, rfl, rfl, rfl, rfl, rfl, rfl, rfl, trivial⟩ <| hthen <| ?_
          refine hiff rfl (rfl) ?_
          obtain ⟨d3, d4, i3, j3, k1, k2, k3⟩ := crash_end hS hgen hY40 (by decide)
          refine hcskip <| hthen <| hseq <| hreg <| hy (fun _ => y_move rfl) <| hy (fun _ => y_nilp rfl) <| hy (fun _ => y_fld rfl fa64_0 (by decide)) <| hy (fun m => y_ld1 rfl ag58 (ld_blk (m.blk 4 rfl) (i := 0) rfl)) <| hy (fun _ => y_move rfl) <| ?_
          refine hx (xh_calll rfl Tryd.call27 (stageSC hYl hE5 (by omega) (bb := Y0)) [0] rfl (.x 1 rfl .own .nil) ?_)
          rintro _ _ _ ⟨st14, rfl, rfl, rfl, hE6⟩
          refine ⟨rfl, ?_⟩
          refine hy (fun _ => y_move rfl) <| hy (fun _ => y_extract rfl rfl) <| hy (fun _ => y_extract rfl rfl) <| hy (fun _ => y_assign rfl) <| hy (fun _ => y_assign rfl) <| hend <| hsub (ρ' := [(27, _), (163, _), (25, _), (24, _), (118, _), (23, _), (104, _), (93, _), (22, _), (21, _), (19, _), (40, _), (14, _), (13, _), (12, _), (34, _), (11, _), (0, _), (1, _), (2, _), (3, _), (4, _)]) ⟨rfl, rfl, rfl, rfl, rfl, rfl, rfl, rfl, rfl, rfl, rfl, rfl, rfl, rfl, rfl, rfl, rfl, rfl, rfl, rfl, rfl, rfl, trivial⟩ <| hmemQ (X' := [_, _, _, _, _]) (S' := [_, _, _, _, _, _]) (fun _ m => m) <| hthen <| hseq <| hdrwB [1, 1, 1, 1] [0, 1, 2, 3, 4, 5] rfl rfl [5, 6] [(0, some 1), (1, some 1), (2, some 1), (3, some 1), (4, some 0), (5, none), (6, none), (7, some 2), (8, some 2), (9, some 2), (10, some 2), (11, some 2)] (by kernel_rfl) (by kernel_rfl) rfl 99 <| ?_
          rw [k1] at hE6 ⊢
          refine htyU (y_move rfl) <| htyU (y_nilp rfl) <| htyU (y_fld rfl fa64_0 (by decide)) <| hty (fun m => y_ld1 rfl ag58 (ld_blk (m.blk 3 rfl) (i := 0) rfl)) <| htyU (y_move rfl) <| ?_
          refine htx (xh_calll rfl Tryd.call29 (rshaSumC (by omega)) [] rfl (.x 2 rfl .own .nil) ?_)
          rintro _ _ _ ⟨rfl, rfl, rfl⟩
          refine ⟨rfl, ?_⟩
          refine ⟨(fun _ => wk [1, 1, 1, 1] [0, 1, 2, 3, 4, 5] rfl rfl), ?_⟩
          refine htx (xh_call rfl Tryd.call28 (flipSC (shaL_length _) hE6 (by omega)) [0] rfl [5] rfl ?_)
          rintro _ _ _ ⟨st15, rfl, rfl, rfl, hE7⟩
          refine ⟨(fun _ => wk [1, 1, 1, 1] [0, 1, 2, 3, 4, 5] rfl rfl), ?_⟩
          refine htyU (y_move rfl) <| htyU (y_extract rfl rfl) <| htyU (y_extract rfl rfl) <| htyU (y_assign rfl) <| htyU (y_assign rfl) <| htend <| hsub (ρ' := [(29, _), (27, _), (163, _), (25, _), (24, _), (118, _), (23, _), (104, _), (93, _), (22, _), (21, _), (19, _), (40, _), (14, _), (13, _), (12, _), (34, _), (11, _), (0, _), (1, _), (2, _), (3, _), (4, _)]) ⟨rfl, rfl, rfl, rfl, rfl, rfl, rfl, rfl, rfl, rfl, rfl, rfl, rfl, rfl, rfl, rfl, rfl, rfl, rfl, rfl, rfl, rfl, rfl, trivial⟩ <| hmemQ (X' := [_, _, _, _, _]) (S' := [_, _, _, _, _, _]) (fun _ m => m) <| hthen <| hseq <| hreg <| ?_
          rw [k2] at hE7 ⊢
          refine hy (fun _ => y_move rfl) <| hy (fun _ => y_nilp rfl) <| hy (fun _ => y_fld rfl fa64_0 (by decide)) <| hy (fun m => y_ld1 rfl ag58 (ld_blk (m.blk 4 rfl) (i := 0) rfl)) <| ?_
          refine hx (xh_call rfl Tryd.call30 (activeSC hE7) [0] rfl [5] rfl ?_)
          rintro _ _ _ ⟨v4, rfl, rfl, rfl⟩
          refine hfactL (fun m => (m.own 1 rfl).slice) ?_
          rintro ⟨A_x4, c_x4, rfl, hc_x4⟩
          refine hfactL (fun m => (m.ord 1 rfl).2.1) fun hA_x4 => ?_
          refine hy (fun _ => y_move rfl) <| hy (fun _ => y_extract rfl rfl) <| hy (fun _ => y_extract rfl rfl) <| hy (fun _ => y_assign rfl) <| hy (fun _ => y_assign rfl) <| hend <| hsub (ρ' := [(31, _), (30, _), (29, _), (27, _), (163, _), (25, _), (24, _), (118, _), (23, _), (104, _), (93, _), (22, _), (21, _), (19, _), (40, _), (14, _), (13, _), (12, _), (34, _), (11, _), (0, _), (1, _), (2, _), (3, _), (4, _)]) ⟨rfl, rfl, rfl, rfl, rfl, rfl, rfl, rfl, rfl, rfl, rfl, rfl, rfl, rfl, rfl, rfl, rfl, rfl, rfl, rfl, rfl, rfl, rfl, rfl, rfl, trivial⟩ <| hmemQ (X' := [_, _, _, _, _, _]) (S' := [_, _, _, _, _, _]) (fun _ m => m) <| hthen <| hseq <| hreg <| ?_
          rw [k3]
          refine hy (fun _ => y_move rfl) <| hy (fun _ => y_eql rfl rfl) <| hy (fun _ => y_move rfl) <| hyg (o := _) rfl rfl rfl (fun _ => y_move rfl) <| hyg (o := _) rfl rfl rfl (fun _ => y_eql rfl rfl) <| hy (fun _ => y_pickT rfl rfl) <| hy (fun _ => y_move rfl) <| hyg (o := _) rfl rfl rfl (fun _ => y_move rfl) <| hyg (o := _) rfl rfl rfl (fun _ => y_eql rfl rfl) <| hy (fun _ => y_pickT rfl rfl) <| hy (fun _ => y_move rfl) <| hyg (o := _) rfl rfl rfl (fun _ => y_move rfl) <| hyg (o := _) rfl rfl rfl (fun m => y_b2s rfl Tryd.underlying32 Tryd.underlying5 Tryd.underlying9 (m.ord 1 rfl)) <| hyg (o := _) rfl rfl rfl (fun _ => y_move rfl) <| hyg (o := _) rfl rfl rfl (fun m => y_b2s rfl Tryd.underlying32 Tryd.underlying5 Tryd.underlying9 (m.ord 3 rfl)) <| hyg (o := _) rfl rfl rfl (fun _ => yT (y_seq rfl rfl) ((decide_eq_true rfl))) <| hy (fun _ => y_pickT rfl rfl) <| hy (fun _ => y_move rfl) <| ?_
          refine hxg (o := _) rfl rfl rfl (xh_call rfl Tryd.call20 (lives22C) [] rfl [5] rfl ?_)
          rintro _ _ _ ⟨rfl, rfl, rfl⟩
          refine hy (fun _ => y_pickT rfl rfl) <| hy (fun _ => y_assign rfl) <| hend <| hsub (ρ' := [(10, _), (31, _), (30, _), (29, _), (27, _), (163, _), (25, _), (24, _), (118, _), (23, _), (104, _), (93, _), (22, _), (21, _), (19, _), (40, _), (14, _), (13, _), (12, _), (34, _), (11, _), (0, _), (1, _), (2, _), (3, _), (4, _)]) ⟨rfl, rfl, rfl, rfl, rfl, rfl, rfl, rfl, rfl, rfl, rfl, rfl, rfl, rfl, rfl, rfl, rfl, rfl, rfl, rfl, rfl, rfl, rfl, rfl, rfl, rfl, trivial⟩ <| hmemQ (X' := [_, _, _, _, _, _]) (S' := [_, _, _, _, _, _]) (fun _ m => m) <| hthen <| hret <| ?_
          exact hret1 trivial rfl rfl [] rfl [] rfl ⟨rfl, rfl, rfl⟩
      · rw [htw, need0] at q2
        refine hcskip <| hthen <| hseq <| hseq <| hreg <| hy (fun _ => y_move rfl) <| hy (fun _ => yF (y_eql rfl rfl) (rfl)) <| hy (fun _ => y_move rfl) <| hy (fun _ => y_move rfl) <| hy (fun _ => yF (y_geq rfl rfl) ((decide_eq_false (by omega)))) <| hy (fun _ => yF (y_bne Tryd.underlying4 rfl rfl) (rfl)) <| hy (fun _ => y_move rfl) <| hyg (o := _) rfl rfl rfl (fun _ => y_move rfl) <| hyg (o := _) rfl rfl rfl (fun _ => yT (y_neq rfl rfl) (rfl)) <| hyg (o := _) rfl rfl rfl (fun _ => y_move rfl) <| hyg (o := _) rfl rfl rfl (fun _ => y_move rfl) <| hyg (o := _) rfl rfl rfl (fun _ => yF (y_neq rfl rfl) (rfl)) <| hyg (o := _) rfl rfl rfl (fun _ => y_pickT rfl rfl) <| hy (fun _ => y_pickF rfl rfl) <| hend <| hsub (ρ' := [(118, _), (104, _), (23, _), (93, _), (22, _), (21, _), (19, _), (40, _), (14, _), (13, _), (12, _), (34, _), (11, _), (0, _), (1, _), (2, _), (3, _), (4, _)]) ⟨rfl, rfl, rfl, rfl, rfl, rfl, rfl, rfl, rfl, rfl, rfl, rfl, rfl, rfl, rfl, rfl, rfl, rfl, trivial⟩ <| hthen <| ?_
        refine hiff rfl (rfl) ?_
        refine hmemC (fun w m => m.asV 3 rfl (View.takeV (k := min mk 20) (Nat.min_le_left _ _))) ?_
        refine hfactC (fun m => rdX (m.rd 0 rfl)) ?_
        rintro ⟨hl_rf, hA_rf⟩
        rw [hbt]
        obtain ⟨sq, gg, qq, hS, hW, hq, h00, hgen⟩ := hF.re (bs.take (min mk 20))
        refine hcskip <| hthen <| hseq <| hdrwB [1, 1, 1] [0, 1, 2, 3, 4, 5] rfl rfl [9] [(0, some 0), (1, some 0), (2, some 0), (3, some 0), (4, some 0), (5, some 0), (6, some 0), (7, some 0), (8, some 0), (9, none)] (by kernel_rfl) (by kernel_rfl) rfl 99 <| htyU (y_move rfl) <| htyU (y_nilp rfl) <| htyU (y_fld rfl fa64_0 (by decide)) <| hty (fun m => y_ld1 rfl ag58 (ld_blk (m.blk 2 rfl) (i := 0) rfl)) <| htyU (y_move rfl) <| htyU (y_move rfl) <| htyU (y_lenS rfl Tryd.underlying72) <| htyU (y_min rfl rfl) <| htyU (y_slTo rfl rfl Tryd.underlying72 sz4 (show ((min mk 20 : Nat) : Int) = _ by omega) (by omega)) <| ?_
        refine htx (xh_call rfl Tryd.call33 (drestartC hE3 (by omega) hF.nr (by omega)) [0] rfl [0] rfl ?_)
        rintro _ _ _ ⟨st13, rfl, rfl, rfl, hE5⟩
        refine ⟨(fun _ => wk [1, 1, 1] [0, 1, 2, 3, 4, 5] rfl rfl), ?_⟩
        refine htend <| hsub (ρ' := [(118, _), (104, _), (23, _), (93, _), (22, _), (21, _), (19, _), (40, _), (14, _), (13, _), (12, _), (34, _), (11, _), (0, _), (1, _), (2, _), (3, _), (4, _)]) ⟨rfl, rfl, rfl, rfl, rfl, rfl, rfl, rfl, rfl, rfl, rfl, rfl, rfl, rfl, rfl, rfl, rfl, rfl, trivial⟩ <| hmemQ (X' := [_, _, _, _]) (S' := [_, _, _, _, _, _]) (fun _ m => m) <| hthen <| hseq <| hreg <| hy (fun _ => y_move rfl) <| hy (fun _ => y_nilp rfl) <| hy (fun _ => y_fld rfl fa64_0 (by decide)) <| hy (fun m => y_ld1 rfl ag58 (ld_blk (m.blk 3 rfl) (i := 0) rfl)) <| ?_
        refine hx (xh_call rfl Tryd.call30 (activeSC hE5) [0] rfl [5] rfl ?_)
        rintro _ _ _ ⟨v3, rfl, rfl, rfl⟩
        refine hfactL (fun m => (m.own 1 rfl).slice) ?_
        rintro ⟨A_x3, c_x3, rfl, hc_x3⟩
        refine hfactL (fun m => (m.ord 1 rfl).2.1) fun hA_x3 => ?_
        refine hy (fun _ => y_move rfl) <| hy (fun _ => y_extract rfl rfl) <| hy (fun _ => y_extract rfl rfl) <| hy (fun _ => y_assign rfl) <| hy (fun _ => y_assign rfl) <| hend <| hsub (ρ' := [(25, _), (24, _), (118, _), (104, _), (23, _), (93, _), (22, _), (21, _), (19, _), (40, _), (14, _), (13, _), (12, _), (34, _), (11, _), (0, _), (1, _), (2, _), (3, _), (4, _)]) ⟨rfl, rfl, rfl, rfl, rfl, rfl, rfl, rfl, rfl, rfl, rfl, rfl, rfl, rfl, rfl, rfl, rfl, rfl, rfl, rfl, trivial⟩ <| hmemQ (X' := [_, _, _, _, _]) (S' := [_, _, _, _, _, _]) (fun _ m => m) <| hthen <| hseq <| hseq <| hreg <| ?_
        rw [hS.whole hW]
        refine hy (fun _ => y_move rfl) <| hy (fun _ => yF (y_neq rfl rfl) (rfl)) <| hy (fun _ => y_move rfl) <| hyg (o := _) rfl rfl rfl (fun _ => y_move rfl) <| hyg (o := _) rfl rfl rfl (fun m => y_b2s rfl Tryd.underlying32 Tryd.underlying5 Tryd.underlying9 (m.ord 1 rfl)) <| hyg (o := _) rfl rfl rfl (fun _ => y_move rfl) <| hyg (o := _) rfl rfl rfl (fun m => y_b2s rfl Tryd.underlying32 Tryd.underlying5 Tryd.underlying9 (m.ord 3 rfl)) <| ?_
        by_cases hqx : qq = X0
        · refine hyg (o := _) rfl rfl rfl (fun _ => yF (y_sne rfl rfl) ((decide_eq_false (fun h => h (congrArg strOf hqx))))) <| hyg (o := _) rfl rfl rfl (fun _ => y_move rfl) <| hskip rfl rfl rfl (by decide) <| hskip rfl rfl rfl (by decide) <| hskip rfl rfl rfl (by decide) <| hskip rfl rfl rfl (by decide) <| hskip rfl rfl rfl (by decide) <| hyg (o := _) rfl rfl rfl (fun _ => y_pickF rfl rfl) <| hy (fun _ => y_pickF rfl rfl) <| hy (fun _ => y_move rfl) <| hyg (o := _) rfl rfl rfl (fun _ => y_move rfl) <| hyg (o := _) rfl rfl rfl (fun _ => yF (y_eql rfl rfl) (rfl)) <| hyg (o := _) rfl rfl rfl (fun _ => y_move rfl) <| hskip rfl rfl rfl (by decide) <| hskip rfl rfl rfl (by decide) <| hskip rfl rfl rfl (by decide) <| hskip rfl rfl rfl (by decide) <| hskip rfl rfl rfl (by decide) <| hyg (o := _) rfl rfl rfl (fun _ => y_pickF rfl rfl) <| hy (fun _ => y_pickF rfl rfl) <| hend <| hsub (ρ' := [(163, _), (25, _), (24, _), (118, _), (104, _), (23, _), (93, _), (22, _), (21, _), (19, _), (40, _), (14, _), (13, _), (12, _), (34, _), (11, _), (0, _), (1, _), (2, _), (3, _), (4, _)]) ⟨rfl, rfl, rfl, rfl, rfl, rfl, rfl, rfl, rfl, rfl, rfl, rfl, rfl, rfl, rfl, rfl, rfl, rfl, rfl, rfl, rfl, trivial⟩ <| hthen <| ?_
          refine hiff rfl (rfl) ?_
          obtain ⟨d3, d4, i3, j3, k1, k2, k3⟩ := crash_end hS hgen hY40 (by decide)
          refine hcskip <| hthen <| hseq <| hreg <| hy (fun _ => y_move rfl) <| hy (fun _ => y_nilp rfl) <| hy (fun _ => y_fld rfl fa64_0 (by decide)) <| hy (fun m => y_ld1 rfl ag58 (ld_blk (m.blk 4 rfl) (i := 0) rfl)) <| hy (fun _ => y_move rfl) <| ?_
          refine hx (xh_calll rfl Tryd.call27 (stageSC hYl hE5 (by omega) (bb := Y0)) [0] rfl (.x 1 rfl .own .nil) ?_)
          rintro _ _ _ ⟨st14, rfl, rfl, rfl, hE6⟩
          refine ⟨rfl, ?_⟩
          refine hy (fun _ => y_move rfl) <| hy (fun _ => y_extract rfl rfl) <| hy (fun _ => y_extract rfl rfl) <| hy (fun _ => y_assign rfl) <| hy (fun _ => y_assign rfl) <| hend <| hsub (ρ' := [(27, _), (163, _), (25, _), (24, _), (118, _), (104, _), (23, _), (93, _), (22, _), (21, _), (19, _), (40, _), (14, _), (13, _), (12, _), (34, _), (11, _), (0, _), (1, _), (2, _), (3, _), (4, _)]) ⟨rfl, rfl, rfl, rfl, rfl, rfl, rfl, rfl, rfl, rfl, rfl, rfl, rfl, rfl, rfl, rfl, rfl, rfl, rfl, rfl, rfl, rfl, trivial⟩ <| hmemQ (X' := [_, _, _, _, _]) (S' := [_, _, _, _, _, _]) (fun _ m => m) <| hthen <| hseq <| hdrw [5, 6] [(0, some 1), (1, some 1), (2, some 1), (3, some 1), (4, some 0), (5, none), (6, none), (7, some 2), (8, some 2), (9, some 2), (10, some 2), (11, some 2)] (by kernel_rfl) (by kernel_rfl) rfl 1 <| ?_
          rw [k1] at hE6 ⊢
          refine htyU (y_move rfl) <| htyU (y_nilp rfl) <| htyU (y_fld rfl fa64_0 (by decide)) <| hty (fun m => y_ld1 rfl ag58 (ld_blk (m.blk 4 rfl) (i := 0) rfl)) <| htyU (y_move rfl) <| ?_
          refine htx (xh_calll rfl Tryd.call29 (rshaSumC (by omega)) [] rfl (.x 2 rfl .own .nil) ?_)
          rintro _ _ _ ⟨rfl, rfl, rfl⟩
          refine ⟨rfl, ?_⟩
          refine ⟨(fun _ => wk [0, 0, 0, 0, 0] [0, 1, 2, 3, 4, 5] rfl rfl), ?_⟩
          refine htx (xh_call rfl Tryd.call28 (flipSC (shaL_length _) hE6 (by omega)) [0] rfl [5] rfl ?_)
          rintro _ _ _ ⟨st15, rfl, rfl, rfl, hE7⟩
          refine ⟨(fun h => absurd h (by decide)), ?_⟩
          refine htyU (y_move rfl) <| htyU (y_extract rfl rfl) <| htyU (y_extract rfl rfl) <| htyU (y_assign rfl) <| htyU (y_assign rfl) <| htend <| hsub (ρ' := [(29, _), (27, _), (163, _), (25, _), (24, _), (118, _), (104, _), (23, _), (93, _), (22, _), (21, _), (19, _), (40, _), (14, _), (13, _), (12, _), (34, _), (11, _), (0, _), (1, _), (2, _), (3, _), (4, _)]) ⟨rfl, rfl, rfl, rfl, rfl, rfl, rfl, rfl, rfl, rfl, rfl, rfl, rfl, rfl, rfl, rfl, rfl, rfl, rfl, rfl, rfl, rfl, rfl, trivial⟩ <| hmemQ (X' := [_, _, _, _, _]) (S' := [_, _, _, _, _, _]) (fun _ m => m) <| hthen <| hseq <| hreg <| ?_
          rw [k2] at hE7 ⊢
          refine hy (fun _ => y_move rfl) <| hy (fun _ => y_nilp rfl) <| hy (fun _ => y_fld rfl fa64_0 (by decide)) <| hy (fun m => y_ld1 rfl ag58 (ld_blk (m.blk 4 rfl) (i := 0) rfl)) <| ?_
          refine hx (xh_call rfl Tryd.call30 (activeSC hE7) [0] rfl [5] rfl ?_)
          rintro _ _ _ ⟨v4, rfl, rfl, rfl⟩
          refine hfactL (fun m => (m.own 1 rfl).slice) ?_
          rintro ⟨A_x4, c_x4, rfl, hc_x4⟩
          refine hfactL (fun m => (m.ord 1 rfl).2.1) fun hA_x4 => ?_
          refine hy (fun _ => y_move rfl) <| hy (fun _ => y_extract rfl rfl) <| hy (fun _ => y_extract rfl rfl) <| hy (fun _ => y_assign rfl) <| hy (fun _ => y_assign rfl) <| hend <| hsub (ρ' := [(31, _), (30, _), (29, _), (27, _), (163, _), (25, _), (24, _), (118, _), (104, _), (23, _), (93, _), (22, _), (21, _), (19, _), (40, _), (14, _), (13, _), (12, _), (34, _), (11, _), (0, _), (1, _), (2, _), (3, _), (4, _)]) ⟨rfl, rfl, rfl, rfl, rfl, rfl, rfl, rfl, rfl, rfl, rfl, rfl, rfl, rfl, rfl, rfl, rfl, rfl, rfl, rfl, rfl, rfl, rfl, rfl, rfl, trivial⟩ <| hmemQ (X' := [_, _, _, _, _, _]) (S' := [_, _, _, _, _, _]) (fun _ m => m) <| hthen <| hseq <| hreg <| ?_
          rw [k3]
          refine hy (fun _ => y_move rfl) <| hy (fun _ => y_eql rfl rfl) <| hy (fun _ => y_move rfl) <| hyg (o := _) rfl rfl rfl (fun _ => y_move rfl) <| hyg (o := _) rfl rfl rfl (fun _ => y_eql rfl rfl) <| hy (fun _ => y_pickT rfl rfl) <| hy (fun _ => y_move rfl) <| hyg (o := _) rfl rfl rfl (fun _ => y_move rfl) <| hyg (o := _) rfl rfl rfl (fun _ => y_eql rfl rfl) <| hy (fun _ => y_pickT rfl rfl) <| hy (fun _ => y_move rfl) <| hyg (o := _) rfl rfl rfl (fun _ => y_move rfl) <| hyg (o := _) rfl rfl rfl (fun m => y_b2s rfl Tryd.underlying32 Tryd.underlying5 Tryd.underlying9 (m.ord 1 rfl)) <| hyg (o := _) rfl rfl rfl (fun _ => y_move rfl) <| hyg (o := _) rfl rfl rfl (fun m => y_b2s rfl Tryd.underlying32 Tryd.underlying5 Tryd.underlying9 (m.ord 3 rfl)) <| hyg (o := _) rfl rfl rfl (fun _ => yT (y_seq rfl rfl) ((decide_eq_true rfl))) <| hy (fun _ => y_pickT rfl rfl) <| hy (fun _ => y_move rfl) <| ?_
          refine hxg (o := _) rfl rfl rfl (xh_call rfl Tryd.call20 (lives22C) [] rfl [5] rfl ?_)
          rintro _ _ _ ⟨rfl, rfl, rfl⟩
          refine hy (fun _ => y_pickT rfl rfl) <| hy (fun _ => y_assign rfl) <| hend <| hsub (ρ' := [(10, _), (31, _), (30, _), (29, _), (27, _), (163, _), (25, _), (24, _), (118, _), (104, _), (23, _), (93, _), (22, _), (21, _), (19, _), (40, _), (14, _), (13, _), (12, _), (34, _), (11, _), (0, _), (1, _), (2, _), (3, _), (4, _)]) ⟨rfl, rfl, rfl, rfl, rfl, rfl, rfl, rfl, rfl, rfl, rfl, rfl, rfl, rfl, rfl, rfl, rfl, rfl, rfl, rfl, rfl, rfl, rfl, rfl, rfl, rfl, trivial⟩ <| hmemQ (X' := [_, _, _, _, _, _]) (S' := [_, _, _, _, _, _]) (fun _ m => m) <| hthen <| hret <| ?_
          exact hret1 trivial rfl rfl [] rfl [] rfl ⟨rfl, rfl, rfl⟩
        · refine hyg (o := _) rfl rfl rfl (fun _ => yT (y_sne rfl rfl) ((decide_eq_true (fun h => hqx (by have := congrArg bytesOf h; rwa [bytesOf_strOf, bytesOf_strOf] at this))))) <| hyg (o := _) rfl rfl rfl (fun _ => y_move rfl) <| hyg (o := _) rfl rfl rfl (fun _ => y_move rfl) <| hyg (o := _) rfl rfl rfl (fun m => y_b2s rfl Tryd.underlying32 Tryd.underlying5 Tryd.underlying9 (m.ord 1 rfl)) <| hyg (o := _) rfl rfl rfl (fun _ => y_move rfl) <| hyg (o := _) rfl rfl rfl (fun m => y_b2s rfl Tryd.underlying32 Tryd.underlying5 Tryd.underlying9 (m.ord 2 rfl)) <| hyg (o := _) rfl rfl rfl (fun _ => yF (y_sne rfl rfl) ((decide_eq_false (fun h => h (congrArg strOf (hq.resolve_left hqx)))))) <| hyg (o := _) rfl rfl rfl (fun _ => y_pickT rfl rfl) <| hy (fun _ => y_pickF rfl rfl) <| hy (fun _ => y_move rfl) <| hyg (o := _) rfl rfl rfl (fun _ => y_move rfl) <| hyg (o := _) rfl rfl rfl (fun _ => yF (y_eql rfl rfl) (rfl)) <| hyg (o := _) rfl rfl rfl (fun _ => y_move rfl) <| hskip rfl rfl rfl (by decide) <| hskip rfl rfl rfl (by decide) <| hskip rfl rfl rfl (by decide) <| hskip rfl rfl rfl (by decide) <| hskip rfl rfl rfl (by decide) <| hyg (o := _) rfl rfl rfl (fun _ => y_pickF rfl rfl) <| hy (fun _ => y_pickF rfl rfl) <| hend <| hsub (ρ' := [(163, _), (25, _), (24, _), (118, _), (104, _), (23, _), (93, _), (22, _), (21, _), (19, _), (40, _), (14, _), (13, _), (12, _), (34, _), (11, _), (0, _), (1, _), (2, _), (3, _), (4, _)]) ⟨rfl, rfl, rfl, rfl, rfl, rfl, rfl, rfl, rfl, rfl, rfl, rfl, rfl, rfl, rfl, rfl, rfl, rfl, rfl, rfl, rfl, trivial⟩ <| hthen <| ?_
          refine hiff rfl (rfl) ?_
          obtain ⟨d3, d4, i3, j3, k1, k2, k3⟩ := crash_end hS hgen hY40 (by decide)
          refine hcskip <| hthen <| hseq <| hreg <| hy (fun _ => y_move rfl) <| hy (fun _ => y_nilp rfl) <| hy (fun _ => y_fld rfl fa64_0 (by decide)) <| hy (fun m => y_ld1 rfl ag58 (ld_blk (m.blk 4 rfl) (i := 0) rfl)) <| hy (fun _ => y_move rfl) <| ?_
          refine hx (xh_calll rfl Tryd.call27 (stageSC hYl hE5 (by omega) (bb := Y0)) [0] rfl (.x 1 rfl .own .nil) ?_)
          rintro _ _ _ ⟨st14, rfl, rfl, rfl, hE6⟩
          refine ⟨rfl, ?_⟩
          refine hy (fun _ => y_move rfl) <| hy (fun _ => y_extract rfl rfl) <| hy (fun _ => y_extract rfl rfl) <| hy (fun _ => y_assign rfl) <| hy (fun _ => y_assign rfl) <| hend <| hsub (ρ' := [(27, _), (163, _), (25, _), (24, _), (118, _), (104, _), (23, _), (93, _), (22, _), (21, _), (19, _), (40, _), (14, _), (13, _), (12, _), (34, _), (11, _), (0, _), (1, _), (2, _), (3, _), (4, _)]) ⟨rfl, rfl, rfl, rfl, rfl, rfl, rfl, rfl, rfl, rfl, rfl, rfl, rfl, rfl, rfl, rfl, rfl, rfl, rfl, rfl, rfl, rfl, trivial⟩ <| hmemQ (X' := [_, _, _, _, _]) (S' := [_, _, _, _, _, _]) (fun _ m => m) <| hthen <| hseq <| hdrwB [1, 1, 1, 1] [0, 1, 2, 3, 4, 5] rfl rfl [5, 6] [(0, some 1), (1, some 1), (2, some 1), (3, some 1), (4, some 0), (5, none), (6, none), (7, some 2), (8, some 2), (9, some 2), (10, some 2), (11, some 2)] (by kernel_rfl) (by kernel_rfl) rfl 99 <| ?_
          rw [k1] at hE6 ⊢
          refine htyU (y_move rfl) <| htyU (y_nilp rfl) <| htyU (y_fld rfl fa64_0 (by decide)) <| hty (fun m => y_ld1 rfl ag58 (ld_blk (m.blk 3 rfl) (i := 0) rfl)) <| htyU (y_move rfl) <| ?_
          refine htx (xh_calll rfl Tryd.call29 (rshaSumC (by omega)) [] rfl (.x 2 rfl .own .nil) ?_)
          rintro _ _ _ ⟨rfl, rfl, rfl⟩
          refine ⟨rfl, ?_⟩
          refine ⟨(fun _ => wk [1, 1, 1, 1] [0, 1, 2, 3, 4, 5] rfl rfl), ?_⟩
          refine htx (xh_call rfl Tryd.call28 (flipSC (shaL_length _) hE6 (by omega)) [0] rfl [5] rfl ?_)
          rintro _ _ _ ⟨st15, rfl, rfl, rfl, hE7⟩
          refine ⟨(fun _ => wk [1, 1, 1, 1] [0, 1, 2, 3, 4, 5] rfl rfl), ?_⟩
          refine htyU (y_move rfl) <| htyU (y_extract rfl rfl) <| htyU (y_extract rfl rfl) <| htyU (y_assign rfl) <| htyU (y_assign rfl) <| htend <| hsub (ρ' := [(29, _), (27, _), (163, _), (25, _), (24, _), (118, _), (104, _), (23, _), (93, _), (22, _), (21, _), (19, _), (40, _), (14, _), (13, _), (12, _), (34, _), (11, _), (0, _), (1, _), (2, _), (3, _), (4, _)]) ⟨rfl, rfl, rfl, rfl, rfl, rfl, rfl, rfl, rfl, rfl, rfl, rfl, rfl, rfl, rfl, rfl, rfl, rfl, rfl, rfl, rfl, rfl, rfl, trivial⟩ <| hmemQ (X' := [_, _, _, _, _]) (S' := [_, _, _, _, _, _]) (fun _ m => m) <| hthen <| hseq <| hreg <| ?_
          rw [k2] at hE7 ⊢
          refine hy (fun _ => y_move rfl) <| hy (fun _ => y_nilp rfl) <| hy (fun _ => y_fld rfl fa64_0 (by decide)) <| hy (fun m => y_ld1 rfl ag58 (ld_blk (m.blk 4 rfl) (i := 0) rfl)) <| ?_
          refine hx (xh_call rfl Tryd.call30 (activeSC hE7) [0] rfl [5] rfl ?_)
          rintro _ _ _ ⟨v4, rfl, rfl, rfl⟩
          refine hfactL (fun m => (m.own 1 rfl).slice) ?_
          rintro ⟨A_x4, c_x4, rfl, hc_x4⟩
          refine hfactL (fun m => (m.ord 1 rfl).2.1) fun hA_x4 => ?_
          refine hy (fun _ => y_move rfl) <| hy (fun _ => y_extract rfl rfl) <| hy (fun _ => y_extract rfl rfl) <| hy (fun _ => y_assign rfl) <| hy (fun _ => y_assign rfl) <| hend <| hsub (ρ' := [(31, _), (30, _), (29, _), (27, _), (163, _), (25, _), (24, _), (118, _), (104, _), (23, _), (93, _), (22, _), (21, _), (19, _), (40, _), (14, _), (13, _), (12, _), (34, _), (11, _), (0, _), (1, _), (2, _), (3, _), (4, _)]) ⟨rfl, rfl, rfl, rfl, rfl, rfl, rfl, rfl, rfl, rfl, rfl, rfl, rfl, rfl, rfl, rfl, rfl, rfl, rfl, rfl, rfl, rfl, rfl, rfl, rfl, trivial⟩ <| hmemQ (X' := [_, _, _, _, _, _]) (S' := [_, _, _, _, _, _]) (fun _ m => m) <| hthen <| hseq <| hreg <| ?_
          rw [k3]
          refine hy (fun _ => y_move rfl) <| hy (fun _ => y_eql rfl rfl) <| hy (fun _ => y_move rfl) <| hyg (o := _) rfl rfl rfl (fun _ => y_move rfl) <| hyg (o := _) rfl rfl rfl (fun _ => y_eql rfl rfl) <| hy (fun _ => y_pickT rfl rfl) <| hy (fun _ => y_move rfl) <| hyg (o := _) rfl rfl rfl (fun _ => y_move rfl) <| hyg (o := _) rfl rfl rfl (fun _ => y_eql rfl rfl) <| hy (fun _ => y_pickT rfl rfl) <| hy (fun _ => y_move rfl) <| hyg (o := _) rfl rfl rfl (fun _ => y_move rfl) <| hyg (o := _) rfl rfl rfl (fun m => y_b2s rfl Tryd.underlying32 Tryd.underlying5 Tryd.underlying9 (m.ord 1 rfl)) <| hyg (o := _) rfl rfl rfl (fun _ => y_move rfl) <| hyg (o := _) rfl rfl rfl (fun m => y_b2s rfl Tryd.underlying32 Tryd.underlying5 Tryd.underlying9 (m.ord 3 rfl)) <| hyg (o := _) rfl rfl rfl (fun _ => yT (y_seq rfl rfl) ((decide_eq_true rfl))) <| hy (fun _ => y_pickT rfl rfl) <| hy (fun _ => y_move rfl) <| ?_
          refine hxg (o := _) rfl rfl rfl (xh_call rfl Tryd.call20 (lives22C) [] rfl [5] rfl ?_)
          rintro _ _ _ ⟨rfl, rfl, rfl⟩
          refine hy (fun _ => y_pickT rfl rfl) <| hy (fun _ => y_assign rfl) <| hend <| hsub (ρ' := [(10, _), (31, _), (30, _), (29, _), (27, _), (163, _), (25, _), (24, _), (118, _), (104, _), (23, _), (93, _), (22, _), (21, _), (19, _), (40, _), (14, _), (13, _), (12, _), (34, _), (11, _), (0, _), (1, _), (2, _), (3, _), (4, _)]) ⟨rfl, rfl, rfl, rfl, rfl, rfl, rfl, rfl, rfl, rfl, rfl, rfl, rfl, rfl, rfl, rfl, rfl, rfl, rfl, rfl, rfl, rfl, rfl, rfl, rfl, rfl, trivial⟩ <| hmemQ (X' := [_, _, _, _, _, _]) (S' := [_, _, _, _, _, _]) (fun _ m => m) <| hthen <| hret <| ?_
          exact hret1 trivial rfl rfl [] rfl [] rfl ⟨rfl, rfl, rfl⟩
    · rw [q1] at hE3 ⊢
      refine hift rfl (rfl) ?_
      refine hdrwB [1, 1, 1] [0, 1, 2, 3, 4] rfl rfl [5, 6] [(0, some 1), (1, some 1), (2, some 1), (3, some 1), (4, some 0), (5, none), (6, none), (7, some 2), (8, some 2), (9, some 2), (10, some 2)] (by kernel_rfl) (by kernel_rfl) rfl 99 <| htyU (y_move rfl) <| htyU (y_nilp rfl) <| htyU (y_fld rfl fa64_0 (by decide)) <| hty (fun m => y_ld1 rfl ag58 (ld_blk (m.blk 2 rfl) (i := 0) rfl)) <| htyU (y_move rfl) <| ?_
      refine htx (xh_calll rfl Tryd.call29 (rshaSumC (by omega)) [] rfl (.x 1 rfl .own .nil) ?_)
      rintro _ _ _ ⟨rfl, rfl, rfl⟩
      refine ⟨rfl, ?_⟩
      refine ⟨(fun _ => wk [1, 1, 1] [0, 1, 2, 3, 4] rfl rfl), ?_⟩
      refine htx (xh_call rfl Tryd.call28 (flipSC (shaL_length _) hE3 (by omega)) [0] rfl [4] rfl ?_)
      rintro _ _ _ ⟨st13, rfl, rfl, rfl, hE4⟩
      refine ⟨(fun _ => wk [1, 1, 1] [0, 1, 2, 3, 4] rfl rfl), ?_⟩
      refine htyU (y_move rfl) <| htyU (y_extract rfl rfl) <| htyU (y_extract rfl rfl) <| htyU (y_assign rfl) <| htend <| hsub (ρ' := [(22, _), (93, _), (21, _), (19, _), (40, _), (14, _), (13, _), (12, _), (34, _), (11, _), (0, _), (1, _), (2, _), (3, _), (4, _)]) ⟨rfl, rfl, rfl, rfl, rfl, rfl, rfl, rfl, rfl, rfl, rfl, rfl, rfl, rfl, rfl, trivial⟩ <| hmemQ (X' := [_, _, _, _]) (S' := [_, _, _, _, _]) (fun _ m => m) <| hthen <| hseq <| hreg <| hy (fun _ => y_assign rfl) <| hend <| hthen <| hseq <| hseq <| hreg <| hy (fun _ => y_move rfl) <| hend <| hthen <| ?_
      rw [q2] at hE4 ⊢
      rcases q3 with ⟨rfl, q3⟩ | ⟨rfl, q3⟩
      · skip
        refine hifb rfl (fun htw => ?_) (fun htw => ?_)
        · rw [htw, need1] at q3
          refine hreg <| hy (fun _ => y_assign rfl) <| hend <| hthen <| hseq <| hseq <| hreg <| hy (fun _ => y_move rfl) <| hy (fun _ => yT (y_eql rfl rfl) (rfl)) <| hy (fun _ => y_move rfl) <| hy (fun _ => y_move rfl) <| hy (fun _ => yT (y_geq rfl rfl) ((decide_eq_true (by omega)))) <| hy (fun _ => yF (y_bne Tryd.underlying4 rfl rfl) (rfl)) <| hy (fun _ => y_move rfl) <| hyg (o := _) rfl rfl rfl (fun _ => y_move rfl) <| hyg (o := _) rfl rfl rfl (fun _ => yF (y_neq rfl rfl) (rfl)) <| hyg (o := _) rfl rfl rfl (fun _ => y_move rfl) <| hskip rfl rfl rfl (by decide) <| hskip rfl rfl rfl (by decide) <| hyg (o := _) rfl rfl rfl (fun _ => y_pickF rfl rfl) <| hy (fun _ => y_pickF rfl rfl) <| hend <| hsub (ρ' := [(118, _), (23, _), (104, _), (22, _), (93, _), (21, _), (19, _), (40, _), (14, _), (13, _), (12, _), (34, _), (11, _), (0, _), (1, _), (2, _), (3, _), (4, _)]) ⟨rfl, rfl, rfl, rfl, rfl, rfl, rfl, rfl, rfl, rfl, rfl, rfl, rfl, rfl, rfl, rfl, rfl, rfl, trivial⟩ <| hthen <| ?_
          refine hiff rfl (rfl) ?_
          refine hmemC (fun w m => m.asV 3 rfl (View.takeV (k := min mk 20) (Nat.min_le_left _ _))) ?_
          refine hfactC (fun m => rdX (m.rd 0 rfl)) ?_
          rintro ⟨hl_rf, hA_rf⟩
          rw [hbt]
          obtain ⟨sq, gg, qq, hS, hW, hq, h00, hgen⟩ := hF.re (bs.take (min mk 20))
          refine hcskip <| hthen <| hseq <| hdrwB [1, 1, 1] [0, 1, 2, 3, 4, 5] rfl rfl [9] [(0, some 0), (1, some 0), (2, some 0), (3, some 0), (4, some 0), (5, some 0), (6, some 0), (7, some 0), (8, some 0), (9, none)] (by kernel_rfl) (by kernel_rfl) rfl 99 <| htyU (y_move rfl) <| htyU (y_nilp rfl) <| htyU (y_fld rfl fa64_0 (by decide)) <| hty (fun m => y_ld1 rfl ag58 (ld_blk (m.blk 2 rfl) (i := 0) rfl)) <| htyU (y_move rfl) <| htyU (y_move rfl) <| htyU (y_lenS rfl Tryd.underlying72) <| htyU (y_min rfl rfl) <| htyU (y_slTo rfl rfl Tryd.underlying72 sz4 (show ((min mk 20 : Nat) : Int) = _ by omega) (by omega)) <| ?_
          refine htx (xh_call rfl Tryd.call33 (drestartC hE4 (by omega) hF.nr (by omega)) [0] rfl [0] rfl ?_)
          rintro _ _ _ ⟨st14, rfl, rfl, rfl, hE5⟩
          refine ⟨(fun _ => wk [1, 1, 1] [0, 1, 2, 3, 4, 5] rfl rfl), ?_⟩
          refine htend <| hsub (ρ' := [(118, _), (23, _), (104, _), (22, _), (93, _), (21, _), (19, _), (40, _), (14, _), (13, _), (12, _), (34, _), (11, _), (0, _), (1, _), (2, _), (3, _), (4, _)]) ⟨rfl, rfl, rfl, rfl, rfl, rfl, rfl, rfl, rfl, rfl, rfl, rfl, rfl, rfl, rfl, rfl, rfl, rfl, trivial⟩ <| hmemQ (X' := [_, _, _, _]) (S' := [_, _, _, _, _, _]) (fun _ m => m) <| hthen <| hseq <| hreg <| hy (fun _ => y_move rfl) <| hy (fun _ => y_nilp rfl) <| hy (fun _ => y_fld rfl fa64_0 (by decide)) <| hy (fun m => y_ld1 rfl ag58 (ld_blk (m.blk 3 rfl) (i := 0) rfl)) <| ?_
          refine hx (xh_call rfl Tryd.call30 (activeSC hE5) [0] rfl [5] rfl ?_)
          rintro _ _ _ ⟨v3, rfl, rfl, rfl⟩
          refine hfactL (fun m => (m.own 1 rfl).slice) ?_
          rintro ⟨A_x3, c_x3, rfl, hc_x3⟩
          refine hfactL (fun m => (m.ord 1 rfl).2.1) fun hA_x3 => ?_
          refine hy (fun _ => y_move rfl) <| hy (fun _ => y_extract rfl rfl) <| hy (fun _ => y_extract rfl rfl) <| hy (fun _ => y_assign rfl) <| hy (fun _ => y_assign rfl) <| hend <| hsub (ρ' := [(25, _), (24, _), (118, _), (23, _), (104, _), (22, _), (93, _), (21, _), (19, _), (40, _), (14, _), (13, _), (12, _), (34, _), (11, _), (0, _), (1, _), (2, _), (3, _), (4, _)]) ⟨rfl, rfl, rfl, rfl, rfl, rfl, rfl, rfl, rfl, rfl, rfl, rfl, rfl, rfl, rfl, rfl, rfl, rfl, rfl, rfl, trivial⟩ <| hmemQ (X' := [_, _, _, _, _]) (S' := [_, _, _, _, _, _]) (fun _ m => m) <| hthen <| hseq <| hseq <| hreg <| ?_
          rw [hS.whole hW]
          refine hy (fun _ => y_move rfl) <| hy (fun _ => yF (y_neq rfl rfl) (rfl)) <| hy (fun _ => y_move rfl) <| hyg (o := _) rfl rfl rfl (fun _ => y_move rfl) <| hyg (o := _) rfl rfl rfl (fun m => y_b2s rfl Tryd.underlying32 Tryd.underlying5 Tryd.underlying9 (m.ord 1 rfl)) <| hyg (o := _) rfl rfl rfl (fun _ => y_move rfl) <| hyg (o := _) rfl rfl rfl (fun m => y_b2s rfl Tryd.underlying32 Tryd.underlying5 Tryd.underlying9 (m.ord 3 rfl)) <| ?_
          by_cases hqx : qq = X0
          · refine hyg (o := _) rfl rfl rfl (fun _ => yF (y_sne rfl rfl) ((decide_eq_false (fun h => h (congrArg strOf hqx))))) <| hyg (o := _) rfl rfl rfl (fun _ => y_move rfl) <| hskip rfl rfl rfl (by decide) <| hskip rfl rfl rfl (by decide) <| hskip rfl rfl rfl (by decide) <| hskip rfl rfl rfl (by decide) <| hskip rfl rfl rfl (by decide) <| hyg (o := _) rfl rfl rfl (fun _ => y_pickF rfl rfl) <| hy (fun _ => y_pickF rfl rfl) <| hy (fun _ => y_move rfl) <| hyg (o := _) rfl rfl rfl (fun _ => y_move rfl) <| hyg (o := _) rfl rfl rfl (fun _ => yT (y_eql rfl rfl) (rfl)) <| hyg (o := _) rfl rfl rfl (fun _ => y_move rfl) <| hyg (o := _) rfl rfl rfl (fun _ => y_move rfl) <| hyg (o := _) rfl rfl rfl (fun m => y_b2s rfl Tryd.underlying32 Tryd.underlying5 Tryd.underlying9 (m.ord 1 rfl)) <| hyg (o := _) rfl rfl rfl (fun _ => y_move rfl) <| hyg (o := _) rfl rfl rfl (fun m => y_b2s rfl Tryd.underlying32 Tryd.underlying5 Tryd.underlying9 (m.ord 2 rfl)) <| hyg (o := _) rfl rfl rfl (fun _ => yF (y_sne rfl rfl) ((decide_eq_false (fun h => h (congrArg strOf (h00 rfl)))))) <| hyg (o := _) rfl rfl rfl (fun _ => y_pickT rfl rfl) <| hy (fun _ => y_pickF rfl rfl) <| hend <| hsub (ρ' := [(163, _), (25, _), (24, _), (118, _), (23, _), (104, _), (22, _), (93, _), (21, _), (19, _), (40, _), (14, _), (13, _), (12, _), (34, _), (11, _), (0, _), (1, _), (2, _), (3, _), (4, _)]) ⟨rfl, rfl, rfl, rfl, rfl, rfl, rfl, rfl, rfl, rfl, rfl, rfl, rfl, rfl, rfl, rfl, rfl, rfl, rfl, rfl, rfl, trivial⟩ <| hthen <| ?_
            refine hiff rfl (rfl) ?_
            obtain ⟨d3, d4, i3, j3, k1, k2, k3⟩ := crash_end hS hgen hY40 (by decide)
            refine hcskip <| hthen <| hseq <| hreg <| hy (fun _ => y_move rfl) <| hy (fun _ => y_nilp rfl) <| hy (fun _ => y_fld rfl fa64_0 (by decide)) <| hy (fun m => y_ld1 rfl ag58 (ld_blk (m.blk 4 rfl) (i := 0) rfl)) <| hy (fun _ => y_move rfl) <| ?_
            refine hx (xh_calll rfl Tryd.call27 (stageSC hYl hE5 (by omega) (bb := Y0)) [0] rfl (.x 1 rfl .own .nil) ?_)
            rintro _ _ _ ⟨st15, rfl, rfl, rfl, hE6⟩
            refine ⟨rfl, ?_⟩
            refine hy (fun _ => y_move rfl) <| hy (fun _ => y_extract rfl rfl) <| hy (fun _ => y_extract rfl rfl) <| hy (fun _ => y_assign rfl) <| hy (fun _ => y_assign rfl) <| hend <| hsub (ρ' := [(27, _), (163, _), (25, _), (24, _), (118, _), (23, _), (104, _), (22, _), (93, _), (21, _), (19, _), (40, _), (14, _), (13, _), (12, _), (34, _), (11, _), (0, _), (1, _), (2, _), (3, _), (4, _)]) ⟨rfl, rfl, rfl, rfl, rfl, rfl, rfl, rfl, rfl, rfl, rfl, rfl, rfl, rfl, rfl, rfl, rfl, rfl, rfl, rfl, rfl, rfl, trivial⟩ <| hmemQ (X' := [_, _, _, _, _]) (S' := [_, _, _, _, _, _]) (fun _ m => m) <| hthen <| hseq <| hdrw [5, 6] [(0, some 1), (1, some 1), (2, some 1), (3, some 1), (4, some 0), (5, none), (6, none), (7, some 2), (8, some 2), (9, some 2), (10, some 2), (11, some 2)] (by kernel_rfl) (by kernel_rfl) rfl 1 <| ?_
            rw [k1] at hE6 ⊢
            refine htyU (y_move rfl) <| htyU (y_nilp rfl) <| htyU (y_fld rfl fa64_0 (by decide)) <| hty (fun m => y_ld1 rfl ag58 (ld_blk (m.blk 4 rfl) (i := 0) rfl)) <| htyU (y_move rfl) <| ?_
            refine htx (xh_calll rfl Tryd.call29 (rshaSumC (by omega)) [] rfl (.x 2 rfl .own .nil) ?_)
            rintro _ _ _ ⟨rfl, rfl, rfl⟩
            refine ⟨rfl, ?_⟩
            refine ⟨(fun _ => wk [0, 0, 0, 0, 0] [0, 1, 2, 3, 4, 5] rfl rfl), ?_⟩
            refine htx (xh_call rfl Tryd.call28 (flipSC (shaL_length _) hE6 (by omega)) [0] rfl [5] rfl ?_)
            rintro _ _ _ ⟨st16, rfl, rfl, rfl, hE7⟩
            refine ⟨(fun h => absurd h (by decide)), ?_⟩
            refine htyU (y_move rfl) <| htyU (y_extract rfl rfl) <| htyU (y_extract rfl rfl) <| htyU (y_assign rfl) <| htyU (y_assign rfl) <| htend <| hsub (ρ' := [(29, _), (27, _), (163, _), (25, _), (24, _), (118, _), (23, _), (104, _), (22, _), (93, _), (21, _), (19, _), (40, _), (14, _), (13, _), (12, _), (34, _), (11, _), (0, _), (1, _), (2, _), (3, _), (4, _)]) ⟨rfl, rfl, rfl, rfl, rfl, rfl, rfl, rfl, rfl, rfl, rfl, rfl, rfl, rfl, rfl, rfl, rfl, rfl, rfl, rfl, rfl, rfl, rfl, trivial⟩ <| hmemQ (X' := [_, _, _, _, _]) (S' := [_, _, _, _, _, _]) (fun _ m => m) <| hthen <| hseq <| hreg <| ?_
            rw [k2] at hE7 ⊢
            refine hy (fun _ => y_move rfl) <| hy (fun _ => y_nilp rfl) <| hy (fun _ => y_fld rfl fa64_0 (by decide)) <| hy (fun m => y_ld1 rfl ag58 (ld_blk (m.blk 4 rfl) (i := 0) rfl)) <| ?_
            refine hx (xh_call rfl Tryd.call30 (activeSC hE7) [0] rfl [5] rfl ?_)
            rintro _ _ _ ⟨v4, rfl, rfl, rfl⟩
            refine hfactL (fun m => (m.own 1 rfl).slice) ?_
            rintro ⟨A_x4, c_x4, rfl, hc_x4⟩
            refine hfactL (fun m => (m.ord 1 rfl).2.1) fun hA_x4 => ?_
            refine hy (fun _ => y_move rfl) <| hy (fun _ => y_extract rfl rfl) <| hy (fun _ => y_extract rfl rfl) <| hy (fun _ => y_assign rfl) <| hy (fun _ => y_assign rfl) <| hend <| hsub (ρ' := [(31, _), (30, _), (29, _), (27, _), (163, _), (25, _), (24, _), (118, _), (23, _), (104, _), (22, _), (93, _), (21, _), (19, _), (40, _), (14, _), (13, _), (12, _), (34, _), (11, _), (0, _), (1, _), (2, _), (3, _), (4, _)]) ⟨rfl, rfl, rfl, rfl, rfl, rfl, rfl, rfl, rfl, rfl, rfl, rfl, rfl, rfl, rfl, rfl, rfl, rfl, rfl, rfl, rfl, rfl, rfl, rfl, rfl, trivial⟩ <| hmemQ (X' := [_, _, _, _, _, _]) (S' := [_, _, _, _, _, _]) (fun _ m => m) <| hthen <| hseq <| hreg <| ?_
            rw [k3]
            refine hy (fun _ => y_move rfl) <| hy (fun _ => y_eql rfl rfl) <| hy (fun _ => y_move rfl) <| hyg (o := _) rfl rfl rfl (fun _ => y_move rfl) <| hyg (o := _) rfl rfl rfl (fun _ => y_eql rfl rfl) <| hy (fun _ => y_pickT rfl rfl) <| hy (fun _ => y_move rfl) <| hyg (o := _) rfl rfl rfl (fun _ => y_move rfl) <| hyg (o := _) rfl rfl rfl (fun _ => y_eql rfl rfl) <| hy (fun _ => y_pickT rfl rfl) <| hy (fun _ => y_move rfl) <| hyg (o := _) rfl rfl rfl (fun _ => y_move rfl) <| hyg (o := _) rfl rfl rfl (fun m => y_b2s rfl Tryd.underlying32 Tryd.underlying5 Tryd.underlying9 (m.ord 1 rfl)) <| hyg (o := _) rfl rfl rfl (fun _ => y_move rfl) <| hyg (o := _) rfl rfl rfl (fun m => y_b2s rfl Tryd.underlying32 Tryd.underlying5 Tryd.underlying9 (m.ord 3 rfl)) <| hyg (o := _) rfl rfl rfl (fun _ => yT (y_seq rfl rfl) ((decide_eq_true rfl))) <| hy (fun _ => y_pickT rfl rfl) <| hy (fun _ => y_move rfl) <| ?_
            refine hxg (o := _) rfl rfl rfl (xh_call rfl Tryd.call20 (lives22C) [] rfl [5] rfl ?_)
            rintro _ _ _ ⟨rfl, rfl, rfl⟩
            refine hy (fun _ => y_pickT rfl rfl) <| hy (fun _ => y_assign rfl) <| hend <| hsub (ρ' := [(10, _), (31, _), (30, _), (29, _), (27, _), (163, _), (25, _), (24, _), (118, _), (23, _), (104, _), (22, _), (93, _), (21, _), (19, _), (40, _), (14, _), (13, _), (12, _), (34, _), (11, _), (0, _), (1, _), (2, _), (3, _), (4, _)]) ⟨rfl, rfl, rfl, rfl, rfl, rfl, rfl, rfl, rfl, rfl, rfl, rfl, rfl, rfl, rfl, rfl, rfl, rfl, rfl, rfl, rfl, rfl, rfl, rfl, rfl, rfl, trivial⟩ <| hmemQ (X' := [_, _, _, _, _, _]) (S' := [_, _, _, _, _, _]) (fun _ m => m) <| hthen <| hret <| ?_
            exact hret1 trivial rfl rfl [] rfl [] rfl ⟨rfl, rfl, rfl⟩
          · refine hyg (o := _) rfl rfl rfl (fun _ => yT (y_sne rfl rfl) ((decide_eq_true (fun h => hqx (by have := congrArg bytesOf h; rwa [bytesOf_strOf, bytesOf_strOf] at this))))) <| hyg (o := _) rfl rfl rfl (fun _ => y_move rfl) <| hyg (o := _) rfl rfl rfl (fun _ => y_move rfl) <| hyg (o := _) rfl rfl rfl (fun m => y_b2s rfl Tryd.underlying32 Tryd.underlying5 Tryd.underlying9 (m.ord 1 rfl)) <| hyg (o := _) rfl rfl rfl (fun _ => y_move rfl) <| hyg (o := _) rfl rfl rfl (fun m => y_b2s rfl Tryd.underlying32 Tryd.underlying5 Tryd.underlying9 (m.ord 2 rfl)) <| hyg (o := _) rfl rfl rfl (fun _ => yF (y_sne rfl rfl) ((decide_eq_false (fun h => h (congrArg strOf (hq.resolve_left hqx)))))) <| hyg (o := _) rfl rfl rfl (fun _ => y_pickT rfl rfl) <| hy (fun _ => y_pickF rfl rfl) <| hy (fun _ => y_move rfl) <| hyg (o := _) rfl rfl rfl (fun _ => y_move rfl) <| hyg (o := _) rfl rfl rfl (fun _ => yT (y_eql rfl rfl) (rfl)) <| hyg (o := _) rfl rfl rfl (fun _ => y_move rfl) <| hyg (o := _) rfl rfl rfl (fun _ => y_move rfl) <| hyg (o := _) rfl rfl rfl (fun m => y_b2s rfl Tryd.underlying32 Tryd.underlying5 Tryd.underlying9 (m.ord 1 rfl)) <| hyg (o := _) rfl rfl rfl (fun _ => y_move rfl) <| hyg (o := _) rfl rfl rfl (fun m => y_b2s rfl Tryd.underlying32 Tryd.underlying5 Tryd.underlying9 (m.ord 2 rfl)) <| hyg (o := _) rfl rfl rfl (fun _ => yF (y_sne rfl rfl) ((decide_eq_false (fun h => h (congrArg strOf (h00 rfl)))))) <| hyg (o := _) rfl rfl rfl (fun _ => y_pickT rfl rfl) <| hy (fun _ => y_pickF rfl rfl) <| hend <| hsub (ρ' := [(163, _), (25, _), (24, _), (118, _), (23, _), (104, _), (22, _), (93, _), (21, _), (19, _), (40, _), (14, _), (13, _), (12, _), (34, _), (11, _), (0, _), (1, _), (2, _), (3, _), (4, _)]) ⟨rfl, rfl, rfl, rfl, rfl, rfl, rfl, rfl, rfl, rfl, rfl, rfl, rfl, rfl, rfl, rfl, rfl, rfl, rfl, rfl, rfl, trivial⟩ <| hthen <| ?_
            refine hiff rfl (rfl) ?_
            obtain ⟨d3, d4, i3, j3, k1, k2, k3⟩ := crash_end hS hgen hY40 (by decide)
            refine hcskip <| hthen <| hseq <| hreg <| hy (fun _ => y_move rfl) <| hy (fun _ => y_nilp rfl) <| hy (fun _ => y_fld rfl fa64_0 (by decide)) <| hy (fun m => y_ld1 rfl ag58 (ld_blk (m.blk 4 rfl) (i := 0) rfl)) <| hy (fun _ => y_move rfl) <| ?_
            refine hx (xh_calll rfl Tryd.call27 (stageSC hYl hE5 (by omega) (bb := Y0)) [0] rfl (.x 1 rfl .own .nil) ?_)
            rintro _ _ _ ⟨st15, rfl, rfl, rfl, hE6⟩
            refine ⟨rfl, ?_⟩
            refine hy (fun _ => y_move rfl) <| hy (fun _ => y_extract rfl rfl) <| hy (fun _ => y_extract rfl rfl) <| hy (fun _ => y_assign rfl) <| hy (fun _ => y_assign rfl) <| hend <| hsub (ρ' := [(27, _), (163, _), (25, _), (24, _), (118, _), (23, _), (104, _), (22, _), (93, _), (21, _), (19, _), (40, _), (14, _), (13, _), (12, _), (34, _), (11, _), (0, _), (1, _), (2, _), (3, _), (4, _)]) ⟨rfl, rfl, rfl, rfl, rfl, rfl, rfl, rfl, rfl, rfl, rfl, rfl, rfl, rfl, rfl, rfl, rfl, rfl, rfl, rfl, rfl, rfl, trivial⟩ <| hmemQ (X' := [_, _, _, _, _]) (S' := [_, _, _, _, _, _]) (fun _ m => m) <| hthen <| hseq <| hdrwB [1, 1, 1, 1] [0, 1, 2, 3, 4, 5] rfl rfl [5, 6] [(0, some 1), (1, some 1), (2, some 1), (3, some 1), (4, some 0), (5, none), (6, none), (7, some 2), (8, some 2), (9, some 2), (10, some 2), (11, some 2)] (by kernel_rfl) (by kernel_rfl) rfl 99 <| ?_
            rw [k1] at hE6 ⊢
            refine htyU (y_move rfl) <| htyU (y_nilp rfl) <| htyU (y_fld rfl fa64_0 (by decide)) <| hty (fun m => y_ld1 rfl ag58 (ld_blk (m.blk 3 rfl) (i := 0) rfl)) <| htyU (y_move rfl) <| ?_
            refine htx (xh_calll rfl Tryd.call29 (rshaSumC (by omega)) [] rfl (.x 2 rfl .own .nil) ?_)
            rintro _ _ _ ⟨rfl, rfl, rfl⟩
            refine ⟨rfl, ?_⟩
            refine ⟨(fun _ => wk [1, 1, 1, 1] [0, 1, 2, 3, 4, 5] rfl rfl), ?_⟩
            refine htx (xh_call rfl Tryd.call28 (flipSC (shaL_length _) hE6 (by omega)) [0] rfl [5] rfl ?_)
            rintro _ _ _ ⟨st16, rfl, rfl, rfl, hE7⟩
            refine ⟨(fun _ => wk [1, 1, 1, 1] [0, 1, 2, 3, 4, 5] rfl rfl), ?_⟩
            refine htyU (y_move rfl) <| htyU (y_extract rfl rfl) <| htyU (y_extract rfl rfl) <| htyU (y_assign rfl) <| htyU (y_assign rfl) <| htend <| hsub (ρ' := [(29, _), (27, _), (163, _), (25, _), (24, _), (118, _), (23, _), (104, _), (22, _), (93, _), (21, _), (19, _), (40, _), (14, _), (13, _), (12, _), (34, _), (11, _), (0, _), (1, _), (2, _), (3, _), (4, _)]) ⟨rfl, rfl, rfl, rfl, rfl, rfl, rfl, rfl, rfl, rfl, rfl, rfl, rfl, rfl, rfl, rfl, rfl, rfl, rfl, rfl, rfl, rfl, rfl, trivial⟩ <| hmemQ (X' := [_, _, _, _, _]) (S' := [_, _, _, _, _, _]) (fun _ m => m) <| hthen <| hseq <| hreg <| ?_
            rw [k2] at hE7 ⊢
            refine hy (fun _ => y_move rfl) <| hy (fun _ => y_nilp rfl) <| hy (fun _ => y_fld rfl fa64_0 (by decide)) <| hy (fun m => y_ld1 rfl ag58 (ld_blk (m.blk 4 rfl) (i := 0) rfl)) <| ?_
            refine hx (xh_call rfl Tryd.call30 (activeSC hE7) [0] rfl [5] rfl ?_)
            rintro _ _ _ ⟨v4, rfl, rfl, rfl⟩
            refine hfactL (fun m => (m.own 1 rfl).slice) ?_
            rintro ⟨A_x4, c_x4, rfl, hc_x4⟩
            refine hfactL (fun m => (m.ord 1 rfl).2.1) fun hA_x4 => ?_
            refine hy (fun _ => y_move rfl) <| hy (fun _ => y_extract rfl rfl) <| hy (fun _ => y_extract rfl rfl) <| hy (fun _ => y_assign rfl) <| hy (fun _ => y_assign rfl) <| hend <| hsub (ρ' := [(31, _), (30, _), (29, _), (27, _), (163, _), (25, _), (24, _), (118, _), (23, _), (104, _), (22, _), (93, _), (21, _), (19, _), (40, _), (14, _), (13, _), (12, _), (34, _), (11, _), (0, _), (1, _), (2, _), (3, _), (4, _)]) ⟨rfl, rfl, rfl, rfl, rfl, rfl, rfl, rfl, rfl, rfl, rfl, rfl, rfl, rfl, rfl, rfl, rfl, rfl, rfl, rfl, rfl, rfl, rfl, rfl, rfl, trivial⟩ <| hmemQ (X' := [_, _, _, _, _, _]) (S' := [_, _, _, _, _, _]) (fun _ m => m) <| hthen <| hseq <| hreg <| ?_
            rw [k3]
            refine hy (fun _ => y_move rfl) <| hy (fun _ => y_eql rfl rfl) <| hy (fun _ => y_move rfl) <| hyg (o := _) rfl rfl rfl (fun _ => y_move rfl) <| hyg (o := _) rfl rfl rfl (fun _ => y_eql rfl rfl) <| hy (fun _ => y_pickT rfl rfl) <| hy (fun _ => y_move rfl) <| hyg (o := _) rfl rfl rfl (fun _ => y_move rfl) <| hyg (o := _) rfl rfl rfl (fun _ => y_eql rfl rfl) <| hy (fun _ => y_pickT rfl rfl) <| hy (fun _ => y_move rfl) <| hyg (o := _) rfl rfl rfl (fun _ => y_move rfl) <| hyg (o := _) rfl rfl rfl (fun m => y_b2s rfl Tryd.underlying32 Tryd.underlying5 Tryd.underlying9 (m.ord 1 rfl)) <| hyg (o := _) rfl rfl rfl (fun _ => y_move rfl) <| hyg (o := _) rfl rfl rfl (fun m => y_b2s rfl Tryd.underlying32 Tryd.underlying5 Tryd.underlying9 (m.ord 3 rfl)) <| hyg (o := _) rfl rfl rfl (fun _ => yT (y_seq rfl rfl) ((decide_eq_true rfl))) <| hy (fun _ => y_pickT rfl rfl) <| hy (fun _ => y_move rfl) <| ?_
            refine hxg (o := _) rfl rfl rfl (xh_call rfl Tryd.call20 (lives22C) [] rfl [5] rfl ?_)
            rintro _ _ _ ⟨rfl, rfl, rfl⟩
            refine hy (fun _ => y_pickT rfl rfl) <| hy (fun _ => y_assign rfl) <| hend <| hsub (ρ' := [(10, _), (31, _), (30, _), (29, _), (27, _), (163, _), (25, _), (24, _), (118, _), (23, _), (104, _), (22, _), (93, _), (21, _), (19, _), (40, _), (14, _), (13, _), (12, _), (34, _), (11, _), (0, _), (1, _), (2, _), (3, _), (4, _)]) ⟨rfl, rfl, rfl, rfl, rfl, rfl, rfl, rfl, rfl, rfl, rfl, rfl, rfl, rfl, rfl, rfl, rfl, rfl, rfl, rfl, rfl, rfl, rfl, rfl, rfl, rfl, trivial⟩ <| hmemQ (X' := [_, _, _, _, _, _]) (S' := [_, _, _, _, _, _]) (fun _ m => m) <| hthen <| hret <| ?_
            exact hret1 trivial rfl rfl [] rfl [] rfl ⟨rfl, rfl, rfl⟩
        · rw [htw, need0] at q3
          refine hcskip <| hthen <| hseq <| hseq <| hreg <| hy (fun _ => y_move rfl) <| hy (fun _ => yT (y_eql rfl rfl) (rfl)) <| hy (fun _ => y_move rfl) <| hy (fun _ => y_move rfl) <| hy (fun _ => yT (y_geq rfl rfl) ((decide_eq_true (by omega)))) <| hy (fun _ => yF (y_bne Tryd.underlying4 rfl rfl) (rfl)) <| hy (fun _ => y_move rfl) <| hyg (o := _) rfl rfl rfl (fun _ => y_move rfl) <| hyg (o := _) rfl rfl rfl (fun _ => yF (y_neq rfl rfl) (rfl)) <| hyg (o := _) rfl rfl rfl (fun _ => y_move rfl) <| hskip rfl rfl rfl (by decide) <| hskip rfl rfl rfl (by decide) <| hyg (o := _) rfl rfl rfl (fun _ => y_pickF rfl rfl) <| hy (fun _ => y_pickF rfl rfl) <| hend <| hsub (ρ' := [(118, _), (104, _), (23, _), (22, _), (93, _), (21, _), (19, _), (40, _), (14, _), (13, _), (12, _), (34, _), (11, _), (0, _), (1, _), (2, _), (3, _), (4, _)]) ⟨rfl, rfl, rfl, rfl, rfl, rfl, rfl, rfl, rfl, rfl, rfl, rfl, rfl, rfl, rfl, rfl, rfl, rfl, trivial⟩ <| hthen <| ?_
          refine hiff rfl (rfl) ?_
          refine hmemC (fun w m => m.asV 3 rfl (View.takeV (k := min mk 20) (Nat.min_le_left _ _))) ?_
          refine hfactC (fun m => rdX (m.rd 0 rfl)) ?_
          rintro ⟨hl_rf, hA_rf⟩
          rw [hbt]
          obtain ⟨sq, gg, qq, hS, hW, hq, h00, hgen⟩ := hF.re (bs.take (min mk 20))
          refine hcskip <| hthen <| hseq <| hdrwB [1, 1, 1] [0, 1, 2, 3, 4, 5] rfl rfl [9] [(0, some 0), (1, some 0), (2, some 0), (3, some 0), (4, some 0), (5, some 0), (6, some 0), (7, some 0), (8, some 0), (9, none)] (by kernel_rfl) (by kernel_rfl) rfl 99 <| htyU (y_move rfl) <| htyU (y_nilp rfl) <| htyU (y_fld rfl fa64_0 (by decide)) <| hty (fun m => y_ld1 rfl ag58 (ld_blk (m.blk 2 rfl) (i := 0) rfl)) <| htyU (y_move rfl) <| htyU (y_move rfl) <| htyU (y_lenS rfl Tryd.underlying72) <| htyU (y_min rfl rfl) <| htyU (y_slTo rfl rfl Tryd.underlying72 sz4 (show ((min mk 20 : Nat) : Int) = _ by omega) (by omega)) <| ?_
          refine htx (xh_call rfl Tryd.call33 (drestartC hE4 (by omega) hF.nr (by omega)) [0] rfl [0] rfl ?_)
          rintro _ _ _ ⟨st14, rfl, rfl, rfl, hE5⟩
          refine ⟨(fun _ => wk [1, 1, 1] [0, 1, 2, 3, 4, 5] rfl rfl), ?_⟩
          refine htend <| hsub (ρ' := [(118, _), (104, _), (23, _), (22, _), (93, _), (21, _), (19, _), (40, _), (14, _), (13, _), (12, _), (34, _), (11, _), (0, _), (1, _), (2, _), (3, _), (4, _)]) ⟨rfl, rfl, rfl, rfl, rfl, rfl, rfl, rfl, rfl, rfl, rfl, rfl, rfl, rfl, rfl, rfl, rfl, rfl, trivial⟩ <| hmemQ (X' := [_, _, _, _]) (S' := [_, _, _, _, _, _]) (fun _ m => m) <| hthen <| hseq <| hreg <| hy (fun _ => y_move rfl) <| hy (fun _ => y_nilp rfl) <| hy (fun _ => y_fld rfl fa64_0 (by decide)) <| hy (fun m => y_ld1 rfl ag58 (ld_blk (m.blk 3 rfl) (i := 0) rfl)) <| ?_
          refine hx (xh_call rfl Tryd.call30 (activeSC hE5) [0] rfl [5] rfl ?_)
          rintro _ _ _ ⟨v3, rfl, rfl, rfl⟩
          refine hfactL (fun m => (m.own 1 rfl).slice) ?_
          rintro ⟨A_x3, c_x3, rfl, hc_x3⟩
          refine hfactL (fun m => (m.ord 1 rfl).2.1) fun hA_x3 => ?_
          refine hy (fun _ => y_move rfl) <| hy (fun _ => y_extract rfl rfl) <| hy (fun _ => y_extract rfl rfl) <| hy (fun _ => y_assign rfl) <| hy (fun _ => y_assign rfl) <| hend <| hsub (ρ' := [(25, _), (24, _), (118, _), (104, _), (23, _), (22, _), (93, _), (21, _), (19, _), (40, _), (14, _), (13, _), (12, _), (34, _), (11, _), (0, _), (1, _), (2, _), (3, _), (4, _)]) ⟨rfl, rfl, rfl, rfl, rfl, rfl, rfl, rfl, rfl, rfl, rfl, rfl, rfl, rfl, rfl, rfl, rfl, rfl, rfl, rfl, trivial⟩ <| hmemQ (X' := [_, _, _, _, _]) (S' := [_, _, _, _, _, _]) (fun _ m => m) <| hthen <| hseq <| hseq <| hreg <| ?_
          rw [hS.whole hW]
          refine hy (fun _ => y_move rfl) <| hy (fun _ => yF (y_neq rfl rfl) (rfl)) <| hy (fun _ => y_move rfl) <| hyg (o := _) rfl rfl rfl (fun _ => y_move rfl) <| hyg (o := _) rfl rfl rfl (fun m => y_b2s rfl Tryd.underlying32 Tryd.underlying5 Tryd.underlying9 (m.ord 1 rfl)) <| hyg (o := _) rfl rfl rfl (fun _ => y_move rfl) <| hyg (o := _) rfl rfl rfl (fun m => y_b2s rfl Tryd.underlying32 Tryd.underlying5 Tryd.underlying9 (m.ord 3 rfl)) <| ?_
          by_cases hqx : qq = X0
          · refine hyg (o := _) rfl rfl rfl (fun _ => yF (y_sne rfl rfl) ((decide_eq_false (fun h => h (congrArg strOf hqx))))) <| hyg (o := _) rfl rfl rfl (fun _ => y_move rfl) <| hskip rfl rfl rfl (by decide) <| hskip rfl rfl rfl (by decide) <| hskip rfl rfl rfl (by decide) <| hskip rfl rfl rfl (by decide) <| hskip rfl rfl rfl (by decide) <| hyg (o := _) rfl rfl rfl (fun _ => y_pickF rfl rfl) <| hy (fun _ => y_pickF rfl rfl) <| hy (fun _ => y_move rfl) <| hyg (o := _) rfl rfl rfl (fun _ => y_move rfl) <| hyg (o := _) rfl rfl rfl (fun _ => yT (y_eql rfl rfl) (rfl)) <| hyg (o := _) rfl rfl rfl (fun _ => y_move rfl) <| hyg (o := _) rfl rfl rfl (fun _ => y_move rfl) <| hyg (o := _) rfl rfl rfl (fun m => y_b2s rfl Tryd.underlying32 Tryd.underlying5 Tryd.underlying9 (m.ord 1 rfl)) <| hyg (o := _) rfl rfl rfl (fun _ => y_move rfl) <| hyg (o := _) rfl rfl rfl (fun m => y_b2s rfl Tryd.underlying32 Tryd.underlying5 Tryd.underlying9 (m.ord 2 rfl)) <| hyg (o := _) rfl rfl rfl (fun _ => yF (y_sne rfl rfl) ((decide_eq_false (fun h => h (congrArg strOf (h00 rfl)))))) <| hyg (o := _) rfl rfl rfl (fun _ => y_pickT rfl rfl) <| hy (fun _ => y_pickF rfl rfl) <| hend <| hsub (ρ' := [(163, _), (25, _), (24, _), (118, _), (104, _), (23, _), (22, _), (93, _), (21, _), (19, _), (40, _), (14, _), (13, _), (12, _), (34, _), (11, _), (0, _), (1, _), (2, _), (3, _), (4, _)]) ⟨rfl, rfl, rfl, rfl, rfl, rfl, rfl, rfl, rfl, rfl, rfl, rfl, rfl, rfl, rfl, rfl, rfl, rfl, rfl, rfl, rfl, trivial⟩ <| hthen <| ?_
            refine hiff rfl (rfl) ?_
            obtain ⟨d3, d4, i3, j3, k1, k2, k3⟩ := crash_end hS hgen hY40 (by decide)
            refine hcskip <| hthen <| hseq <| hreg <| hy (fun _ => y_move rfl) <| hy (fun _ => y_nilp rfl) <| hy (fun _ => y_fld rfl fa64_0 (by decide)) <| hy (fun m => y_ld1 rfl ag58 (ld_blk (m.blk 4 rfl) (i := 0) rfl)) <| hy (fun _ => y_move rfl) <| ?_
            refine hx (xh_calll rfl Tryd.call27 (stageSC hYl hE5 (by omega) (bb := Y0)) [0] rfl (.x 1 rfl .own .nil) ?_)
            rintro _ _ _ ⟨st15, rfl, rfl, rfl, hE6⟩
            refine ⟨rfl, ?_⟩
            refine hy (fun _ => y_move rfl) <| hy (fun _ => y_extract rfl rfl) <| hy (fun _ => y_extract rfl rfl) <| hy (fun _ => y_assign rfl) <| hy (fun _ => y_assign rfl) <| hend <| hsub (ρ' := [(27, _), (163, _), (25, _), (24, _), (118, _), (104, _), (23, _), (22, _), (93, _), (21, _), (19, _), (40, _), (14, _), (13, _), (12, _), (34, _), (11, _), (0, _), (1, _), (2, _), (3, _), (4, _)]) ⟨rfl, rfl, rfl, rfl, rfl, rfl, rfl, rfl, rfl, rfl, rfl, rfl, rfl, rfl, rfl, rfl, rfl, rfl, rfl, rfl, rfl, rfl, trivial⟩ <| hmemQ (X' := [_, _, _, _, _]) (S' := [_, _, _, _, _, _]) (fun _ m => m) <| hthen <| hseq <| hdrw [5, 6] [(0, some 1), (1, some 1), (2, some 1), (3, some 1), (4, some 0), (5, none), (6, none), (7, some 2), (8, some 2), (9, some 2), (10, some 2), (11, some 2)] (by kernel_rfl) (by kernel_rfl) rfl 1 <| ?_
            rw [k1] at hE6 ⊢
            refine htyU (y_move rfl) <| htyU (y_nilp rfl) <| htyU (y_fld rfl fa64_0 (by decide)) <| hty (fun m => y_ld1 rfl ag58 (ld_blk (m.blk 4 rfl) (i := 0) rfl)) <| htyU (y_move rfl) <| ?_
            refine htx (xh_calll rfl Tryd.call29 (rshaSumC (by omega)) [] rfl (.x 2 rfl .own .nil) ?_)
            rintro _ _ _ ⟨rfl, rfl, rfl⟩
            refine ⟨rfl, ?_⟩
            refine ⟨(fun _ => wk [0, 0, 0, 0, 0] [0, 1, 2, 3, 4, 5] rfl rfl), ?_⟩
            refine htx (xh_call rfl Tryd.call28 (flipSC (shaL_length _) hE6 (by omega)) [0] rfl [5] rfl ?_)
            rintro _ _ _ ⟨st16, rfl, rfl, rfl, hE7⟩
            refine ⟨(fun h => absurd h (by decide)), ?_⟩
            refine htyU (y_move rfl) <| htyU (y_extract rfl rfl) <| htyU (y_extract rfl rfl) <| htyU (y_assign rfl) <| htyU (y_assign rfl) <| htend <| hsub (ρ' := [(29, _), (27, _), (163, _), (25, _), (24, _), (118, _), (104, _), (23, _), (22, _), (93, _), (21, _), (19, _), (40, _), (14, _), (13, _), (12, _), (34, _), (11, _), (0, _), (1, _), (2, _), (3, _), (4, _)]) ⟨rfl, rfl, rfl, rfl, rfl, rfl, rfl, rfl, rfl, rfl, rfl, rfl, rfl, rfl, rfl, rfl, rfl, rfl, rfl, rfl, rfl, rfl, rfl, trivial⟩ <| hmemQ (X' := [_, _, _, _, _]) (S' := [_, _, _, _, _, _]) (fun _ m => m) <| hthen <| hseq <| hreg <| ?_
            rw [k2] at hE7 ⊢
            refine hy (fun _ => y_move rfl) <| hy (fun _ => y_nilp rfl) <| hy (fun _ => y_fld rfl fa64_0 (by decide)) <| hy (fun m => y_ld1 rfl ag58 (ld_blk (m.blk 4 rfl) (i := 0) rfl)) <| ?_
            refine hx (xh_call rfl Tryd.call30 (activeSC hE7) [0] rfl [5] rfl ?_)
            rintro _ _ _ ⟨v4, rfl, rfl, rfl⟩
            refine hfactL (fun m => (m.own 1 rfl).slice) ?_
            rintro ⟨A_x4, c_x4, rfl, hc_x4⟩
            refine hfactL (fun m => (m.ord 1 rfl).2.1) fun hA_x4 => ?_
            refine hy (fun _ => y_move rfl) <| hy (fun _ => y_extract rfl rfl) <| hy (fun _ => y_extract rfl rfl) <| hy (fun _ => y_assign rfl) <| hy (fun _ => y_assign rfl) <| hend <| hsub (ρ' := [(31, _), (30, _), (29, _), (27, _), (163, _), (25, _), (24, _), (118, _), (104, _), (23, _), (22, _), (93, _), (21, _), (19, _), (40, _), (14, _), (13, _), (12, _), (34, _), (11, _), (0, _), (1, _), (2, _), (3, _), (4, _)]) ⟨rfl, rfl, rfl, rfl, rfl, rfl, rfl, rfl, rfl, rfl, rfl, rfl, rfl, rfl, rfl, rfl, rfl, rfl, rfl, rfl, rfl, rfl, rfl, rfl, rfl, trivial⟩ <| hmemQ (X' := [_, _, _, _, _, _]) (S' := [_, _, _, _, _, _]) (fun _ m => m) <| hthen <| hseq <| hreg <| ?_
            rw [k3]
            refine hy (fun _ => y_move rfl) <| hy (fun _ => y_eql rfl rfl) <| hy (fun _ => y_move rfl) <| hyg (o := _) rfl rfl rfl (fun _ => y_move rfl) <| hyg (o := _) rfl rfl rfl (fun _ => y_eql rfl rfl) <| hy (fun _ => y_pickT rfl rfl) <| hy (fun _ => y_move rfl) <| hyg (o := _) rfl rfl rfl (fun _ => y_move rfl) <| hyg (o := _) rfl rfl rfl (fun _ => y_eql rfl rfl) <| hy (fun _ => y_pickT rfl rfl) <| hy (fun _ => y_move rfl) <| hyg (o := _) rfl rfl rfl (fun _ => y_move rfl) <| hyg (o := _) rfl rfl rfl (fun m => y_b2s rfl Tryd.underlying32 Tryd.underlying5 Tryd.underlying9 (m.ord 1 rfl)) <| hyg (o := _) rfl rfl rfl (fun _ => y_move rfl) <| hyg (o := _) rfl rfl rfl (fun m => y_b2s rfl Tryd.underlying32 Tryd.underlying5 Tryd.underlying9 (m.ord 3 rfl)) <| hyg (o := _) rfl rfl rfl (fun _ => yT (y_seq rfl rfl) ((decide_eq_true rfl))) <| hy (fun _ => y_pickT rfl rfl) <| hy (fun _ => y_move rfl) <| ?_
            refine hxg (o := _) rfl rfl rfl (xh_call rfl Tryd.call20 (lives22C) [] rfl [5] rfl ?_)
            rintro _ _ _ ⟨rfl, rfl, rfl⟩
            refine hy (fun _ => y_pickT rfl rfl) <| hy (fun _ => y_assign rfl) <| hend <| hsub (ρ' := [(10, _), (31, _), (30, _), (29, _), (27, _), (163, _), (25, _), (24, _), (118, _), (104, _), (23, _), (22, _), (93, _), (21, _), (19, _), (40, _), (14, _), (13, _), (12, _), (34, _), (11, _), (0, _), (1, _), (2, _), (3, _), (4, _)]) ⟨rfl, rfl, rfl, rfl, rfl, rfl, rfl, rfl, rfl, rfl, rfl, rfl, rfl, rfl, rfl, rfl, rfl, rfl, rfl, rfl, rfl, rfl, rfl, rfl, rfl, rfl, trivial⟩ <| hmemQ (X' := [_, _, _, _, _, _]) (S' := [_, _, _, _, _, _]) (fun _ m => m) <| hthen <| hret <| ?_
            exact hret1 trivial rfl rfl [] rfl [] rfl ⟨rfl, rfl, rfl⟩
          · refine hyg (o := _) rfl rfl rfl (fun _ => yT (y_sne rfl rfl) ((decide_eq_true (fun h => hqx (by have := congrArg bytesOf h; rwa [bytesOf_strOf, bytesOf_strOf] at this))))) <| hyg (o := _) rfl rfl rfl (fun _ => y_move rfl) <| hyg (o := _) rfl rfl rfl (fun _ => y_move rfl) <| hyg (o := _) rfl rfl rfl (fun m => y_b2s rfl Tryd.underlying32 Tryd.underlying5 Tryd.underlying9 (m.ord 1 rfl)) <| hyg (o := _) rfl rfl rfl (fun _ => y_move rfl) <| hyg (o := _) rfl rfl rfl (fun m => y_b2s rfl Tryd.underlying32 Tryd.underlying5 Tryd.underlying9 (m.ord 2 rfl)) <| hyg (o := _) rfl rfl rfl (fun _ => yF (y_sne rfl rfl) ((decide_eq_false (fun h => h (congrArg strOf (hq.resolve_left hqx)))))) <| hyg (o := _) rfl rfl rfl (fun _ => y_pickT rfl rfl) <| hy (fun _ => y_pickF rfl rfl) <| hy (fun _ => y_move rfl) <| hyg (o := _) rfl rfl rfl (fun _ => y_move rfl) <| hyg (o := _) rfl rfl rfl (fun _ => yT (y_eql rfl rfl) (rfl)) <| hyg (o := _) rfl rfl rfl (fun _ => y_move rfl) <| hyg (o := _) rfl rfl rfl (fun _ => y_move rfl) <| hyg (o := _) rfl rfl rfl (fun m => y_b2s rfl Tryd.underlying32 Tryd.underlying5 Tryd.underlying9 (m.ord 1 rfl)) <| hyg (o := _) rfl rfl rfl (fun _ => y_move rfl) <| hyg (o := _) rfl rfl rfl (fun m => y_b2s rfl Tryd.underlying32 Tryd.underlying5 Tryd.underlying9 (m.ord 2 rfl)) <| hyg (o := _) rfl rfl rfl (fun _ => yF (y_sne rfl rfl) ((decide_eq_false (fun h => h (congrArg strOf (h00 rfl)))))) <| hyg (o := _) rfl rfl rfl (fun _ => y_pickT rfl rfl) <| hy (fun _ => y_pickF rfl rfl) <| hend <| hsub (ρ' := [(163, _), (25, _), (24, _), (118, _), (104, _), (23, _), (22, _), (93, _), (21, _), (19, _), (40, _), (14, _), (13, _), (12, _), (34, _), (11, _), (0, _), (1, _), (2, _), (3, _), (4, _)]) ⟨rfl, rfl, rfl, rfl, rfl, rfl, rfl, rfl, rfl, rfl, rfl, rfl, rfl, rfl, rfl, rfl, rfl, rfl, rfl, rfl, rfl, trivial⟩ <| hthen <| ?_
            refine hiff rfl (rfl) ?_
            obtain ⟨d3, d4, i3, j3, k1, k2, k3⟩ := crash_end hS hgen hY40 (by decide)
            refine hcskip <| hthen <| hseq <| hreg <| hy (fun _ => y_move rfl) <| hy (fun _ => y_nilp rfl) <| hy (fun _ => y_fld rfl fa64_0 (by decide)) <| hy (fun m => y_ld1 rfl ag58 (ld_blk (m.blk 4 rfl) (i := 0) rfl)) <| hy (fun _ => y_move rfl) <| ?_
            refine hx (xh_calll rfl Tryd.call27 (stageSC hYl hE5 (by omega) (bb := Y0)) [0] rfl (.x 1 rfl .own .nil) ?_)
            rintro _ _ _ ⟨st15, rfl, rfl, rfl, hE6⟩
            refine ⟨rfl, ?_⟩
            refine hy (fun _ => y_move rfl) <| hy (fun _ => y_extract rfl rfl) <| hy (fun _ => y_extract rfl rfl) <| hy (fun _ => y_assign rfl) <| hy (fun _ => y_assign rfl) <| hend <| hsub (ρ' := [(27, _), (163, _), (25, _), (24, _), (118, _), (104, _), (23, _), (22, _), (93, _), (21, _), (19, _), (40, _), (14, _), (13, _), (12, _), (34, _), (11, _), (0, _), (1, _), (2, _), (3, _), (4, _)]) ⟨rfl, rfl, rfl, rfl, rfl, rfl, rfl, rfl, rfl, rfl, rfl, rfl, rfl, rfl, rfl, rfl, rfl, rfl, rfl, rfl, rfl, rfl, trivial⟩ <| hmemQ (X' := [_, _, _, _, _]) (S' := [_, _, _, _, _, _]) (fun _ m => m) <| hthen <| hseq <| hdrwB [1, 1, 1, 1] [0, 1, 2, 3, 4, 5] rfl rfl [5, 6] [(0, some 1), (1, some 1), (2, some 1), (3, some 1), (4, some 0), (5, none), (6, none), (7, some 2), (8, some 2), (9, some 2), (10, some 2), (11, some 2)] (by kernel_rfl) (by kernel_rfl) rfl 99 <| ?_
            rw [k1] at hE6 ⊢
            refine htyU (y_move rfl) <| htyU (y_nilp rfl) <| htyU (y_fld rfl fa64_0 (by decide)) <| hty (fun m => y_ld1 rfl ag58 (ld_blk (m.blk 3 rfl) (i := 0) rfl)) <| htyU (y_move rfl) <| ?_
            refine htx (xh_calll rfl Tryd.call29 (rshaSumC (by omega)) [] rfl (.x 2 rfl .own .nil) ?_)
            rintro _ _ _ ⟨rfl, rfl, rfl⟩
            refine ⟨rfl, ?_⟩
            refine ⟨(fun _ => wk [1, 1, 1, 1] [0, 1, 2, 3, 4, 5] rfl rfl), ?_⟩
            refine htx (xh_call rfl Tryd.call28 (flipSC (shaL_length _) hE6 (by omega)) [0] rfl [5] rfl ?_)
            rintro _ _ _ ⟨st16, rfl, rfl, rfl, hE7⟩
            refine ⟨(fun _ => wk [1, 1, 1, 1] [0, 1, 2, 3, 4, 5] rfl rfl), ?_⟩
            refine htyU (y_move rfl) <| htyU (y_extract rfl rfl) <| htyU (y_extract rfl rfl) <| htyU (y_assign rfl) <| htyU (y_assign rfl) <| htend <| hsub (ρ' := [(29, _), (27, _), (163, _), (25, _), (24, _), (118, _), (104, _), (23, _), (22, _), (93, _), (21, _), (19, _), (40, _), (14, _), (13, _), (12, _), (34, _), (11, _), (0, _), (1, _), (2, _), (3, _), (4, _)]) ⟨rfl, rfl, rfl, rfl, rfl, rfl, rfl, rfl, rfl, rfl, rfl, rfl, rfl, rfl, rfl, rfl, rfl, rfl, rfl, rfl, rfl, rfl, rfl, trivial⟩ <| hmemQ (X' := [_, _, _, _, _]) (S' := [_, _, _, _, _, _]) (fun _ m => m) <| hthen <| hseq <| hreg <| ?_
            rw [k2] at hE7 ⊢
            refine hy (fun _ => y_move rfl) <| hy (fun _ => y_nilp rfl) <| hy (fun _ => y_fld rfl fa64_0 (by decide)) <| hy (fun m => y_ld1 rfl ag58 (ld_blk (m.blk 4 rfl) (i := 0) rfl)) <| ?_
            refine hx (xh_call rfl Tryd.call30 (activeSC hE7) [0] rfl [5] rfl ?_)
            rintro _ _ _ ⟨v4, rfl, rfl, rfl⟩
            refine hfactL (fun m => (m.own 1 rfl).slice) ?_
            rintro ⟨A_x4, c_x4, rfl, hc_x4⟩
            refine hfactL (fun m => (m.ord 1 rfl).2.1) fun hA_x4 => ?_
            refine hy (fun _ => y_move rfl) <| hy (fun _ => y_extract rfl rfl) <| hy (fun _ => y_extract rfl rfl) <| hy (fun _ => y_assign rfl) <| hy (fun _ => y_assign rfl) <| hend <| hsub (ρ' := [(31, _), (30, _), (29, _), (27, _), (163, _), (25, _), (24, _), (118, _), (104, _), (23, _), (22, _), (93, _), (21, _), (19, _), (40, _), (14, _), (13, _), (12, _), (34, _), (11, _), (0, _), (1, _), (2, _), (3, _), (4, _)]) ⟨rfl, rfl, rfl, rfl, rfl, rfl, rfl, rfl, rfl, rfl, rfl, rfl, rfl, rfl, rfl, rfl, rfl, rfl, rfl, rfl, rfl, rfl, rfl, rfl, rfl, trivial⟩ <| hmemQ (X' := [_, _, _, _, _, _]) (S' := [_, _, _, _, _, _]) (fun _ m => m) <| hthen <| hseq <| hreg <| ?_
            rw [k3]
            refine hy (fun _ => y_move rfl) <| hy (fun _ => y_eql rfl rfl) <| hy (fun _ => y_move rfl) <| hyg (o := _) rfl rfl rfl (fun _ => y_move rfl) <| hyg (o := _) rfl rfl rfl (fun _ => y_eql rfl rfl) <| hy (fun _ => y_pickT rfl rfl) <| hy (fun _ => y_move rfl) <| hyg (o := _) rfl rfl rfl (fun _ => y_move rfl) <| hyg (o := _) rfl rfl rfl (fun _ => y_eql rfl rfl) <| hy (fun _ => y_pickT rfl rfl) <| hy (fun _ => y_move rfl) <| hyg (o := _) rfl rfl rfl (fun _ => y_move rfl) <| hyg (o := _) rfl rfl rfl (fun m => y_b2s rfl Tryd.underlying32 Tryd.underlying5 Tryd.underlying9 (m.ord 1 rfl)) <| hyg (o := _) rfl rfl rfl (fun _ => y_move rfl) <| hyg (o := _) rfl rfl rfl (fun m => y_b2s rfl Tryd.underlying32 Tryd.underlying5 Tryd.underlying9 (m.ord 3 rfl)) <| hyg (o := _) rfl rfl rfl (fun _ => yT (y_seq rfl rfl) ((decide_eq_true rfl))) <| hy (fun _ => y_pickT rfl rfl) <| hy (fun _ => y_move rfl) <| ?_
            refine hxg (o := _) rfl rfl rfl (xh_call rfl Tryd.call20 (lives22C) [] rfl [5] rfl ?_)
            rintro _ _ _ ⟨rfl, rfl, rfl⟩
            refine hy (fun _ => y_pickT rfl rfl) <| hy (fun _ => y_assign rfl) <| hend <| hsub (ρ' := [(10, _), (31, _), (30, _), (29, _), (27, _), (163, _), (25, _), (24, _), (118, _), (104, _), (23, _), (22, _), (93, _), (21, _), (19, _), (40, _), (14, _), (13, _), (12, _), (34, _), (11, _), (0, _), (1, _), (2, _), (3, _), (4, _)]) ⟨rfl, rfl, rfl, rfl, rfl, rfl, rfl, rfl, rfl, rfl, rfl, rfl, rfl, rfl, rfl, rfl, rfl, rfl, rfl, rfl, rfl, rfl, rfl, rfl, rfl, rfl, trivial⟩ <| hmemQ (X' := [_, _, _, _, _, _]) (S' := [_, _, _, _, _, _]) (fun _ m => m) <| hthen <| hret <| ?_
            exact hret1 trivial rfl rfl [] rfl [] rfl ⟨rfl, rfl, rfl⟩
      · skip
        refine hifb rfl (fun htw => ?_) (fun htw => ?_)
        · rw [htw, need1] at q3
          refine hreg <| hy (fun _ => y_assign rfl) <| hend <| hthen <| hseq <| hseq <| hreg <| hy (fun _ => y_move rfl) <| hy (fun _ => yF (y_eql rfl rfl) (rfl)) <| hy (fun _ => y_move rfl) <| hy (fun _ => y_move rfl) <| hy (fun _ => yF (y_geq rfl rfl) ((decide_eq_false (by omega)))) <| hy (fun _ => yF (y_bne Tryd.underlying4 rfl rfl) (rfl)) <| hy (fun _ => y_move rfl) <| hyg (o := _) rfl rfl rfl (fun _ => y_move rfl) <| hyg (o := _) rfl rfl rfl (fun _ => yT (y_neq rfl rfl) (rfl)) <| hyg (o := _) rfl rfl rfl (fun _ => y_move rfl) <| hyg (o := _) rfl rfl rfl (fun _ => y_move rfl) <| hyg (o := _) rfl rfl rfl (fun _ => yF (y_neq rfl rfl) (rfl)) <| hyg (o := _) rfl rfl rfl (fun _ => y_pickT rfl rfl) <| hy (fun _ => y_pickF rfl rfl) <| hend <| hsub (ρ' := [(118, _), (23, _), (104, _), (22, _), (93, _), (21, _), (19, _), (40, _), (14, _), (13, _), (12, _), (34, _), (11, _), (0, _), (1, _), (2, _), (3, _), (4, _)]) ⟨rfl, rfl, rfl, rfl, rfl, rfl, rfl, rfl, rfl, rfl, rfl, rfl, rfl, rfl, rfl, rfl, rfl, rfl, trivial⟩ <| hthen <| ?_
          refine hiff rfl (rfl) ?_
          refine hmemC (fun w m => m.asV 3 rfl (View.takeV (k := min mk 20) (Nat.min_le_left _ _))) ?_
          refine hfactC (fun m => rdX (m.rd 0 rfl)) ?_
          rintro ⟨hl_rf, hA_rf⟩
          rw [hbt]
          obtain ⟨sq, gg, qq, hS, hW, hq, h00, hgen⟩ := hF.re (bs.take (min mk 20))
          refine hcskip <| hthen <| hseq <| hdrwB [1, 1, 1] [0, 1, 2, 3, 4, 5] rfl rfl [9] [(0, some 0), (1, some 0), (2, some 0), (3, some 0), (4, some 0), (5, some 0), (6, some 0), (7, some 0), (8, some 0), (9, none)] (by kernel_rfl) (by kernel_rfl) rfl 99 <| htyU (y_move rfl) <| htyU (y_nilp rfl) <| htyU (y_fld rfl fa64_0 (by decide)) <| hty (fun m => y_ld1 rfl ag58 (ld_blk (m.blk 2 rfl) (i := 0) rfl)) <| htyU (y_move rfl) <| htyU (y_move rfl) <| htyU (y_lenS rfl Tryd.underlying72) <| htyU (y_min rfl rfl) <| htyU (y_slTo rfl rfl Tryd.underlying72 sz4 (show ((min mk 20 : Nat) : Int) = _ by omega) (by omega)) <| ?_
          refine htx (xh_call rfl Tryd.call33 (drestartC hE4 (by omega) hF.nr (by omega)) [0] rfl [0] rfl ?_)
          rintro _ _ _ ⟨st14, rfl, rfl, rfl, hE5⟩
          refine ⟨(fun _ => wk [1, 1, 1] [0, 1, 2, 3, 4, 5] rfl rfl), ?_⟩
          refine htend <| hsub (ρ' := [(118, _), (23, _), (104, _), (22, _), (93, _), (21, _), (19, _), (40, _), (14, _), (13, _), (12, _), (34, _), (11, _), (0, _), (1, _), (2, _), (3, _), (4, _)]) ⟨rfl, rfl, rfl, rfl, rfl, rfl, rfl, rfl, rfl, rfl, rfl, rfl, rfl, rfl, rfl, rfl, rfl, rfl, trivial⟩ <| hmemQ (X' := [_, _, _, _]) (S' := [_, _, _, _, _, _]) (fun _ m => m) <| hthen <| hseq <| hreg <| hy (fun _ => y_move rfl) <| hy (fun _ => y_nilp rfl) <| hy (fun _ => y_fld rfl fa64_0 (by decide)) <| hy (fun m => y_ld1 rfl ag58 (ld_blk (m.blk 3 rfl) (i := 0) rfl)) <| ?_
          refine hx (xh_call rfl Tryd.call30 (activeSC hE5) [0] rfl [5] rfl ?_)
          rintro _ _ _ ⟨v3, rfl, rfl, rfl⟩
          refine hfactL (fun m => (m.own 1 rfl).slice) ?_
          rintro ⟨A_x3, c_x3, rfl, hc_x3⟩
          refine hfactL (fun m => (m.ord 1 rfl).2.1) fun hA_x3 => ?_
          refine hy (fun _ => y_move rfl) <| hy (fun _ => y_extract rfl rfl) <| hy (fun _ => y_extract rfl rfl) <| hy (fun _ => y_assign rfl) <| hy (fun _ => y_assign rfl) <| hend <| hsub (ρ' := [(25, _), (24, _), (118, _), (23, _), (104, _), (22, _), (93, _), (21, _), (19, _), (40, _), (14, _), (13, _), (12, _), (34, _), (11, _), (0, _), (1, _), (2, _), (3, _), (4, _)]) ⟨rfl, rfl, rfl, rfl, rfl, rfl, rfl, rfl, rfl, rfl, rfl, rfl, rfl, rfl, rfl, rfl, rfl, rfl, rfl, rfl, trivial⟩ <| hmemQ (X' := [_, _, _, _, _]) (S' := [_, _, _, _, _, _]) (fun _ m => m) <| hthen <| hseq <| hseq <| hreg <| ?_
          rw [hS.whole hW]
          refine hy (fun _ => y_move rfl) <| hy (fun _ => yF (y_neq rfl rfl) (rfl)) <| hy (fun _ => y_move rfl) <| hyg (o := _) rfl rfl rfl (fun _ => y_move rfl) <| hyg (o := _) rfl rfl rfl (fun m => y_b2s rfl Tryd.underlying32 Tryd.underlying5 Tryd.underlying9 (m.ord 1 rfl)) <| hyg (o := _) rfl rfl rfl (fun _ => y_move rfl) <| hyg (o := _) rfl rfl rfl (fun m => y_b2s rfl Tryd.underlying32 Tryd.underlying5 Tryd.underlying9 (m.ord 3 rfl)) <| ?_
          by_cases hqx : qq = X0
          · refine hyg (o := _) rfl rfl rfl (fun _ => yF (y_sne rfl rfl) ((decide_eq_false (fun h => h (congrArg strOf hqx))))) <| hyg (o := _) rfl rfl rfl (fun _ => y_move rfl) <| hskip rfl rfl rfl (by decide) <| hskip rfl rfl rfl (by decide) <| hskip rfl rfl rfl (by decide) <| hskip rfl rfl rfl (by decide) <| hskip rfl rfl rfl (by decide) <| hyg (o := _) rfl rfl rfl (fun _ => y_pickF rfl rfl) <| hy (fun _ => y_pickF rfl rfl) <| hy (fun _ => y_move rfl) <| hyg (o := _) rfl rfl rfl (fun _ => y_move rfl) <| hyg (o := _) rfl rfl rfl (fun _ => yF (y_eql rfl rfl) (rfl)) <| hyg (o := _) rfl rfl rfl (fun _ => y_move rfl) <| hskip rfl rfl rfl (by decide) <| hskip rfl rfl rfl (by decide) <| hskip rfl rfl rfl (by decide) <| hskip rfl rfl rfl (by decide) <| hskip rfl rfl rfl (by decide) <| hyg (o := _) rfl rfl rfl (fun _ => y_pickF rfl rfl) <| hy (fun _ => y_pickF rfl rfl) <| hend <| hsub (ρ' := [(163, _), (25, _), (24, _), (118, _), (23, _), (104, _), (22, _), (93, _), (21, _), (19, _), (40, _), (14, _), (13, _), (12, _), (34, _), (11, _), (0, _), (1, _), (2, _), (3, _), (4, _)]) ⟨rfl, rfl, rfl, rfl, rfl, rfl, rfl, rfl, rfl, rfl, rfl, rfl, rfl, rfl, rfl, rfl, rfl, rfl, rfl, rfl, rfl, trivial⟩ <| hthen <| ?_
            refine hiff rfl (rfl) ?_
            obtain ⟨d3, d4, i3, j3, k1, k2, k3⟩ := crash_end hS hgen hY40 (by decide)
            refine hcskip <| hthen <| hseq <| hreg <| hy (fun _ => y_move rfl) <| hy (fun _ => y_nilp rfl) <| hy (fun _ => y_fld rfl fa64_0 (by decide)) <| hy (fun m => y_ld1 rfl ag58 (ld_blk (m.blk 4 rfl) (i := 0) rfl)) <| hy (fun _ => y_move rfl) <| ?_
            refine hx (xh_calll rfl Tryd.call27 (stageSC hYl hE5 (by omega) (bb := Y0)) [0] rfl (.x 1 rfl .own .nil) ?_)
            rintro _ _ _ ⟨st15, rfl, rfl, rfl, hE6⟩
            refine ⟨rfl, ?_⟩
            refine hy (fun _ => y_move rfl) <| hy (fun _ => y_extract rfl rfl) <| hy (fun _ => y_extract rfl rfl) <| hy (fun _ => y_assign rfl) <| hy (fun _ => y_assign rfl) <| hend <| hsub (ρ' := [(27, _), (163, _), (25, _), (24, _), (118, _), (23, _), (104, _), (22, _), (93, _), (21, _), (19, _), (40, _), (14, _), (13, _), (12, _), (34, _), (11, _), (0, _), (1, _), (2, _), (3, _), (4, _)]) ⟨rfl, rfl, rfl, rfl, rfl, rfl, rfl, rfl, rfl, rfl, rfl, rfl, rfl, rfl, rfl, rfl, rfl, rfl, rfl, rfl, rfl, rfl, trivial⟩ <| hmemQ (X' := [_, _, _, _, _]) (S' := [_, _, _, _, _, _]) (fun _ m => m) <| hthen <| hseq <| hdrw [5, 6] [(0, some 1), (1, some 1), (2, some 1), (3, some 1), (4, some 0), (5, none), (6, none), (7, some 2), (8, some 2), (9, some 2), (10, some 2), (11, some 2)] (by kernel_rfl) (by kernel_rfl) rfl 1 <| ?_
            rw [k1] at hE6 ⊢
            refine htyU (y_move rfl) <| htyU (y_nilp rfl) <| htyU (y_fld rfl fa64_0 (by decide)) <| hty (fun m => y_ld1 rfl ag58 (ld_blk (m.blk 4 rfl) (i := 0) rfl)) <| htyU (y_move rfl) <| ?_
            refine htx (xh_calll rfl Tryd.call29 (rshaSumC (by omega)) [] rfl (.x 2 rfl .own .nil) ?_)
            rintro _ _ _ ⟨rfl, rfl, rfl⟩
            refine ⟨rfl, ?_⟩
            refine ⟨(fun _ => wk [0, 0, 0, 0, 0] [0, 1, 2, 3, 4, 5] rfl rfl), ?_⟩
            refine htx (xh_call rfl Tryd.call28 (flipSC (shaL_length _) hE6 (by omega)) [0] rfl [5] rfl ?_)
            rintro _ _ _ ⟨st16, rfl, rfl, rfl, hE7⟩
            refine ⟨(fun h => absurd h (by decide)), ?_⟩
            refine htyU (y_move rfl) <| htyU (y_extract rfl rfl) <| htyU (y_extract rfl rfl) <| htyU (y_assign rfl) <| htyU (y_assign rfl) <| htend <| hsub (ρ' := [(29, _), (27, _), (163, _), (25, _), (24, _), (118, _), (23, _), (104, _), (22, _), (93, _), (21, _), (19, _), (40, _), (14, _), (13, _), (12, _), (34, _), (11, _), (0, _), (1, _), (2, _), (3, _), (4, _)]) ⟨rfl, rfl, rfl, rfl, rfl, rfl, rfl, rfl, rfl, rfl, rfl, rfl, rfl, rfl, rfl, rfl, rfl, rfl, rfl, rfl, rfl, rfl, rfl, trivial⟩ <| hmemQ (X' := [_, _, _, _, _]) (S' := [_, _, _, _, _, _]) (fun _ m => m) <| hthen <| hseq <| hreg <| ?_
            rw [k2] at hE7 ⊢
            refine hy (fun _ => y_move rfl) <| hy (fun _ => y_nilp rfl) <| hy (fun _ => y_fld rfl fa64_0 (by decide)) <| hy (fun m => y_ld1 rfl ag58 (ld_blk (m.blk 4 rfl) (i := 0) rfl)) <| ?_
            refine hx (xh_call rfl Tryd.call30 (activeSC hE7) [0] rfl [5] rfl ?_)
            rintro _ _ _ ⟨v4, rfl, rfl, rfl⟩
            refine hfactL (fun m => (m.own 1 rfl).slice) ?_
            rintro ⟨A_x4, c_x4, rfl, hc_x4⟩
            refine hfactL (fun m => (m.ord 1 rfl).2.1) fun hA_x4 => ?_
            refine hy (fun _ => y_move rfl) <| hy (fun _ => y_extract rfl rfl) <| hy (fun _ => y_extract rfl rfl) <| hy (fun _ => y_assign rfl) <| hy (fun _ => y_assign rfl) <| hend <| hsub (ρ' := [(31, _), (30, _), (29, _), (27, _), (163, _), (25, _), (24, _), (118, _), (23, _), (104, _), (22, _), (93, _), (21, _), (19, _), (40, _), (14, _), (13, _), (12, _), (34, _), (11, _), (0, _), (1, _), (2, _), (3, _), (4, _)]) ⟨rfl, rfl, rfl, rfl, rfl, rfl, rfl, rfl, rfl, rfl, rfl, rfl, rfl, rfl, rfl, rfl, rfl, rfl, rfl, rfl, rfl, rfl, rfl, rfl, rfl, trivial⟩ <| hmemQ (X' := [_, _, _, _, _, _]) (S' := [_, _, _, _, _, _]) (fun _ m => m) <| hthen <| hseq <| hreg <| ?_
            rw [k3]
            refine hy (fun _ => y_move rfl) <| hy (fun _ => y_eql rfl rfl) <| hy (fun _ => y_move rfl) <| hyg (o := _) rfl rfl rfl (fun _ => y_move rfl) <| hyg (o := _) rfl rfl rfl (fun _ => y_eql rfl rfl) <| hy (fun _ => y_pickT rfl rfl) <| hy (fun _ => y_move rfl) <| hyg (o := _) rfl rfl rfl (fun _ => y_move rfl) <| hyg (o := _) rfl rfl rfl (fun _ => y_eql rfl rfl) <| hy (fun _ => y_pickT rfl rfl) <| hy (fun _ => y_move rfl) <| hyg (o := _) rfl rfl rfl (fun _ => y_move rfl) <| hyg (o := _) rfl rfl rfl (fun m => y_b2s rfl Tryd.underlying32 Tryd.underlying5 Tryd.underlying9 (m.ord 1 rfl)) <| hyg (o := _) rfl rfl rfl (fun _ => y_move rfl) <| hyg (o := _) rfl rfl rfl (fun m => y_b2s rfl Tryd.underlying32 Tryd.underlying5 Tryd.underlying9 (m.ord 3 rfl)) <| hyg (o := _) rfl rfl rfl (fun _ => yT (y_seq rfl rfl) ((decide_eq_true rfl))) <| hy (fun _ => y_pickT rfl rfl) <| hy (fun _ => y_move rfl) <| ?_
            refine hxg (o := _) rfl rfl rfl (xh_call rfl Tryd.call20 (lives22C) [] rfl [5] rfl ?_)
            rintro _ _ _ ⟨rfl, rfl, rfl⟩
            refine hy (fun _ => y_pickT rfl rfl) <| hy (fun _ => y_assign rfl) <| hend <| hsub (ρ' := [(10, _), (31, _), (30, _), (29, _), (27, _), (163, _), (25, _), (24, _), (118, _), (23, _), (104, _), (22, _), (93, _), (21, _), (19, _), (40, _), (14, _), (13, _), (12, _), (34, _), (11, _), (0, _), (1, _), (2, _), (3, _), (4, _)]) ⟨rfl, rfl, rfl, rfl, rfl, rfl, rfl, rfl, rfl, rfl, rfl, rfl, rfl, rfl, rfl, rfl, rfl, rfl, rfl, rfl, rfl, rfl, rfl, rfl, rfl, rfl, trivial⟩ <| hmemQ (X' := [_, _, _, _, _, _]) (S' := [_, _, _, _, _, _]) (fun _ m => m) <| hthen <| hret <| ?_
            exact hret1 trivial rfl rfl [] rfl [] rfl ⟨rfl, rfl, rfl⟩
          · refine hyg (o := _) rfl rfl rfl (fun _ => yT (y_sne rfl rfl) ((decide_eq_true (fun h => hqx (by have := congrArg bytesOf h; rwa [bytesOf_strOf, bytesOf_strOf] at this))))) <| hyg (o := _) rfl rfl rfl (fun _ => y_move rfl) <| hyg (o := _) rfl rfl rfl (fun _ => y_move rfl) <| hyg (o := _) rfl rfl rfl (fun m => y_b2s rfl Tryd.underlying32 Tryd.underlying5 Tryd.underlying9 (m.ord 1 rfl)) <| hyg (o := _) rfl rfl rfl (fun _ => y_move rfl) <| hyg (o := _) rfl rfl rfl (fun m => y_b2s rfl Tryd.underlying32 Tryd.underlying5 Tryd.underlying9 (m.ord 2 rfl)) <| hyg (o := _) rfl rfl rfl (fun _ => yF (y_sne rfl rfl) ((decide_eq_false (fun h => h (congrArg strOf (hq.resolve_left hqx)))))) <| hyg (o := _) rfl rfl rfl (fun _ => y_pickT rfl rfl) <| hy (fun _ => y_pickF rfl rfl) <| hy (fun _ => y_move rfl) <| hyg (o := _) rfl rfl rfl (fun _ => y_move rfl) <| hyg (o := _) rfl rfl rfl (fun _ => yF (y_eql rfl rfl) (rfl)) <| hyg (o := _) rfl rfl rfl (fun _ => y_move rfl) <| hskip rfl rfl rfl (by decide) <| hskip rfl rfl rfl (by decide) <| hskip rfl rfl rfl (by decide) <| hskip rfl rfl rfl (by decide) <| hskip rfl rfl rfl (by decide) <| hyg (o := _) rfl rfl rfl (fun _ => y_pickF rfl rfl) <| hy (fun _ => y_pickF rfl rfl) <| hend <| hsub (ρ' := [(163, _), (25, _), (24, _), (118, _), (23, _), (104, _), (22, _), (93, _), (21, _), (19, _), (40, _), (14, _), (13, _), (12, _), (34, _), (11, _), (0, _), (1, _), (2, _), (3, _), (4, _)]) ⟨rfl, rfl, rfl, rfl, rfl, rfl, rfl, rfl, rfl, rfl, rfl, rfl, rfl, rfl, rfl, rfl, rfl, rfl, rfl, rfl, rfl, trivial⟩ <| hthen <| ?_
            refine hiff rfl (rfl) ?_
            obtain ⟨d3, d4, i3, j3, k1, k2, k3⟩ := crash_end hS hgen hY40 (by decide)
            refine hcskip <| hthen <| hseq <| hreg <| hy (fun _ => y_move rfl) <| hy (fun _ => y_nilp rfl) <| hy (fun _ => y_fld rfl fa64_0 (by decide)) <| hy (fun m => y_ld1 rfl ag58 (ld_blk (m.blk 4 rfl) (i := 0) rfl)) <| hy (fun _ => y_move rfl) <| ?_
            refine hx (xh_calll rfl Tryd.call27 (stageSC hYl hE5 (by omega) (bb := Y0)) [0] rfl (.x 1 rfl .own .nil) ?_)
            rintro _ _ _ ⟨st15, rfl, rfl, rfl, hE6⟩
            refine ⟨rfl, ?_⟩
            refine hy (fun _ => y_move rfl) <| hy (fun _ => y_extract rfl rfl) <| hy (fun _ => y_extract rfl rfl) <| hy (fun _ => y_assign rfl) <| hy (fun _ => y_assign rfl) <| hend <| hsub (ρ' := [(27, _), (163, _), (25, _), (24, _), (118, _), (23, _), (104, _), (22, _), (93, _), (21, _), (19, _), (40, _), (14, _), (13, _), (12, _), (34, _), (11, _), (0, _), (1, _), (2, _), (3, _), (4, _)]) ⟨rfl, rfl, rfl, rfl, rfl, rfl, rfl, rfl, rfl, rfl, rfl, rfl, rfl, rfl, rfl, rfl, rfl, rfl, rfl, rfl, rfl, rfl, trivial⟩ <| hmemQ (X' := [_, _, _, _, _]) (S' := [_, _, _, _, _, _]) (fun _ m => m) <| hthen <| hseq <| hdrwB [1, 1, 1, 1] [0, 1, 2, 3, 4, 5] rfl rfl [5, 6] [(0, some 1), (1, some 1), (2, some 1), (3, some 1), (4, some 0), (5, none), (6, none), (7, some 2), (8, some 2), (9, some 2), (10, some 2), (11, some 2)] (by kernel_rfl) (by kernel_rfl) rfl 99 <| ?_
            rw [k1] at hE6 ⊢
            refine htyU (y_move rfl) <| htyU (y_nilp rfl) <| htyU (y_fld rfl fa64_0 (by decide)) <| hty (fun m => y_ld1 rfl ag58 (ld_blk (m.blk 3 rfl) (i := 0) rfl)) <| htyU (y_move rfl) <| ?_
            refine htx (xh_calll rfl Tryd.call29 (rshaSumC (by omega)) [] rfl (.x 2 rfl .own .nil) ?_)
            rintro _ _ _ ⟨rfl, rfl, rfl⟩
            refine ⟨rfl, ?_⟩
            refine ⟨(fun _ => wk [1, 1, 1, 1] [0, 1, 2, 3, 4, 5] rfl rfl), ?_⟩
            refine htx (xh_call rfl Tryd.call28 (flipSC (shaL_length _) hE6 (by omega)) [0] rfl [5] rfl ?_)
            rintro _ _ _ ⟨st16, rfl, rfl, rfl, hE7⟩
            refine ⟨(fun _ => wk [1, 1, 1, 1] [0, 1, 2, 3, 4, 5] rfl rfl), ?_⟩
            refine htyU (y_move rfl) <| htyU (y_extract rfl rfl) <| htyU (y_extract rfl rfl) <| htyU (y_assign rfl) <| htyU (y_assign rfl) <| htend <| hsub (ρ' := [(29, _), (27, _), (163, _), (25, _), (24, _), (118, _), (23, _), (104, _), (22, _), (93, _), (21, _), (19, _), (40, _), (14, _), (13, _), (12, _), (34, _), (11, _), (0, _), (1, _), (2, _), (3, _), (4, _)]) ⟨rfl, rfl, rfl, rfl, rfl, rfl, rfl, rfl, rfl, rfl, rfl, rfl, rfl, rfl, rfl, rfl, rfl, rfl, rfl, rfl, rfl, rfl, rfl, trivial⟩ <| hmemQ (X' := [_, _, _, _, _]) (S' := [_, _, _, _, _, _]) (fun _ m => m) <| hthen <| hseq <| hreg <| ?_
            rw [k2] at hE7 ⊢
            refine hy (fun _ => y_move rfl) <| hy (fun _ => y_nilp rfl) <| hy (fun _ => y_fld rfl fa64_0 (by decide)) <| hy (fun m => y_ld1 rfl ag58 (ld_blk (m.blk 4 rfl) (i := 0) rfl)) <| ?_
            refine hx (xh_call rfl Tryd.call30 (activeSC hE7) [0] rfl [5] rfl ?_)
            rintro _ _ _ ⟨v4, rfl, rfl, rfl⟩
            refine hfactL (fun m => (m.own 1 rfl).slice) ?_
            rintro ⟨A_x4, c_x4, rfl, hc_x4⟩
            refine hfactL (fun m => (m.ord 1 rfl).2.1) fun hA_x4 => ?_
            refine hy (fun _ => y_move rfl) <| hy (fun _ => y_extract rfl rfl) <| hy (fun _ => y_extract rfl rfl) <| hy (fun _ => y_assign rfl) <| hy (fun _ => y_assign rfl) <| hend <| hsub (ρ' := [(31, _), (30, _), (29, _), (27, _), (163, _), (25, _), (24, _), (118, _), (23, _), (104, _), (22, _), (93, _), (21, _), (19, _), (40, _), (14, _), (13, _), (12, _), (34, _), (11, _), (0, _), (1, _), (2, _), (3, _), (4, _)]) ⟨rfl, rfl, rfl, rfl, rfl, rfl, rfl, rfl, rfl, rfl, rfl, rfl, rfl, rfl, rfl, rfl, rfl, rfl, rfl, rfl, rfl, rfl, rfl, rfl, rfl, trivial⟩ <| hmemQ (X' := [_, _, _, _, _, _]) (S' := [_, _, _, _, _, _]) (fun _ m => m) <| hthen <| hseq <| hreg <| ?_
            rw [k3]
            refine hy (fun _ => y_move rfl) <| hy (fun _ => y_eql rfl rfl) <| hy (fun _ => y_move rfl) <| hyg (o := _) rfl rfl rfl (fun _ => y_move rfl) <| hyg (o := _) rfl rfl rfl (fun _ => y_eql rfl rfl) <| hy (fun _ => y_pickT rfl rfl) <| hy (fun _ => y_move rfl) <| hyg (o := _) rfl rfl rfl (fun _ => y_move rfl) <| hyg (o := _) rfl rfl rfl (fun _ => y_eql rfl rfl) <| hy (fun _ => y_pickT rfl rfl) <| hy (fun _ => y_move rfl) <| hyg (o := _) rfl rfl rfl (fun _ => y_move rfl) <| hyg (o := _) rfl rfl rfl (fun m => y_b2s rfl Tryd.underlying32 Tryd.underlying5 Tryd.underlying9 (m.ord 1 rfl)) <| hyg (o := _) rfl rfl rfl (fun _ => y_move rfl) <| hyg (o := _) rfl rfl rfl (fun m => y_b2s rfl Tryd.underlying32 Tryd.underlying5 Tryd.underlying9 (m.ord 3 rfl)) <| hyg (o := _) rfl rfl rfl (fun _ => yT (y_seq rfl rfl) ((decide_eq_true rfl))) <| hy (fun _ => y_pickT rfl rfl) <| hy (fun _ => y_move rfl) <| ?_
            refine hxg (o := _) rfl rfl rfl (xh_call rfl Tryd.call20 (lives22C) [] rfl [5] rfl ?_)
            rintro _ _ _ ⟨rfl, rfl, rfl⟩
            refine hy (fun _ => y_pickT rfl rfl) <| hy (fun _ => y_assign rfl) <| hend <| hsub (ρ' := [(10, _), (31, _), (30, _), (29, _), (27, _), (163, _), (25, _), (24, _), (118, _), (23, _), (104, _), (22, _), (93, _), (21, _), (19, _), (40, _), (14, _), (13, _), (12, _), (34, _), (11, _), (0, _), (1, _), (2, _), (3, _), (4, _)]) ⟨rfl, rfl, rfl, rfl, rfl, rfl, rfl, rfl, rfl, rfl, rfl, rfl, rfl, rfl, rfl, rfl, rfl, rfl, rfl, rfl, rfl, rfl, rfl, rfl, rfl, rfl, trivial⟩ <| hmemQ (X' := [_, _, _, _, _, _]) (S' := [_, _, _, _, _, _]) (fun _ m => m) <| hthen <| hret <| ?_
            exact hret1 trivial rfl rfl [] rfl [] rfl ⟨rfl, rfl, rfl⟩
        · rw [htw, need0] at q3
          refine hcskip <| hthen <| hseq <| hseq <| hreg <| hy (fun _ => y_move rfl) <| hy (fun _ => yF (y_eql rfl rfl) (rfl)) <| hy (fun _ => y_move rfl) <| hy (fun _ => y_move rfl) <| hy (fun _ => yF (y_geq rfl rfl) ((decide_eq_false (by omega)))) <| hy (fun _ => yF (y_bne Tryd.underlying4 rfl rfl) (rfl)) <| hy (fun _ => y_move rfl) <| hyg (o := _) rfl rfl rfl (fun _ => y_move rfl) <| hyg (o := _) rfl rfl rfl (fun _ => yT (y_neq rfl rfl) (rfl)) <| hyg (o := _) rfl rfl rfl (fun _ => y_move rfl) <| hyg (o := _) rfl rfl rfl (fun _ => y_move rfl) <| hyg (o := _) rfl rfl rfl (fun _ => yF (y_neq rfl rfl) (rfl)) <| hyg (o := _) rfl rfl rfl (fun _ => y_pickT rfl rfl) <| hy (fun _ => y_pickF rfl rfl) <| hend <| hsub (ρ' := [(118, _), (104, _), (23, _), (22, _), (93, _), (21, _), (19, _), (40, _), (14, _), (13, _), (12, _), (34, _), (11, _), (0, _), (1, _), (2, _), (3, _), (4, _)]) ⟨rfl, rfl, rfl, rfl, rfl, rfl, rfl, rfl, rfl, rfl, rfl, rfl, rfl, rfl, rfl, rfl, rfl, rfl, trivial⟩ <| hthen <| ?_
          refine hiff rfl (rfl) ?_
          refine hmemC (fun w m => m.asV 3 rfl (View.takeV (k := min mk 20) (Nat.min_le_left _ _))) ?_
          refine hfactC (fun m => rdX (m.rd 0 rfl)) ?_
          rintro ⟨hl_rf, hA_rf⟩
          rw [hbt]
          obtain ⟨sq, gg, qq, hS, hW, hq, h00, hgen⟩ := hF.re (bs.take (min mk 20))
          refine hcskip <| hthen <| hseq <| hdrwB [1, 1, 1] [0, 1, 2, 3, 4, 5] rfl rfl [9] [(0, some 0), (1, some 0), (2, some 0), (3, some 0), (4, some 0), (5, some 0), (6, some 0), (7, some 0), (8, some 0), (9, none)] (by kernel_rfl) (by kernel_rfl) rfl 99 <| htyU (y_move rfl) <| htyU (y_nilp rfl) <| htyU (y_fld rfl fa64_0 (by decide)) <| hty (fun m => y_ld1 rfl ag58 (ld_blk (m.blk 2 rfl) (i := 0) rfl)) <| htyU (y_move rfl) <| htyU (y_move rfl) <| htyU (y_lenS rfl Tryd.underlying72) <| htyU (y_min rfl rfl) <| htyU (y_slTo rfl rfl Tryd.underlying72 sz4 (show ((min mk 20 : Nat) : Int) = _ by omega) (by omega)) <| ?_
          refine htx (xh_call rfl Tryd.call33 (drestartC hE4 (by omega) hF.nr (by omega)) [0] rfl [0] rfl ?_)
          rintro _ _ _ ⟨st14, rfl, rfl, rfl, hE5⟩
          refine ⟨(fun _ => wk [1, 1, 1] [0, 1, 2, 3, 4, 5] rfl rfl), ?_⟩
          refine htend <| hsub (ρ' := [(118, _), (104, _), (23, _), (22, _), (93, _), (21, _), (19, _), (40, _), (14, _), (13, _), (12, _), (34, _), (11, _), (0, _), (1, _), (2, _), (3, _), (4, _)]) ⟨rfl, rfl, rfl, rfl, rfl, rfl, rfl, rfl, rfl, rfl, rfl, rfl, rfl, rfl, rfl, rfl, rfl, rfl, trivial⟩ <| hmemQ (X' := [_, _, _, _]) (S' := [_, _, _, _, _, _]) (fun _ m => m) <| hthen <| hseq <| hreg <| hy (fun _ => y_move rfl) <| hy (fun _ => y_nilp rfl) <| hy (fun _ => y_fld rfl fa64_0 (by decide)) <| hy (fun m => y_ld1 rfl ag58 (ld_blk (m.blk 3 rfl) (i := 0) rfl)) <| ?_
          refine hx (xh_call rfl Tryd.call30 (activeSC hE5) [0] rfl [5] rfl ?_)
          rintro _ _ _ ⟨v3, rfl, rfl, rfl⟩
          refine hfactL (fun m => (m.own 1 rfl).slice) ?_
          rintro ⟨A_x3, c_x3, rfl, hc_x3⟩
          refine hfactL (fun m => (m.ord 1 rfl).2.1) fun hA_x3 => ?_
          refine hy (fun _ => y_move rfl) <| hy (fun _ => y_extract rfl rfl) <| hy (fun _ => y_extract rfl rfl) <| hy (fun _ => y_assign rfl) <| hy (fun _ => y_assign rfl) <| hend <| hsub (ρ' := [(25, _), (24, _), (118, _), (104, _), (23, _), (22, _), (93, _), (21, _), (19, _), (40, _), (14, _), (13, _), (12, _), (34, _), (11, _), (0, _), (1, _), (2, _), (3, _), (4, _)]) ⟨rfl, rfl, rfl, rfl, rfl, rfl, rfl, rfl, rfl, rfl, rfl, rfl, rfl, rfl, rfl, rfl, rfl, rfl, rfl, rfl, trivial⟩ <| hmemQ (X' := [_, _, _, _, _]) (S' := [_, _, _, _, _, _]) (fun _ m => m) <| hthen <| hseq <| hseq <| hreg <| ?_
          rw [hS.whole hW]
          refine hy (fun _ => y_move rfl) <| hy (fun _ => yF (y_neq rfl rfl) (rfl)) <| hy (fun _ => y_move rfl) <| hyg (o := _) rfl rfl rfl (fun _ => y_move rfl) <| hyg (o := _) rfl rfl rfl (fun m => y_b2s rfl Tryd.underlying32 Tryd.underlying5 Tryd.underlying9 (m.ord 1 rfl)) <| hyg (o := _) rfl rfl rfl (fun _ => y_move rfl) <| hyg (o := _) rfl rfl rfl (fun m => y_b2s rfl Tryd.underlying32 Tryd.underlying5 Tryd.underlying9 (m.ord 3 rfl)) <| ?_
          by_cases hqx : qq = X0
          · refine hyg (o := _) rfl rfl rfl (fun _ => yF (y_sne rfl rfl) ((decide_eq_false (fun h => h (congrArg strOf hqx))))) <| hyg (o := _) rfl rfl rfl (fun _ => y_move rfl) <| hskip rfl rfl rfl (by decide) <| hskip rfl rfl rfl (by decide) <| hskip rfl rfl rfl (by decide) <| hskip rfl rfl rfl (by decide) <| hskip rfl rfl rfl (by decide) <| hyg (o := _) rfl rfl rfl (fun _ => y_pickF rfl rfl) <| hy (fun _ => y_pickF rfl rfl) <| hy (fun _ => y_move rfl) <| hyg (o := _) rfl rfl rfl (fun _ => y_move rfl) <| hyg (o := _) rfl rfl rfl (fun _ => yF (y_eql rfl rfl) (rfl)) <| hyg (o := _) rfl rfl rfl (fun _ => y_move rfl) <| hskip rfl rfl rfl (by decide) <| hskip rfl rfl rfl (by decide) <| hskip rfl rfl rfl (by decide) <| hskip rfl rfl rfl (by decide) <| hskip rfl rfl rfl (by decide) <| hyg (o := _) rfl rfl rfl (fun _ => y_pickF rfl rfl) <| hy (fun _ => y_pickF rfl rfl) <| hend <| hsub (ρ' := [(163, _), (25, _), (24, _), (118, _), (104, _), (23, _), (22, _), (93, _), (21, _), (19, _), (40, _), (14, _), (13, _), (12, _), (34, _), (11, _), (0, _), (1, _), (2, _), (3, _), (4, _)]) ⟨rfl, rfl, rfl, rfl, rfl, rfl, rfl, rfl, rfl, rfl, rfl, rfl, rfl, rfl, rfl, rfl, rfl, rfl, rfl, rfl, rfl, trivial⟩ <| hthen <| ?_
            refine hiff rfl (rfl) ?_
            obtain ⟨d3, d4, i3, j3, k1, k2, k3⟩ := crash_end hS hgen hY40 (by decide)
            refine hcskip <| hthen <| hseq <| hreg <| hy (fun _ => y_move rfl) <| hy (fun _ => y_nilp rfl) <| hy (fun _ => y_fld rfl fa64_0 (by decide)) <| hy (fun m => y_ld1 rfl ag58 (ld_blk (m.blk 4 rfl) (i := 0) rfl)) <| hy (fun _ => y_move rfl) <| ?_
            refine hx (xh_calll rfl Tryd.call27 (stageSC hYl hE5 (by omega) (bb := Y0)) [0] rfl (.x 1 rfl .own .nil) ?_)
            rintro _ _ _ ⟨st15, rfl, rfl, rfl, hE6⟩
            refine ⟨rfl, ?_⟩
            refine hy (fun _ => y_move rfl) <| hy (fun _ => y_extract rfl rfl) <| hy (fun _ => y_extract rfl rfl) <| hy (fun _ => y_assign rfl) <| hy (fun _ => y_assign rfl) <| hend <| hsub (ρ' := [(27, _), (163, _), (25, _), (24, _), (118, _), (104, _), (23, _), (22, _), (93, _), (21, _), (19, _), (40, _), (14, _), (13, _), (12, _), (34, _), (11, _), (0, _), (1, _), (2, _), (3, _), (4, _)]) ⟨rfl, rfl, rfl, rfl, rfl, rfl, rfl, rfl, rfl, rfl, rfl, rfl, rfl, rfl, rfl, rfl, rfl, rfl, rfl, rfl, rfl, rfl, trivial⟩ <| hmemQ (X' := [_, _, _, _, _]) (S' := [_, _, _, _, _, _]) (fun _ m => m) <| hthen <| hseq <| hdrw [5, 6] [(0, some 1), (1, some 1), (2, some 1), (3, some 1), (4, some 0), (5, none), (6, none), (7, some 2), (8, some 2), (9, some 2), (10, some 2), (11, some 2)] (by kernel_rfl) (by kernel_rfl) rfl 1 <| ?_
            rw [k1] at hE6 ⊢
            refine htyU (y_move rfl) <| htyU (y_nilp rfl) <| htyU (y_fld rfl fa64_0 (by decide)) <| hty (fun m => y_ld1 rfl ag58 (ld_blk (m.blk 4 rfl) (i := 0) rfl)) <| htyU (y_move rfl) <| ?_
            refine htx (xh_calll rfl Tryd.call29 (rshaSumC (by omega)) [] rfl (.x 2 rfl .own .nil) ?_)
            rintro _ _ _ ⟨rfl, rfl, rfl⟩
            refine ⟨rfl, ?_⟩
            refine ⟨(fun _ => wk [0, 0, 0, 0, 0] [0, 1, 2, 3, 4, 5] rfl rfl), ?_⟩
            refine htx (xh_call rfl Tryd.call28 (flipSC (shaL_length _) hE6 (by omega)) [0] rfl [5] rfl ?_)
            rintro _ _ _ ⟨st16, rfl, rfl, rfl, hE7⟩
            refine ⟨(fun h => absurd h (by decide)), ?_⟩
            refine htyU (y_move rfl) <| htyU (y_extract rfl rfl) <| htyU (y_extract rfl rfl) <| htyU (y_assign rfl) <| htyU (y_assign rfl) <| htend <| hsub (ρ' := [(29, _), (27, _), (163, _), (25, _), (24, _), (118, _), (104, _), (23, _), (22, _), (93, _), (21, _), (19, _), (40, _), (14, _), (13, _), (12, _), (34, _), (11, _), (0, _), (1, _), (2, _), (3, _), (4, _)]) ⟨rfl, rfl, rfl, rfl, rfl, rfl, rfl, rfl, rfl, rfl, rfl, rfl, rfl, rfl, rfl, rfl, rfl, rfl, rfl, rfl, rfl, rfl, rfl, trivial⟩ <| hmemQ (X' := [_, _, _, _, _]) (S' := [_, _, _, _, _, _]) (fun _ m => m) <| hthen <| hseq <| hreg <| ?_
            rw [k2] at hE7 ⊢
            refine hy (fun _ => y_move rfl) <| hy (fun _ => y_nilp rfl) <| hy (fun _ => y_fld rfl fa64_0 (by decide)) <| hy (fun m => y_ld1 rfl ag58 (ld_blk (m.blk 4 rfl) (i := 0) rfl)) <| ?_
            refine hx (xh_call rfl Tryd.call30 (activeSC hE7) [0] rfl [5] rfl ?_)
            rintro _ _ _ ⟨v4, rfl, rfl, rfl⟩
            refine hfactL (fun m => (m.own 1 rfl).slice) ?_
            rintro ⟨A_x4, c_x4, rfl, hc_x4⟩
            refine hfactL (fun m => (m.ord 1 rfl).2.1) fun hA_x4 => ?_
            refine hy (fun _ => y_move rfl) <| hy (fun _ => y_extract rfl rfl) <| hy (fun _ => y_extract rfl rfl) <| hy (fun _ => y_assign rfl) <| hy (fun _ => y_assign rfl) <| hend <| hsub (ρ' := [(31, _), (30, _), (29, _), (27, _), (163, _), (25, _), (24, _), (118, _), (104, _), (23, _), (22, _), (93, _), (21, _), (19, _), (40, _), (14, _), (13, _), (12, _), (34, _), (11, _), (0, _), (1, _), (2, _), (3, _), (4, _)]) ⟨rfl, rfl, rfl, rfl, rfl, rfl, rfl, rfl, rfl, rfl, rfl, rfl, rfl, rfl, rfl, rfl, rfl, rfl, rfl, rfl, rfl, rfl, rfl, rfl, rfl, trivial⟩ <| hmemQ (X' := [_, _, _, _, _, _]) (S' := [_, _, _, _, _, _]) (fun _ m => m) <| hthen <| hseq <| hreg <| ?_
            rw [k3]
            refine hy (fun _ => y_move rfl) <| hy (fun _ => y_eql rfl rfl) <| hy (fun _ => y_move rfl) <| hyg (o := _) rfl rfl rfl (fun _ => y_move rfl) <| hyg (o := _) rfl rfl rfl (fun _ => y_eql rfl rfl) <| hy (fun _ => y_pickT rfl rfl) <| hy (fun _ => y_move rfl) <| hyg (o := _) rfl rfl rfl (fun _ => y_move rfl) <| hyg (o := _) rfl rfl rfl (fun _ => y_eql rfl rfl) <| hy (fun _ => y_pickT rfl rfl) <| hy (fun _ => y_move rfl) <| hyg (o := _) rfl rfl rfl (fun _ => y_move rfl) <| hyg (o := _) rfl rfl rfl (fun m => y_b2s rfl Tryd.underlying32 Tryd.underlying5 Tryd.underlying9 (m.ord 1 rfl)) <| hyg (o := _) rfl rfl rfl (fun _ => y_move rfl) <| hyg (o := _) rfl rfl rfl (fun m => y_b2s rfl Tryd.underlying32 Tryd.underlying5 Tryd.underlying9 (m.ord 3 rfl)) <| hyg (o := _) rfl rfl rfl (fun _ => yT (y_seq rfl rfl) ((decide_eq_true rfl))) <| hy (fun _ => y_pickT rfl rfl) <| hy (fun _ => y_move rfl) <| ?_
            refine hxg (o := _) rfl rfl rfl (xh_call rfl Tryd.call20 (lives22C) [] rfl [5] rfl ?_)
            rintro _ _ _ ⟨rfl, rfl, rfl⟩
            refine hy (fun _ => y_pickT rfl rfl) <| hy (fun _ => y_assign rfl) <| hend <| hsub (ρ' := [(10, _), (31, _), (30, _), (29, _), (27, _), (163, _), (25, _), (24, _), (118, _), (104, _), (23, _), (22, _), (93, _), (21, _), (19, _), (40, _), (14, _), (13, _), (12, _), (34, _), (11, _), (0, _), (1, _), (2, _), (3, _), (4, _)]) ⟨rfl, rfl, rfl, rfl, rfl, rfl, rfl, rfl, rfl, rfl, rfl, rfl, rfl, rfl, rfl, rfl, rfl, rfl, rfl, rfl, rfl, rfl, rfl, rfl, rfl, rfl, trivial⟩ <| hmemQ (X' := [_, _, _, _, _, _]) (S' := [_, _, _, _, _, _]) (fun _ m => m) <| hthen <| hret <| ?_
            exact hret1 trivial rfl rfl [] rfl [] rfl ⟨rfl, rfl, rfl⟩
          · refine hyg (o := _) rfl rfl rfl (fun _ => yT (y_sne rfl rfl) ((decide_eq_true (fun h => hqx (by have := congrArg bytesOf h; rwa [bytesOf_strOf, bytesOf_strOf] at this))))) <| hyg (o := _) rfl rfl rfl (fun _ => y_move rfl) <| hyg (o := _) rfl rfl rfl (fun _ => y_move rfl) <| hyg (o := _) rfl rfl rfl (fun m => y_b2s rfl Tryd.underlying32 Tryd.underlying5 Tryd.underlying9 (m.ord 1 rfl)) <| hyg (o := _) rfl rfl rfl (fun _ => y_move rfl) <| hyg (o := _) rfl rfl rfl (fun m => y_b2s rfl Tryd.underlying32 Tryd.underlying5 Tryd.underlying9 (m.ord 2 rfl)) <| hyg (o := _) rfl rfl rfl (fun _ => yF (y_sne rfl rfl) ((decide_eq_false (fun h => h (congrArg strOf (hq.resolve_left hqx)))))) <| hyg (o := _) rfl rfl rfl (fun _ => y_pickT rfl rfl) <| hy (fun _ => y_pickF rfl rfl) <| hy (fun _ => y_move rfl) <| hyg (o := _) rfl rfl rfl (fun _ => y_move rfl) <| hyg (o := _) rfl rfl rfl (fun _ => yF (y_eql rfl rfl) (rfl)) <| hyg (o := _) rfl rfl rfl (fun _ => y_move rfl) <| hskip rfl rfl rfl (by decide) <| hskip rfl rfl rfl (by decide) <| hskip rfl rfl rfl (by decide) <| hskip rfl rfl rfl (by decide) <| hskip rfl rfl rfl (by decide) <| hyg (o := _) rfl rfl rfl (fun _ => y_pickF rfl rfl) <| hy (fun _ => y_pickF rfl rfl) <| hend <| hsub (ρ' := [(163, _), (25, _), (24, _), (118, _), (104, _), (23, _), (22, _), (93, _), (21, _), (19, _), (40, _), (14, _), (13, _), (12, _), (34, _), (11, _), (0, _), (1, _), (2, _), (3, _), (4, _)]) ⟨rfl, rfl, rfl, rfl, rfl, rfl, rfl, rfl, rfl, rfl, rfl, rfl, rfl, rfl, rfl, rfl, rfl, rfl, rfl, rfl, rfl, trivial⟩ <| hthen <| ?_
            refine hiff rfl (rfl) ?_
            obtain ⟨d3, d4, i3, j3, k1, k2, k3⟩ := crash_end hS hgen hY40 (by decide)
            refine hcskip <| hthen <| hseq <| hreg <| hy (fun _ => y_move rfl) <| hy (fun _ => y_nilp rfl) <| hy (fun _ => y_fld rfl fa64_0 (by decide)) <| hy (fun m => y_ld1 rfl ag58 (ld_blk (m.blk 4 rfl) (i := 0) rfl)) <| hy (fun _ => y_move rfl) <| ?_
            refine hx (xh_calll rfl Tryd.call27 (stageSC hYl hE5 (by omega) (bb := Y0)) [0] rfl (.x 1 rfl .own .nil) ?_)
            rintro _ _ _ ⟨st15, rfl, rfl, rfl, hE6⟩
            refine ⟨rfl, ?_⟩
            refine hy (fun _ => y_move rfl) <| hy (fun _ => y_extract rfl rfl) <| hy (fun _ => y_extract rfl rfl) <| hy (fun _ => y_assign rfl) <| hy (fun _ => y_assign rfl) <| hend <| hsub (ρ' := [(27, _), (163, _), (25, _), (24, _), (118, _), (104, _), (23, _), (22, _), (93, _), (21, _), (19, _), (40, _), (14, _), (13, _), (12, _), (34, _), (11, _), (0, _), (1, _), (2, _), (3, _), (4, _)]) ⟨rfl, rfl, rfl, rfl, rfl, rfl, rfl, rfl, rfl, rfl, rfl, rfl, rfl, rfl, rfl, rfl, rfl, rfl, rfl, rfl, rfl, rfl, trivial⟩ <| hmemQ (X' := [_, _, _, _, _]) (S' := [_, _, _, _, _, _]) (fun _ m => m) <| hthen <| hseq <| hdrwB [1, 1, 1, 1] [0, 1, 2, 3, 4, 5] rfl rfl [5, 6] [(0, some 1), (1, some 1), (2, some 1), (3, some 1), (4, some 0), (5, none), (6, none), (7, some 2), (8, some 2), (9, some 2), (10, some 2), (11, some 2)] (by kernel_rfl) (by kernel_rfl) rfl 99 <| ?_
            rw [k1] at hE6 ⊢
            refine htyU (y_move rfl) <| htyU (y_nilp rfl) <| htyU (y_fld rfl fa64_0 (by decide)) <| hty (fun m => y_ld1 rfl ag58 (ld_blk (m.blk 3 rfl) (i := 0) rfl)) <| htyU (y_move rfl) <| ?_
            refine htx (xh_calll rfl Tryd.call29 (rshaSumC (by omega)) [] rfl (.x 2 rfl .own .nil) ?_)
            rintro _ _ _ ⟨rfl, rfl, rfl⟩
            refine ⟨rfl, ?_⟩
            refine ⟨(fun _ => wk [1, 1, 1, 1] [0, 1, 2, 3, 4, 5] rfl rfl), ?_⟩
            refine htx (xh_call rfl Tryd.call28 (flipSC (shaL_length _) hE6 (by omega)) [0] rfl [5] rfl ?_)
            rintro _ _ _ ⟨st16, rfl, rfl, rfl, hE7⟩
            refine ⟨(fun _ => wk [1, 1, 1, 1] [0, 1, 2, 3, 4, 5] rfl rfl), ?_⟩
            refine htyU (y_move rfl) <| htyU (y_extract rfl rfl) <| htyU (y_extract rfl rfl) <| htyU (y_assign rfl) <| htyU (y_assign rfl) <| htend <| hsub (ρ' := [(29, _), (27, _), (163, _), (25, _), (24, _), (118, _), (104, _), (23, _), (22, _), (93, _), (21, _), (19, _), (40, _), (14, _), (13, _), (12, _), (34, _), (11, _), (0, _), (1, _), (2, _), (3, _), (4, _)]) ⟨rfl, rfl, rfl, rfl, rfl, rfl, rfl, rfl, rfl, rfl, rfl, rfl, rfl, rfl, rfl, rfl, rfl, rfl, rfl, rfl, rfl, rfl, rfl, trivial⟩ <| hmemQ (X' := [_, _, _, _, _]) (S' := [_, _, _, _, _, _]) (fun _ m => m) <| hthen <| hseq <| hreg <| ?_
            rw [k2] at hE7 ⊢
            refine hy (fun _ => y_move rfl) <| hy (fun _ => y_nilp rfl) <| hy (fun _ => y_fld rfl fa64_0 (by decide)) <| hy (fun m => y_ld1 rfl ag58 (ld_blk (m.blk 4 rfl) (i := 0) rfl)) <| ?_
            refine hx (xh_call rfl Tryd.call30 (activeSC hE7) [0] rfl [5] rfl ?_)
            rintro _ _ _ ⟨v4, rfl, rfl, rfl⟩
            refine hfactL (fun m => (m.own 1 rfl).slice) ?_
            rintro ⟨A_x4, c_x4, rfl, hc_x4⟩
            refine hfactL (fun m => (m.ord 1 rfl).2.1) fun hA_x4 => ?_
            refine hy (fun _ => y_move rfl) <| hy (fun _ => y_extract rfl rfl) <| hy (fun _ => y_extract rfl rfl) <| hy (fun _ => y_assign rfl) <| hy (fun _ => y_assign rfl) <| hend <| hsub (ρ' := [(31, _), (30, _), (29, _), (27, _), (163, _), (25, _), (24, _), (118, _), (104, _), (23, _), (22, _), (93, _), (21, _), (19, _), (40, _), (14, _), (13, _), (12, _), (34, _), (11, _), (0, _), (1, _), (2, _), (3, _), (4, _)]) ⟨rfl, rfl, rfl, rfl, rfl, rfl, rfl, rfl, rfl, rfl, rfl, rfl, rfl, rfl, rfl, rfl, rfl, rfl, rfl, rfl, rfl, rfl, rfl, rfl, rfl, trivial⟩ <| hmemQ (X' := [_, _, _, _, _, _]) (S' := [_, _, _, _, _, _]) (fun _ m => m) <| hthen <| hseq <| hreg <| ?_
            rw [k3]
            refine hy (fun _ => y_move rfl) <| hy (fun _ => y_eql rfl rfl) <| hy (fun _ => y_move rfl) <| hyg (o := _) rfl rfl rfl (fun _ => y_move rfl) <| hyg (o := _) rfl rfl rfl (fun _ => y_eql rfl rfl) <| hy (fun _ => y_pickT rfl rfl) <| hy (fun _ => y_move rfl) <| hyg (o := _) rfl rfl rfl (fun _ => y_move rfl) <| hyg (o := _) rfl rfl rfl (fun _ => y_eql rfl rfl) <| hy (fun _ => y_pickT rfl rfl) <| hy (fun _ => y_move rfl) <| hyg (o := _) rfl rfl rfl (fun _ => y_move rfl) <| hyg (o := _) rfl rfl rfl (fun m => y_b2s rfl Tryd.underlying32 Tryd.underlying5 Tryd.underlying9 (m.ord 1 rfl)) <| hyg (o := _) rfl rfl rfl (fun _ => y_move rfl) <| hyg (o := _) rfl rfl rfl (fun m => y_b2s rfl Tryd.underlying32 Tryd.underlying5 Tryd.underlying9 (m.ord 3 rfl)) <| hyg (o := _) rfl rfl rfl (fun _ => yT (y_seq rfl rfl) ((decide_eq_true rfl))) <| hy (fun _ => y_pickT rfl rfl) <| hy (fun _ => y_move rfl) <| ?_
            refine hxg (o := _) rfl rfl rfl (xh_call rfl Tryd.call20 (lives22C) [] rfl [5] rfl ?_)
            rintro _ _ _ ⟨rfl, rfl, rfl⟩
            refine hy (fun _ => y_pickT rfl rfl) <| hy (fun _ => y_assign rfl) <| hend <| hsub (ρ' := [(10, _), (31, _), (30, _), (29, _), (27, _), (163, _), (25, _), (24, _), (118, _), (104, _), (23, _), (22, _), (93, _), (21, _), (19, _), (40, _), (14, _), (13, _), (12, _), (34, _), (11, _), (0, _), (1, _), (2, _), (3, _), (4, _)]) ⟨rfl, rfl, rfl, rfl, rfl, rfl, rfl, rfl, rfl, rfl, rfl, rfl, rfl, rfl, rfl, rfl, rfl, rfl, rfl, rfl, rfl, rfl, rfl, rfl, rfl, rfl, trivial⟩ <| hmemQ (X' := [_, _, _, _, _, _]) (S' := [_, _, _, _, _, _]) (fun _ m => m) <| hthen <| hret <| ?_
            exact hret1 trivial rfl rfl [] rfl [] rfl ⟨rfl, rfl, rfl⟩
theorem slotsCrashes (A : Option Addr) (n c : Nat) (la : List UInt8) (B : Option Addr) (m1 c1 : Nat) (lb : List UInt8) (z : Int) (K : Option Addr) (mk ck : Nat) (zs : List Cell) (tw : Bool) (W : World) (h1 : Rd W 1 A n (b8s la)) (hc : n ≤ c) (hn : n ≤ 140737488351232) (h2 : Rd W 1 B m1 (b8s lb)) (hc1 : m1 ≤ c1) (hm1 : m1 ≤ 140737488351232) (hz : -9223372036854775808 ≤ z ∧ z ≤ 9223372036854775807) (hk : (RCell (.s 1 K mk ck zs)).holds W) (hK : Ty Tryd.prog 72 [.s 1 K mk ck zs]) (hro : RRoots.holds W) :
    Calls Tryd.prog 7 #[.slice A n c, .slice B m1 c1, .int .i64 z, .slice K mk ck, .bool tw] W fun e w' => e = .returned (.bool true) ∧ Fr No W w' := by
  obtain ⟨_, _, _, _, ks, e8, hkc, hk2, hks, hkl⟩ := ty_bools hK
  cases e8
  have h3 := (View.rowOf (n := mk) (c := ck) (A := K) hks).ok.1 W hk
  exact con_calls (slotsCrashesC (tw := tw) hc hn hc1 hm1 hz hkc hk2) (by
    intro s hs
    simp only [List.mem_cons, List.not_mem_nil, or_false] at hs
    rcases hs with rfl | rfl | rfl | rfl
    · exact h1
    · exact h2
    · exact h3
    · exact hro)
end Go.Proofs.YtfikjheicjamhaaDoor
