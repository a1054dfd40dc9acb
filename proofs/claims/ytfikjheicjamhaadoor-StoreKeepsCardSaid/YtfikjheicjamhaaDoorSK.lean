/- The card StoreKeeps, over my contract. -/
import Derived.Test.YtfikjheicjamhaaDoorSK4
import Derived.Test.YtfikjheicjamhaaDoorTie
import Derived.Test.YtfikjheicjamhaaDoorCards
import Derived.Stop.Joined
import Derived.SevenTiedAt
import Derived.Test.YtfikjheicjamhaaDoorRows
set_option linter.unusedVariables false
set_option linter.unusedSimpArgs false
namespace Go.Proofs.YtfikjheicjamhaaDoor.storeKeeps
open Go.ChangeShapes Go.WideShapes Go.ChangeAt Go.RowKit Go.Eng
open Go.ChangeMaps (open_string shut_string)
theorem own : ownKnob Tryd.prog.godebug = none := by kernel_rfl
theorem laidOut : laidOutB Tryd.prog = true := by kernel_rfl
set_option maxRecDepth 100000 in
theorem lifted (os : Os) (started : os.Started) (H : Type) (enc : TypeId × Value → H) :
    ReturnsInHanded {} Tryd.checked os 9 .any (fun w args => (Rows.storeKeepsSpec.pre enc Tryd.prog Tryd.f9 [] false w args ∧ laidMetH Tryd.prog [("lighterage/sha.roots", Rows.laid_lighterage_sha_roots)] w) ∧ sizedMet enc Tryd.prog Tryd.f9 (OpenSpec.ofChange Rows.storeKeepsSpec) false w args) (Rows.storeKeepsSpec.post enc Tryd.prog Tryd.f9 false true false false) := by
  refine returnsInHanded_of_change_and (C := Tryd.checked) (X := fun w _ => laidMetH Tryd.prog [("lighterage/sha.roots", Rows.laid_lighterage_sha_roots)] w) (fun _ _ _ hh h => h.of_heap hh) own started (by kernel_rfl) Tryd.func9
    (ChangeSpec.witness_shaped (enc := enc) (C := Tryd.checked) (os := os) (X := fun w _ => laidMetH Tryd.prog [("lighterage/sha.roots", Rows.laid_lighterage_sha_roots)] w) false (World.doorLaid Tryd.prog 400 os) #[.slice none 0 0, .slice none 0 0] 40 rfl (World.shaped_of_RefB (by kernel_rfl) (by kernel_rfl)) (by kernel_rfl) (by kernel_rfl) (by kernel_rfl) (door_met os _)) ?_
  intro W base args ds gs before hval0 hW hcnd hsz0 hL _
  have hsz : (DataW.weightsEach Tryd.prog (Tryd.f9.params.toList ++ Rows.storeKeepsSpec.plain.varTypes Tryd.prog) (ds ++ gs)).all (· ≤ reachBytes) = true := hsz0
  have hval : ∀ (j : Nat) t v, Tryd.f9.params[j]? = some t → args[j]? = some v → Value.okWide Tryd.prog W .any base t v := hval0
  have hW' := hW
  obtain ⟨p, q, hA0, hV, rfl, hfz, hnd⟩ := hW
  have hA : DataW.TrodAll enc Tryd.prog W 0 (fun _ => true) true Tryd.f9.params.toList args.toList ds p := hA0
  rw [Tryd.params9] at hA hval hsz
  obtain ⟨v0, vs0, d0, ds0, p0, q0, hargs, rfl, rfl, h0, r0⟩ := trodAll_cons hA
  obtain ⟨v1, vs1, d1, ds1, p1, q1, rfl, rfl, rfl, h1, r1⟩ := trodAll_cons r0
  obtain ⟨rfl, rfl, rfl⟩ := trodAll_nil r1
  obtain rfl : args = #[v0, v1] := by cases args; simp_all
  obtain ⟨rfl, rfl⟩ := trodVars_none hV
  have lt0 : ∀ x ∈ p0, x.block < W.heap.size := by obtain ⟨m, hm⟩ := h0; exact DataW.trod_lt m _ _ _ hm
  obtain ⟨a0, len0, cap0, rfl⟩ := okWide_slice Tryd.underlying32 (hval 0 32 v0 rfl rfl)
  obtain ⟨c0, l0, rd0⟩ := open_bytes Tryd.underlying32 Tryd.underlying5 (by kernel_rfl) h0
  have y0 : len0 ≤ 140737488351232 := sized_bytes hsz (j := 0) (t := 32) rfl rfl Tryd.underlying32 Tryd.underlying5 (by kernel_rfl) (by kernel_rfl) h0
  have lt1 : ∀ x ∈ p1, x.block < W.heap.size := by obtain ⟨m, hm⟩ := h1; exact DataW.trod_lt m _ _ _ hm
  obtain ⟨a1, len1, cap1, rfl⟩ := okWide_slice Tryd.underlying72 (hval 1 72 v1 rfl rfl)
  obtain ⟨xs1, rc1, ty1⟩ := open_sl 10 (by kernel_rfl) Tryd.underlying72 h1 hsz (j := 1) rfl rfl
  have ce1 : Tryd.prog.cellsOf 4 = 1 := by kernel_rfl
  rw [ce1] at rc1 ty1
  clear hA0 hval0 hsz0 hsz
  refine (YtfikjheicjamhaaDoor.storeKeeps a0 len0 cap0 l0 a1 len1 cap1 xs1 W rd0 c0 y0 rc1 ty1 (roots_of_laid hL)).mono fun e W' ⟨he, fr⟩ => ?_
  have bel := fr.below
  subst he
  exact ⟨_, rfl, _, _, _, [], _, [], hW', trodAll_mk1 (shut_bool Tryd.underlying4 _), (trodAll_cons_mk (Below.trod laidOut (by kernel_rfl) (of_decide_eq_true (by kernel_rfl)) h0 bel lt0) (trodAll_cons_mk (Below.trod laidOut (by kernel_rfl) (of_decide_eq_true (by kernel_rfl)) h1 bel lt1) trodAll_mk0)), rfl, bel.frame _, fun h => by cases h⟩
theorem over : Rows.storeKeepsRow.holds Tryd.pinned (OpenSpec.ofChange Rows.storeKeepsSpec) :=
  OpenClaim.holds_of_wide 9 Tryd.f9 rfl rfl rfl rfl rfl rfl rfl ⟨rfl, rfl, rfl, rfl, rfl⟩ rfl rfl rfl rfl rfl (by kernel_rfl) Tryd.func9 (by kernel_rfl)
    (of_decide_eq_true (by kernel_rfl)) (by unfold Func.isWrapper; first | (rw [if_pos (by decide +kernel)]; kernel_rfl) | (rw [if_neg (by decide +kernel)]; exact ⟨rfl, rfl⟩))
    (fun os started H enc _ => lifted os started H enc)
end Go.Proofs.YtfikjheicjamhaaDoor.storeKeeps
namespace Go.Proofs.YtfikjheicjamhaaDoor
theorem storeKeeps_holds : Rows.StoreKeepsCardSaid :=
  Claim7.holds_tied_plain_at .later [] [.data] true (true, "e1f027158109395386f4b5ea50bab2ca9114e61d3bfdcb33eae41ecd874161d5") true
    storeKeeps.over (fun _ h => by cases h) (by kernel_rfl) (fun _ h => by cases h) storeKeeps_row_tie rfl ⟨rfl, rfl⟩ (by kernel_rfl) rfl
    (fun f fn hf hfn => by
      obtain rfl : f = 9 := Option.some.inj ((show Tryd.prog.funcNamed "lighterage/lighteragelaw13.StoreKeeps" = some 9 by kernel_rfl).symm.trans hf) |>.symm
      obtain rfl : fn = Tryd.f9 := (Option.some.inj (Tryd.func9.symm.trans hfn)).symm
      exact ⟨by kernel_rfl, fun j t ht => by
        rw [Tryd.params9] at ht
        have hm : t ∈ [32, 72] := by simpa using Array.mem_of_getElem? ht
        have hall : ([32, 72].all fun u => !Tryd.prog.wantsStandIn u) = true := by kernel_rfl
        exact (show Tryd.prog.wantsStandIn t = false by simpa using List.all_eq_true.1 hall t hm)⟩)
    (by kernel_rfl)
end Go.Proofs.YtfikjheicjamhaaDoor
