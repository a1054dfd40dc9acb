/- Part of a card. -/
import Derived.Test.YtmibdabdlgmafaaGreatDoorPLMa
import Derived.Test.YtmibdabdlgmafaaGreatDoorTie
import Derived.Test.YtmibdabdlgmafaaGreatDoorCards
import Derived.Stop.Joined
import Derived.SevenTiedAt
import Derived.Test.YtmibdabdlgmafaaGreatDoorRows
set_option linter.all false
set_option maxRecDepth 100000
namespace Go.Proofs.YtmibdabdlgmafaaGreatDoor.j9
open Go.ChangeShapes Go.WideShapes Go.ChangeAt Go.RowKit Go.Eng
open Go.ChangeMaps (open_string shut_string)
theorem and2 {a b : Bool} (h : a = true) (k : b = true) : (a && b) = true := by rw [h, k]; rfl
theorem jc0 : (Rows.planMakesRow.wf (OpenSpec.ofChange Rows.planMakesSpec)) = true := by kernel_rfl
theorem jc1 : (laidOutB Tryz.prog) = true := by kernel_rfl
theorem jc2 : (mapsRowed Tryz.prog) = true := by kernel_rfl
theorem jc3 : (Tryz.f5.params.all (Tryz.prog.readableRec ·)) = true := by kernel_rfl
theorem jc4 : (namedTie Tryz.prog Rows.planMakesRow.named Rows.planMakesSpec.vars) = true := by kernel_rfl
theorem jc5 : (Rows.planMakesRow.stops == []) = true := by kernel_rfl
theorem jc6 : (Tryz.prog.stops == []) = true := by kernel_rfl
theorem jc7 : (Rows.planMakesRow.knobs == []) = true := by kernel_rfl
theorem jc8 : (Tryz.prog.stopKnobs == []) = true := by kernel_rfl
theorem jc9 : (Rows.planMakesRow.inPlace == Tryz.prog.inPlace 5) = true := by kernel_rfl
theorem jc10 : (Rows.planMakesRow.unfollowed == Tryz.prog.unfollowed 5) = true := by kernel_rfl
theorem jc11 : (Rows.planMakesRow.recurses == Tryz.prog.recurses 5) = true := by kernel_rfl
theorem jc12 : (Rows.planMakesRow.named == Tryz.prog.varsNamed 5) = true := by kernel_rfl
theorem jc13 : (Rows.planMakesRow.maps == (Tryz.f5.params.toList ++ Rows.planMakesSpec.plain.varTypes Tryz.prog).any (Tryz.prog.mapsRec ·)) = true := by kernel_rfl
theorem jc14 : (Rows.planMakesRow.ifaces == (Tryz.f5.params.toList ++ Rows.planMakesSpec.plain.varTypes Tryz.prog).any (Tryz.prog.ifacesRec ·)) = true := by kernel_rfl
theorem jc15 : (Rows.planMakesRow.mapsOut == Tryz.prog.mapsAmong Tryz.f5.resultTypes.toList) = true := by kernel_rfl
theorem jc16 : (Rows.planMakesRow.loops == (Tryz.f5.params.toList ++ Rows.planMakesSpec.plain.varTypes Tryz.prog).any (Tryz.prog.loopsFrom ·)) = true := by kernel_rfl
theorem jc17 : (Rows.planMakesRow.wideKeys == (Tryz.f5.params.toList ++ Rows.planMakesSpec.plain.varTypes Tryz.prog ++ Tryz.f5.resultTypes.toList).any (Tryz.prog.wideKeysFrom ·)) = true := by kernel_rfl
theorem jc18 : (Rows.planMakesSpec.vars.all (Tryz.prog.varReadable ·)) = true := by kernel_rfl
theorem jc19 : (Tryz.f5.resultTypes.all (fun t => Tryz.prog.readableRec t && decide (t < Tryz.prog.types.size))) = true := by kernel_rfl
theorem jc20 : (Rows.planMakesRow.ifacesOut == Tryz.f5.resultTypes.toList.any (Tryz.prog.ifacesRec ·)) = true := by kernel_rfl
theorem jc21 : (Rows.planMakesRow.loopsOut == Tryz.f5.resultTypes.toList.any (Tryz.prog.loopsFrom ·)) = true := by kernel_rfl
theorem jc22 : (Rows.planMakesRow.plainKeys == Tryz.prog.plainKeys) = true := by kernel_rfl
theorem jc23 : (Rows.planMakesRow.shortTexts.isNone) = true := by kernel_rfl
theorem jc24 : (Tryz.prog.stopsHeard) = true := by kernel_rfl
theorem jc25 : (Tryz.prog.mayEnter) = true := by kernel_rfl
theorem jc26 : (Rows.planMakesRow.lifted == Tryz.prog.liftsFinal) = true := by kernel_rfl
theorem jc27 : (Tryz.prog.make == some Rows.planMakesRow.make) = true := by kernel_rfl
theorem jc28 : (Rows.planMakesRow.kinds == (if Rows.planMakesRow.domain.isEmpty then [] else Tryz.f5.params.toList.map fun t => match Tryz.prog.underlying t with | some (.int k) => some k | _ => none)) = true := by kernel_rfl
theorem jc29 : (Rows.planMakesRow.pinned == Rows.planMakesRow.pinnedBy) = true := by kernel_rfl
theorem jc30 : (Rows.planMakesRow.veiled == (Tryz.f5.params.toList ++ Rows.planMakesSpec.plain.varTypes Tryz.prog ++ Tryz.f5.resultTypes.toList).any (Tryz.prog.veiledRec ·)) = true := by kernel_rfl
theorem jc31 : (Rows.planMakesRow.veiledFits Tryz.prog Tryz.f5.params.toList (Tryz.f5.params.toList ++ Rows.planMakesSpec.plain.varTypes Tryz.prog ++ Tryz.f5.resultTypes.toList)) = true := by kernel_rfl
theorem closed : joinedFacts Tryz.prog 5 Tryz.f5 Rows.planMakesSpec Rows.planMakesRow = true := by
  unfold joinedFacts
  exact (and2 (and2 (and2 (and2 (and2 (and2 (and2 (and2 (and2 (and2 (and2 (and2 (and2 (and2 (and2 (and2 (and2 (and2 (and2 (and2 (and2 (and2 (and2 (and2 (and2 (and2 (and2 (and2 (and2 (and2 (and2 jc0 jc1) jc2) jc3) jc4) jc5) jc6) jc7) jc8) jc9) jc10) jc11) jc12) jc13) jc14) jc15) jc16) jc17) jc18) jc19) jc20) jc21) jc22) jc23) jc24) jc25) jc26) jc27) jc28) jc29) jc30) jc31)
theorem named : Tryz.prog.funcNamed Rows.planMakesRow.func = some 5 := by kernel_rfl
theorem over:Rows.planMakesRow.holds Tryz.pinned (OpenSpec.ofChange Rows.planMakesSpec):=
 OpenClaim.holds_of_wide 5 Tryz.f5 rfl rfl rfl rfl rfl rfl rfl ⟨rfl,rfl,rfl,rfl,rfl⟩ rfl rfl rfl rfl rfl named Tryz.func5 closed
  (of_decide_eq_true (by kernel_rfl)) (by unfold Func.isWrapper;first|(rw[if_pos (by decide+kernel)];kernel_rfl)|(rw[if_neg (by decide+kernel)];exact⟨rfl,rfl⟩))
  (fun os started H enc _=>lifted os started H enc)
end Go.Proofs.YtmibdabdlgmafaaGreatDoor.j9
