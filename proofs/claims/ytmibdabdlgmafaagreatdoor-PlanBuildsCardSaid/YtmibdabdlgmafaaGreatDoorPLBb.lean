/- Part of a card. -/
import Derived.Test.YtmibdabdlgmafaaGreatDoorPLBa
import Derived.Test.YtmibdabdlgmafaaGreatDoorTie
import Derived.Test.YtmibdabdlgmafaaGreatDoorCards
import Derived.Stop.Joined
import Derived.SevenTiedAt
import Derived.Test.YtmibdabdlgmafaaGreatDoorRows
set_option linter.all false
set_option maxRecDepth 100000
namespace Go.Proofs.YtmibdabdlgmafaaGreatDoor.jE
open Go.ChangeShapes Go.WideShapes Go.ChangeAt Go.RowKit Go.Eng
open Go.ChangeMaps (open_string shut_string)
theorem and2 {a b : Bool} (h : a = true) (k : b = true) : (a && b) = true := by rw [h, k]; rfl
theorem jc0 : (Rows.planBuildsRow.wf (OpenSpec.ofChange Rows.planBuildsSpec)) = true := by kernel_rfl
theorem jc1 : (laidOutB Tryz.prog) = true := by kernel_rfl
theorem jc2 : (mapsRowed Tryz.prog) = true := by kernel_rfl
theorem jc3 : (Tryz.f7.params.all (Tryz.prog.readableRec ·)) = true := by kernel_rfl
theorem jc4 : (namedTie Tryz.prog Rows.planBuildsRow.named Rows.planBuildsSpec.vars) = true := by kernel_rfl
theorem jc5 : (Rows.planBuildsRow.stops == []) = true := by kernel_rfl
theorem jc6 : (Tryz.prog.stops == []) = true := by kernel_rfl
theorem jc7 : (Rows.planBuildsRow.knobs == []) = true := by kernel_rfl
theorem jc8 : (Tryz.prog.stopKnobs == []) = true := by kernel_rfl
theorem jc9 : (Rows.planBuildsRow.inPlace == Tryz.prog.inPlace 7) = true := by kernel_rfl
theorem jc10 : (Rows.planBuildsRow.unfollowed == Tryz.prog.unfollowed 7) = true := by kernel_rfl
theorem jc11 : (Rows.planBuildsRow.recurses == Tryz.prog.recurses 7) = true := by kernel_rfl
theorem jc12 : (Rows.planBuildsRow.named == Tryz.prog.varsNamed 7) = true := by kernel_rfl
theorem jc13 : (Rows.planBuildsRow.maps == (Tryz.f7.params.toList ++ Rows.planBuildsSpec.plain.varTypes Tryz.prog).any (Tryz.prog.mapsRec ·)) = true := by kernel_rfl
theorem jc14 : (Rows.planBuildsRow.ifaces == (Tryz.f7.params.toList ++ Rows.planBuildsSpec.plain.varTypes Tryz.prog).any (Tryz.prog.ifacesRec ·)) = true := by kernel_rfl
theorem jc15 : (Rows.planBuildsRow.mapsOut == Tryz.prog.mapsAmong Tryz.f7.resultTypes.toList) = true := by kernel_rfl
theorem jc16 : (Rows.planBuildsRow.loops == (Tryz.f7.params.toList ++ Rows.planBuildsSpec.plain.varTypes Tryz.prog).any (Tryz.prog.loopsFrom ·)) = true := by kernel_rfl
theorem jc17 : (Rows.planBuildsRow.wideKeys == (Tryz.f7.params.toList ++ Rows.planBuildsSpec.plain.varTypes Tryz.prog ++ Tryz.f7.resultTypes.toList).any (Tryz.prog.wideKeysFrom ·)) = true := by kernel_rfl
theorem jc18 : (Rows.planBuildsSpec.vars.all (Tryz.prog.varReadable ·)) = true := by kernel_rfl
theorem jc19 : (Tryz.f7.resultTypes.all (fun t => Tryz.prog.readableRec t && decide (t < Tryz.prog.types.size))) = true := by kernel_rfl
theorem jc20 : (Rows.planBuildsRow.ifacesOut == Tryz.f7.resultTypes.toList.any (Tryz.prog.ifacesRec ·)) = true := by kernel_rfl
theorem jc21 : (Rows.planBuildsRow.loopsOut == Tryz.f7.resultTypes.toList.any (Tryz.prog.loopsFrom ·)) = true := by kernel_rfl
theorem jc22 : (Rows.planBuildsRow.plainKeys == Tryz.prog.plainKeys) = true := by kernel_rfl
theorem jc23 : (Rows.planBuildsRow.shortTexts.isNone) = true := by kernel_rfl
theorem jc24 : (Tryz.prog.stopsHeard) = true := by kernel_rfl
theorem jc25 : (Tryz.prog.mayEnter) = true := by kernel_rfl
theorem jc26 : (Rows.planBuildsRow.lifted == Tryz.prog.liftsFinal) = true := by kernel_rfl
theorem jc27 : (Tryz.prog.make == some Rows.planBuildsRow.make) = true := by kernel_rfl
theorem jc28 : (Rows.planBuildsRow.kinds == (if Rows.planBuildsRow.domain.isEmpty then [] else Tryz.f7.params.toList.map fun t => match Tryz.prog.underlying t with | some (.int k) => some k | _ => none)) = true := by kernel_rfl
theorem jc29 : (Rows.planBuildsRow.pinned == Rows.planBuildsRow.pinnedBy) = true := by kernel_rfl
theorem jc30 : (Rows.planBuildsRow.veiled == (Tryz.f7.params.toList ++ Rows.planBuildsSpec.plain.varTypes Tryz.prog ++ Tryz.f7.resultTypes.toList).any (Tryz.prog.veiledRec ·)) = true := by kernel_rfl
theorem jc31 : (Rows.planBuildsRow.veiledFits Tryz.prog Tryz.f7.params.toList (Tryz.f7.params.toList ++ Rows.planBuildsSpec.plain.varTypes Tryz.prog ++ Tryz.f7.resultTypes.toList)) = true := by kernel_rfl
theorem closed : joinedFacts Tryz.prog 7 Tryz.f7 Rows.planBuildsSpec Rows.planBuildsRow = true := by
  unfold joinedFacts
  exact (and2 (and2 (and2 (and2 (and2 (and2 (and2 (and2 (and2 (and2 (and2 (and2 (and2 (and2 (and2 (and2 (and2 (and2 (and2 (and2 (and2 (and2 (and2 (and2 (and2 (and2 (and2 (and2 (and2 (and2 (and2 jc0 jc1) jc2) jc3) jc4) jc5) jc6) jc7) jc8) jc9) jc10) jc11) jc12) jc13) jc14) jc15) jc16) jc17) jc18) jc19) jc20) jc21) jc22) jc23) jc24) jc25) jc26) jc27) jc28) jc29) jc30) jc31)
theorem named : Tryz.prog.funcNamed Rows.planBuildsRow.func = some 7 := by kernel_rfl
theorem over:Rows.planBuildsRow.holds Tryz.pinned (OpenSpec.ofChange Rows.planBuildsSpec):=
 OpenClaim.holds_of_wide 7 Tryz.f7 rfl rfl rfl rfl rfl rfl rfl ⟨rfl,rfl,rfl,rfl,rfl⟩ rfl rfl rfl rfl rfl named Tryz.func7 closed
  (of_decide_eq_true (by kernel_rfl)) (by unfold Func.isWrapper;first|(rw[if_pos (by decide+kernel)];kernel_rfl)|(rw[if_neg (by decide+kernel)];exact⟨rfl,rfl⟩))
  (fun os started H enc _=>lifted os started H enc)
end Go.Proofs.YtmibdabdlgmafaaGreatDoor.jE
