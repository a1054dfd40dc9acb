/- Part of a card. -/
import Derived.Test.YtmibdabdlgmafaaGreatDoorSWWa
import Derived.Test.YtmibdabdlgmafaaGreatDoorTie
import Derived.Test.YtmibdabdlgmafaaGreatDoorCards
import Derived.Stop.Joined
import Derived.SevenTiedAt
import Derived.Test.YtmibdabdlgmafaaGreatDoorRows
set_option linter.all false
set_option maxRecDepth 100000
namespace Go.Proofs.YtmibdabdlgmafaaGreatDoor.jy
open Go.ChangeShapes Go.WideShapes Go.ChangeAt Go.RowKit Go.Eng
open Go.ChangeMaps (open_string shut_string)
theorem and2 {a b : Bool} (h : a = true) (k : b = true) : (a && b) = true := by rw [h, k]; rfl
theorem jc0 : (Rows.sweepWholeRow.wf (OpenSpec.ofChange Rows.sweepWholeSpec)) = true := by kernel_rfl
theorem jc1 : (laidOutB Tryz.prog) = true := by kernel_rfl
theorem jc2 : (mapsRowed Tryz.prog) = true := by kernel_rfl
theorem jc3 : (Tryz.f12.params.all (Tryz.prog.readableRec ·)) = true := by kernel_rfl
theorem jc4 : (namedTie Tryz.prog Rows.sweepWholeRow.named Rows.sweepWholeSpec.vars) = true := by kernel_rfl
theorem jc5 : (Rows.sweepWholeRow.stops == []) = true := by kernel_rfl
theorem jc6 : (Tryz.prog.stops == []) = true := by kernel_rfl
theorem jc7 : (Rows.sweepWholeRow.knobs == []) = true := by kernel_rfl
theorem jc8 : (Tryz.prog.stopKnobs == []) = true := by kernel_rfl
theorem jc9 : (Rows.sweepWholeRow.inPlace == Tryz.prog.inPlace 12) = true := by kernel_rfl
theorem jc10 : (Rows.sweepWholeRow.unfollowed == Tryz.prog.unfollowed 12) = true := by kernel_rfl
theorem jc11 : (Rows.sweepWholeRow.recurses == Tryz.prog.recurses 12) = true := by kernel_rfl
theorem jc12 : (Rows.sweepWholeRow.named == Tryz.prog.varsNamed 12) = true := by kernel_rfl
theorem jc13 : (Rows.sweepWholeRow.maps == (Tryz.f12.params.toList ++ Rows.sweepWholeSpec.plain.varTypes Tryz.prog).any (Tryz.prog.mapsRec ·)) = true := by kernel_rfl
theorem jc14 : (Rows.sweepWholeRow.ifaces == (Tryz.f12.params.toList ++ Rows.sweepWholeSpec.plain.varTypes Tryz.prog).any (Tryz.prog.ifacesRec ·)) = true := by kernel_rfl
theorem jc15 : (Rows.sweepWholeRow.mapsOut == Tryz.prog.mapsAmong Tryz.f12.resultTypes.toList) = true := by kernel_rfl
theorem jc16 : (Rows.sweepWholeRow.loops == (Tryz.f12.params.toList ++ Rows.sweepWholeSpec.plain.varTypes Tryz.prog).any (Tryz.prog.loopsFrom ·)) = true := by kernel_rfl
theorem jc17 : (Rows.sweepWholeRow.wideKeys == (Tryz.f12.params.toList ++ Rows.sweepWholeSpec.plain.varTypes Tryz.prog ++ Tryz.f12.resultTypes.toList).any (Tryz.prog.wideKeysFrom ·)) = true := by kernel_rfl
theorem jc18 : (Rows.sweepWholeSpec.vars.all (Tryz.prog.varReadable ·)) = true := by kernel_rfl
theorem jc19 : (Tryz.f12.resultTypes.all (fun t => Tryz.prog.readableRec t && decide (t < Tryz.prog.types.size))) = true := by kernel_rfl
theorem jc20 : (Rows.sweepWholeRow.ifacesOut == Tryz.f12.resultTypes.toList.any (Tryz.prog.ifacesRec ·)) = true := by kernel_rfl
theorem jc21 : (Rows.sweepWholeRow.loopsOut == Tryz.f12.resultTypes.toList.any (Tryz.prog.loopsFrom ·)) = true := by kernel_rfl
theorem jc22 : (Rows.sweepWholeRow.plainKeys == Tryz.prog.plainKeys) = true := by kernel_rfl
theorem jc23 : (Rows.sweepWholeRow.shortTexts.isNone) = true := by kernel_rfl
theorem jc24 : (Tryz.prog.stopsHeard) = true := by kernel_rfl
theorem jc25 : (Tryz.prog.mayEnter) = true := by kernel_rfl
theorem jc26 : (Rows.sweepWholeRow.lifted == Tryz.prog.liftsFinal) = true := by kernel_rfl
theorem jc27 : (Tryz.prog.make == some Rows.sweepWholeRow.make) = true := by kernel_rfl
theorem jc28 : (Rows.sweepWholeRow.kinds == (if Rows.sweepWholeRow.domain.isEmpty then [] else Tryz.f12.params.toList.map fun t => match Tryz.prog.underlying t with | some (.int k) => some k | _ => none)) = true := by kernel_rfl
theorem jc29 : (Rows.sweepWholeRow.pinned == Rows.sweepWholeRow.pinnedBy) = true := by kernel_rfl
theorem jc30 : (Rows.sweepWholeRow.veiled == (Tryz.f12.params.toList ++ Rows.sweepWholeSpec.plain.varTypes Tryz.prog ++ Tryz.f12.resultTypes.toList).any (Tryz.prog.veiledRec ·)) = true := by kernel_rfl
theorem jc31 : (Rows.sweepWholeRow.veiledFits Tryz.prog Tryz.f12.params.toList (Tryz.f12.params.toList ++ Rows.sweepWholeSpec.plain.varTypes Tryz.prog ++ Tryz.f12.resultTypes.toList)) = true := by kernel_rfl
theorem closed : joinedFacts Tryz.prog 12 Tryz.f12 Rows.sweepWholeSpec Rows.sweepWholeRow = true := by
  unfold joinedFacts
  exact (and2 (and2 (and2 (and2 (and2 (and2 (and2 (and2 (and2 (and2 (and2 (and2 (and2 (and2 (and2 (and2 (and2 (and2 (and2 (and2 (and2 (and2 (and2 (and2 (and2 (and2 (and2 (and2 (and2 (and2 (and2 jc0 jc1) jc2) jc3) jc4) jc5) jc6) jc7) jc8) jc9) jc10) jc11) jc12) jc13) jc14) jc15) jc16) jc17) jc18) jc19) jc20) jc21) jc22) jc23) jc24) jc25) jc26) jc27) jc28) jc29) jc30) jc31)
theorem named : Tryz.prog.funcNamed Rows.sweepWholeRow.func = some 12 := by kernel_rfl
theorem over:Rows.sweepWholeRow.holds Tryz.pinned (OpenSpec.ofChange Rows.sweepWholeSpec):=
 OpenClaim.holds_of_wide 12 Tryz.f12 rfl rfl rfl rfl rfl rfl rfl ⟨rfl,rfl,rfl,rfl,rfl⟩ rfl rfl rfl rfl rfl named Tryz.func12 closed
  (of_decide_eq_true (by kernel_rfl)) (by unfold Func.isWrapper;first|(rw[if_pos (by decide+kernel)];kernel_rfl)|(rw[if_neg (by decide+kernel)];exact⟨rfl,rfl⟩))
  (fun os started H enc _=>lifted os started H enc)
end Go.Proofs.YtmibdabdlgmafaaGreatDoor.jy
