/- Part of a card. -/
import Derived.Test.YtmibdabdlgmafaaGreatDoorPLFa
import Derived.Test.YtmibdabdlgmafaaGreatDoorTie
import Derived.Test.YtmibdabdlgmafaaGreatDoorCards
import Derived.Stop.Joined
import Derived.SevenTiedAt
import Derived.Test.YtmibdabdlgmafaaGreatDoorRows
set_option linter.all false
set_option maxRecDepth 100000
namespace Go.Proofs.YtmibdabdlgmafaaGreatDoor.kv
open Go.ChangeShapes Go.WideShapes Go.ChangeAt Go.RowKit Go.Eng
open Go.ChangeMaps (open_string shut_string)
theorem and2 {a b : Bool} (h : a = true) (k : b = true) : (a && b) = true := by rw [h, k]; rfl
theorem jc0 : (Rows.planFirstRow.wf (OpenSpec.ofChange Rows.planFirstSpec)) = true := by kernel_rfl
theorem jc1 : (laidOutB Tryz.prog) = true := by kernel_rfl
theorem jc2 : (mapsRowed Tryz.prog) = true := by kernel_rfl
theorem jc3 : (Tryz.f6.params.all (Tryz.prog.readableRec ·)) = true := by kernel_rfl
theorem jc4 : (namedTie Tryz.prog Rows.planFirstRow.named Rows.planFirstSpec.vars) = true := by kernel_rfl
theorem jc5 : (Rows.planFirstRow.stops == []) = true := by kernel_rfl
theorem jc6 : (Tryz.prog.stops == []) = true := by kernel_rfl
theorem jc7 : (Rows.planFirstRow.knobs == []) = true := by kernel_rfl
theorem jc8 : (Tryz.prog.stopKnobs == []) = true := by kernel_rfl
theorem jc9 : (Rows.planFirstRow.inPlace == Tryz.prog.inPlace 6) = true := by kernel_rfl
theorem jc10 : (Rows.planFirstRow.unfollowed == Tryz.prog.unfollowed 6) = true := by kernel_rfl
theorem jc11 : (Rows.planFirstRow.recurses == Tryz.prog.recurses 6) = true := by kernel_rfl
theorem jc12 : (Rows.planFirstRow.named == Tryz.prog.varsNamed 6) = true := by kernel_rfl
theorem jc13 : (Rows.planFirstRow.maps == (Tryz.f6.params.toList ++ Rows.planFirstSpec.plain.varTypes Tryz.prog).any (Tryz.prog.mapsRec ·)) = true := by kernel_rfl
theorem jc14 : (Rows.planFirstRow.ifaces == (Tryz.f6.params.toList ++ Rows.planFirstSpec.plain.varTypes Tryz.prog).any (Tryz.prog.ifacesRec ·)) = true := by kernel_rfl
theorem jc15 : (Rows.planFirstRow.mapsOut == Tryz.prog.mapsAmong Tryz.f6.resultTypes.toList) = true := by kernel_rfl
theorem jc16 : (Rows.planFirstRow.loops == (Tryz.f6.params.toList ++ Rows.planFirstSpec.plain.varTypes Tryz.prog).any (Tryz.prog.loopsFrom ·)) = true := by kernel_rfl
theorem jc17 : (Rows.planFirstRow.wideKeys == (Tryz.f6.params.toList ++ Rows.planFirstSpec.plain.varTypes Tryz.prog ++ Tryz.f6.resultTypes.toList).any (Tryz.prog.wideKeysFrom ·)) = true := by kernel_rfl
theorem jc18 : (Rows.planFirstSpec.vars.all (Tryz.prog.varReadable ·)) = true := by kernel_rfl
theorem jc19 : (Tryz.f6.resultTypes.all (fun t => Tryz.prog.readableRec t && decide (t < Tryz.prog.types.size))) = true := by kernel_rfl
theorem jc20 : (Rows.planFirstRow.ifacesOut == Tryz.f6.resultTypes.toList.any (Tryz.prog.ifacesRec ·)) = true := by kernel_rfl
theorem jc21 : (Rows.planFirstRow.loopsOut == Tryz.f6.resultTypes.toList.any (Tryz.prog.loopsFrom ·)) = true := by kernel_rfl
theorem jc22 : (Rows.planFirstRow.plainKeys == Tryz.prog.plainKeys) = true := by kernel_rfl
theorem jc23 : (Rows.planFirstRow.shortTexts.isNone) = true := by kernel_rfl
theorem jc24 : (Tryz.prog.stopsHeard) = true := by kernel_rfl
theorem jc25 : (Tryz.prog.mayEnter) = true := by kernel_rfl
theorem jc26 : (Rows.planFirstRow.lifted == Tryz.prog.liftsFinal) = true := by kernel_rfl
theorem jc27 : (Tryz.prog.make == some Rows.planFirstRow.make) = true := by kernel_rfl
theorem jc28 : (Rows.planFirstRow.kinds == (if Rows.planFirstRow.domain.isEmpty then [] else Tryz.f6.params.toList.map fun t => match Tryz.prog.underlying t with | some (.int k) => some k | _ => none)) = true := by kernel_rfl
theorem jc29 : (Rows.planFirstRow.pinned == Rows.planFirstRow.pinnedBy) = true := by kernel_rfl
theorem jc30 : (Rows.planFirstRow.veiled == (Tryz.f6.params.toList ++ Rows.planFirstSpec.plain.varTypes Tryz.prog ++ Tryz.f6.resultTypes.toList).any (Tryz.prog.veiledRec ·)) = true := by kernel_rfl
theorem jc31 : (Rows.planFirstRow.veiledFits Tryz.prog Tryz.f6.params.toList (Tryz.f6.params.toList ++ Rows.planFirstSpec.plain.varTypes Tryz.prog ++ Tryz.f6.resultTypes.toList)) = true := by kernel_rfl
theorem closed : joinedFacts Tryz.prog 6 Tryz.f6 Rows.planFirstSpec Rows.planFirstRow = true := by
  unfold joinedFacts
  exact (and2 (and2 (and2 (and2 (and2 (and2 (and2 (and2 (and2 (and2 (and2 (and2 (and2 (and2 (and2 (and2 (and2 (and2 (and2 (and2 (and2 (and2 (and2 (and2 (and2 (and2 (and2 (and2 (and2 (and2 (and2 jc0 jc1) jc2) jc3) jc4) jc5) jc6) jc7) jc8) jc9) jc10) jc11) jc12) jc13) jc14) jc15) jc16) jc17) jc18) jc19) jc20) jc21) jc22) jc23) jc24) jc25) jc26) jc27) jc28) jc29) jc30) jc31)
theorem named : Tryz.prog.funcNamed Rows.planFirstRow.func = some 6 := by kernel_rfl
theorem over:Rows.planFirstRow.holds Tryz.pinned (OpenSpec.ofChange Rows.planFirstSpec):=
 OpenClaim.holds_of_wide 6 Tryz.f6 rfl rfl rfl rfl rfl rfl rfl ⟨rfl,rfl,rfl,rfl,rfl⟩ rfl rfl rfl rfl rfl named Tryz.func6 closed
  (of_decide_eq_true (by kernel_rfl)) (by unfold Func.isWrapper;first|(rw[if_pos (by decide+kernel)];kernel_rfl)|(rw[if_neg (by decide+kernel)];exact⟨rfl,rfl⟩))
  (fun os started H enc _=>lifted os started H enc)
end Go.Proofs.YtmibdabdlgmafaaGreatDoor.kv
