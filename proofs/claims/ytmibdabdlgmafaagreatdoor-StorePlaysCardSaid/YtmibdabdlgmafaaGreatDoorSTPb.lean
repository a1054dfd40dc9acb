/- Part of a card. -/
import Derived.Test.YtmibdabdlgmafaaGreatDoorSTPa
import Derived.Test.YtmibdabdlgmafaaGreatDoorTie
import Derived.Test.YtmibdabdlgmafaaGreatDoorCards
import Derived.Stop.Joined
import Derived.SevenTiedAt
import Derived.Test.YtmibdabdlgmafaaGreatDoorRows
set_option linter.all false
set_option maxRecDepth 100000
namespace Go.Proofs.YtmibdabdlgmafaaGreatDoor.jR
open Go.ChangeShapes Go.WideShapes Go.ChangeAt Go.RowKit Go.Eng
open Go.ChangeMaps (open_string shut_string)
theorem and2 {a b : Bool} (h : a = true) (k : b = true) : (a && b) = true := by rw [h, k]; rfl
theorem jc0 : (Rows.storePlaysRow.wf (OpenSpec.ofChange Rows.storePlaysSpec)) = true := by kernel_rfl
theorem jc1 : (laidOutB Tryz.prog) = true := by kernel_rfl
theorem jc2 : (mapsRowed Tryz.prog) = true := by kernel_rfl
theorem jc3 : (Tryz.f3.params.all (Tryz.prog.readableRec ·)) = true := by kernel_rfl
theorem jc4 : (namedTie Tryz.prog Rows.storePlaysRow.named Rows.storePlaysSpec.vars) = true := by kernel_rfl
theorem jc5 : (Rows.storePlaysRow.stops == []) = true := by kernel_rfl
theorem jc6 : (Tryz.prog.stops == []) = true := by kernel_rfl
theorem jc7 : (Rows.storePlaysRow.knobs == []) = true := by kernel_rfl
theorem jc8 : (Tryz.prog.stopKnobs == []) = true := by kernel_rfl
theorem jc9 : (Rows.storePlaysRow.inPlace == Tryz.prog.inPlace 3) = true := by kernel_rfl
theorem jc10 : (Rows.storePlaysRow.unfollowed == Tryz.prog.unfollowed 3) = true := by kernel_rfl
theorem jc11 : (Rows.storePlaysRow.recurses == Tryz.prog.recurses 3) = true := by kernel_rfl
theorem jc12 : (Rows.storePlaysRow.named == Tryz.prog.varsNamed 3) = true := by kernel_rfl
theorem jc13 : (Rows.storePlaysRow.maps == (Tryz.f3.params.toList ++ Rows.storePlaysSpec.plain.varTypes Tryz.prog).any (Tryz.prog.mapsRec ·)) = true := by kernel_rfl
theorem jc14 : (Rows.storePlaysRow.ifaces == (Tryz.f3.params.toList ++ Rows.storePlaysSpec.plain.varTypes Tryz.prog).any (Tryz.prog.ifacesRec ·)) = true := by kernel_rfl
theorem jc15 : (Rows.storePlaysRow.mapsOut == Tryz.prog.mapsAmong Tryz.f3.resultTypes.toList) = true := by kernel_rfl
theorem jc16 : (Rows.storePlaysRow.loops == (Tryz.f3.params.toList ++ Rows.storePlaysSpec.plain.varTypes Tryz.prog).any (Tryz.prog.loopsFrom ·)) = true := by kernel_rfl
theorem jc17 : (Rows.storePlaysRow.wideKeys == (Tryz.f3.params.toList ++ Rows.storePlaysSpec.plain.varTypes Tryz.prog ++ Tryz.f3.resultTypes.toList).any (Tryz.prog.wideKeysFrom ·)) = true := by kernel_rfl
theorem jc18 : (Rows.storePlaysSpec.vars.all (Tryz.prog.varReadable ·)) = true := by kernel_rfl
theorem jc19 : (Tryz.f3.resultTypes.all (fun t => Tryz.prog.readableRec t && decide (t < Tryz.prog.types.size))) = true := by kernel_rfl
theorem jc20 : (Rows.storePlaysRow.ifacesOut == Tryz.f3.resultTypes.toList.any (Tryz.prog.ifacesRec ·)) = true := by kernel_rfl
theorem jc21 : (Rows.storePlaysRow.loopsOut == Tryz.f3.resultTypes.toList.any (Tryz.prog.loopsFrom ·)) = true := by kernel_rfl
theorem jc22 : (Rows.storePlaysRow.plainKeys == Tryz.prog.plainKeys) = true := by kernel_rfl
theorem jc23 : (Rows.storePlaysRow.shortTexts.isNone) = true := by kernel_rfl
theorem jc24 : (Tryz.prog.stopsHeard) = true := by kernel_rfl
theorem jc25 : (Tryz.prog.mayEnter) = true := by kernel_rfl
theorem jc26 : (Rows.storePlaysRow.lifted == Tryz.prog.liftsFinal) = true := by kernel_rfl
theorem jc27 : (Tryz.prog.make == some Rows.storePlaysRow.make) = true := by kernel_rfl
theorem jc28 : (Rows.storePlaysRow.kinds == (if Rows.storePlaysRow.domain.isEmpty then [] else Tryz.f3.params.toList.map fun t => match Tryz.prog.underlying t with | some (.int k) => some k | _ => none)) = true := by kernel_rfl
theorem jc29 : (Rows.storePlaysRow.pinned == Rows.storePlaysRow.pinnedBy) = true := by kernel_rfl
theorem jc30 : (Rows.storePlaysRow.veiled == (Tryz.f3.params.toList ++ Rows.storePlaysSpec.plain.varTypes Tryz.prog ++ Tryz.f3.resultTypes.toList).any (Tryz.prog.veiledRec ·)) = true := by kernel_rfl
theorem jc31 : (Rows.storePlaysRow.veiledFits Tryz.prog Tryz.f3.params.toList (Tryz.f3.params.toList ++ Rows.storePlaysSpec.plain.varTypes Tryz.prog ++ Tryz.f3.resultTypes.toList)) = true := by kernel_rfl
theorem closed : joinedFacts Tryz.prog 3 Tryz.f3 Rows.storePlaysSpec Rows.storePlaysRow = true := by
  unfold joinedFacts
  exact (and2 (and2 (and2 (and2 (and2 (and2 (and2 (and2 (and2 (and2 (and2 (and2 (and2 (and2 (and2 (and2 (and2 (and2 (and2 (and2 (and2 (and2 (and2 (and2 (and2 (and2 (and2 (and2 (and2 (and2 (and2 jc0 jc1) jc2) jc3) jc4) jc5) jc6) jc7) jc8) jc9) jc10) jc11) jc12) jc13) jc14) jc15) jc16) jc17) jc18) jc19) jc20) jc21) jc22) jc23) jc24) jc25) jc26) jc27) jc28) jc29) jc30) jc31)
theorem named : Tryz.prog.funcNamed Rows.storePlaysRow.func = some 3 := by kernel_rfl
theorem over:Rows.storePlaysRow.holds Tryz.pinned (OpenSpec.ofChange Rows.storePlaysSpec):=
 OpenClaim.holds_of_wide 3 Tryz.f3 rfl rfl rfl rfl rfl rfl rfl ⟨rfl,rfl,rfl,rfl,rfl⟩ rfl rfl rfl rfl rfl named Tryz.func3 closed
  (of_decide_eq_true (by kernel_rfl)) (by unfold Func.isWrapper;first|(rw[if_pos (by decide+kernel)];kernel_rfl)|(rw[if_neg (by decide+kernel)];exact⟨rfl,rfl⟩))
  (fun os started H enc _=>lifted os started H enc)
end Go.Proofs.YtmibdabdlgmafaaGreatDoor.jR
