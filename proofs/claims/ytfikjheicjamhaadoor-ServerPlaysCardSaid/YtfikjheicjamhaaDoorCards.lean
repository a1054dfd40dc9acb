/-
  DERIVED. GIVEN WITH THE SEED: THE CARDS: each row of YtfikjheicjamhaaDoorRows.lean that lists a variable, with what it lists TIED to the program's text (the seventh form; the later family's looks); each row that meets fmt, with fmt's text TOLD by the authors' own Lean function (tested against real Go, not proved from fmt's source: count such statements apart). THE CARD IS WHAT COUNTS. Prove the row's statement (the work); the ties are given (YtfikjheicjamhaaDoorTie.lean); close each card by the builder's one call (the guide's Derived/Test/ToyasCard.lean, 'card_holds'). Laid BY PROGRAM, IN A SANDBOX (cutbox-door.mjs). By AI agents, Wed Nov 11 2026. No macro, syntax, notation, axiom, sorry.
-/
import Derived.Test.YtfikjheicjamhaaDoorRows
import GoSem.ClaimSeven
namespace Go.Proofs.YtfikjheicjamhaaDoor
namespace Rows

/-- THE TIED CARD OF 'lighteragelaw22.SlotsMay'. -/
def slotsMayCard : Claim7 := { stood := { row := slotsMayRow, standIns := [], harness := (true, "e1f027158109395386f4b5ea50bab2ca9114e61d3bfdcb33eae41ecd874161d5"), looks := true }, kinds := [], alts := [], laidByText := true, laidKinds := [.data], laidTests := true, laidLooks := .later }
def SlotsMayCardSaid : Prop := Claim7.holds Tryd.pinned (.plain (OpenSpec.ofChange slotsMaySpec)) slotsMayCard

/-- THE TIED CARD OF 'lighteragelaw22.SlotsReads'. -/
def slotsReadsCard : Claim7 := { stood := { row := slotsReadsRow, standIns := [], harness := (true, "e1f027158109395386f4b5ea50bab2ca9114e61d3bfdcb33eae41ecd874161d5"), looks := true }, kinds := [], alts := [], laidByText := true, laidKinds := [.data], laidTests := true, laidLooks := .later }
def SlotsReadsCardSaid : Prop := Claim7.holds Tryd.pinned (.plain (OpenSpec.ofChange slotsReadsSpec)) slotsReadsCard

/-- THE TIED CARD OF 'lighteragelaw22.SlotsWrong'. -/
def slotsWrongCard : Claim7 := { stood := { row := slotsWrongRow, standIns := [], harness := (true, "e1f027158109395386f4b5ea50bab2ca9114e61d3bfdcb33eae41ecd874161d5"), looks := true }, kinds := [], alts := [], laidByText := true, laidKinds := [.data], laidTests := true, laidLooks := .later }
def SlotsWrongCardSaid : Prop := Claim7.holds Tryd.pinned (.plain (OpenSpec.ofChange slotsWrongSpec)) slotsWrongCard

/-- THE TIED CARD OF 'lighteragelaw22.SlotsBacks'. -/
def slotsBacksCard : Claim7 := { stood := { row := slotsBacksRow, standIns := [], harness := (true, "e1f027158109395386f4b5ea50bab2ca9114e61d3bfdcb33eae41ecd874161d5"), looks := true }, kinds := [], alts := [], laidByText := true, laidKinds := [.data], laidTests := true, laidLooks := .later }
def SlotsBacksCardSaid : Prop := Claim7.holds Tryd.pinned (.plain (OpenSpec.ofChange slotsBacksSpec)) slotsBacksCard

/-- THE TIED CARD OF 'lighteragelaw22.SlotsCrashes'. -/
def slotsCrashesCard : Claim7 := { stood := { row := slotsCrashesRow, standIns := [], harness := (true, "e1f027158109395386f4b5ea50bab2ca9114e61d3bfdcb33eae41ecd874161d5"), looks := true }, kinds := [], alts := [], laidByText := true, laidKinds := [.data], laidTests := true, laidLooks := .later }
def SlotsCrashesCardSaid : Prop := Claim7.holds Tryd.pinned (.plain (OpenSpec.ofChange slotsCrashesSpec)) slotsCrashesCard

/-- THE TIED CARD OF 'lighteragelaw13.StorePlaces'. -/
def storePlacesCard : Claim7 := { stood := { row := storePlacesRow, standIns := [], harness := (true, "e1f027158109395386f4b5ea50bab2ca9114e61d3bfdcb33eae41ecd874161d5"), looks := true }, kinds := [], alts := [], laidByText := true, laidKinds := [.data], laidTests := true, laidLooks := .later }
def StorePlacesCardSaid : Prop := Claim7.holds Tryd.pinned (.plain (OpenSpec.ofChange storePlacesSpec)) storePlacesCard

/-- THE TIED CARD OF 'lighteragelaw13.StoreKeeps'. -/
def storeKeepsCard : Claim7 := { stood := { row := storeKeepsRow, standIns := [], harness := (true, "e1f027158109395386f4b5ea50bab2ca9114e61d3bfdcb33eae41ecd874161d5"), looks := true }, kinds := [], alts := [], laidByText := true, laidKinds := [.data], laidTests := true, laidLooks := .later }
def StoreKeepsCardSaid : Prop := Claim7.holds Tryd.pinned (.plain (OpenSpec.ofChange storeKeepsSpec)) storeKeepsCard

/-- THE TIED CARD OF 'lighteragelaw20.ServerPlays'. -/
def serverPlaysCard : Claim7 := { stood := { row := serverPlaysRow, standIns := [], harness := (true, "e1f027158109395386f4b5ea50bab2ca9114e61d3bfdcb33eae41ecd874161d5"), looks := true }, kinds := [], alts := [], laidByText := true, laidKinds := [.data], laidTests := true, laidLooks := .later }
def ServerPlaysCardSaid : Prop := Claim7.holds Tryd.pinned (.plain (OpenSpec.ofChange serverPlaysSpec)) serverPlaysCard

/-- THE TIED CARD OF 'lighteragelaw20.ServerGives'. -/
def serverGivesCard : Claim7 := { stood := { row := serverGivesRow, standIns := [], harness := (true, "e1f027158109395386f4b5ea50bab2ca9114e61d3bfdcb33eae41ecd874161d5"), looks := true }, kinds := [], alts := [], laidByText := true, laidKinds := [.data], laidTests := true, laidLooks := .later }
def ServerGivesCardSaid : Prop := Claim7.holds Tryd.pinned (.plain (OpenSpec.ofChange serverGivesSpec)) serverGivesCard

/-- THE TIED CARD OF 'lighteragelaw20.ServerSizes'. -/
def serverSizesCard : Claim7 := { stood := { row := serverSizesRow, standIns := [], harness := (true, "e1f027158109395386f4b5ea50bab2ca9114e61d3bfdcb33eae41ecd874161d5"), looks := true }, kinds := [], alts := [], laidByText := true, laidKinds := [.data], laidTests := true, laidLooks := .later }
def ServerSizesCardSaid : Prop := Claim7.holds Tryd.pinned (.plain (OpenSpec.ofChange serverSizesSpec)) serverSizesCard

/-- THE SECOND FORM's CARD OF 'lighteragelaw22.SlotsMay'. -/
def slotsMayUptoCard : Claim7 := { stood := { row := slotsMayUptoRow, standIns := [], harness := (true, "e1f027158109395386f4b5ea50bab2ca9114e61d3bfdcb33eae41ecd874161d5"), looks := true }, kinds := [], alts := [], laidByText := true, laidKinds := [.data], laidTests := true, laidLooks := .later }
def SlotsMayUptoCardSaid : Prop := Claim7.holds Tryd.pinned (.plain (OpenSpec.upto slotsMaySpec)) slotsMayUptoCard

/-- THE SECOND FORM's CARD OF 'lighteragelaw22.SlotsReads'. -/
def slotsReadsUptoCard : Claim7 := { stood := { row := slotsReadsUptoRow, standIns := [], harness := (true, "e1f027158109395386f4b5ea50bab2ca9114e61d3bfdcb33eae41ecd874161d5"), looks := true }, kinds := [], alts := [], laidByText := true, laidKinds := [.data], laidTests := true, laidLooks := .later }
def SlotsReadsUptoCardSaid : Prop := Claim7.holds Tryd.pinned (.plain (OpenSpec.upto slotsReadsSpec)) slotsReadsUptoCard

/-- THE SECOND FORM's CARD OF 'lighteragelaw22.SlotsWrong'. -/
def slotsWrongUptoCard : Claim7 := { stood := { row := slotsWrongUptoRow, standIns := [], harness := (true, "e1f027158109395386f4b5ea50bab2ca9114e61d3bfdcb33eae41ecd874161d5"), looks := true }, kinds := [], alts := [], laidByText := true, laidKinds := [.data], laidTests := true, laidLooks := .later }
def SlotsWrongUptoCardSaid : Prop := Claim7.holds Tryd.pinned (.plain (OpenSpec.upto slotsWrongSpec)) slotsWrongUptoCard

/-- THE SECOND FORM's CARD OF 'lighteragelaw22.SlotsBacks'. -/
def slotsBacksUptoCard : Claim7 := { stood := { row := slotsBacksUptoRow, standIns := [], harness := (true, "e1f027158109395386f4b5ea50bab2ca9114e61d3bfdcb33eae41ecd874161d5"), looks := true }, kinds := [], alts := [], laidByText := true, laidKinds := [.data], laidTests := true, laidLooks := .later }
def SlotsBacksUptoCardSaid : Prop := Claim7.holds Tryd.pinned (.plain (OpenSpec.upto slotsBacksSpec)) slotsBacksUptoCard

/-- THE SECOND FORM's CARD OF 'lighteragelaw22.SlotsCrashes'. -/
def slotsCrashesUptoCard : Claim7 := { stood := { row := slotsCrashesUptoRow, standIns := [], harness := (true, "e1f027158109395386f4b5ea50bab2ca9114e61d3bfdcb33eae41ecd874161d5"), looks := true }, kinds := [], alts := [], laidByText := true, laidKinds := [.data], laidTests := true, laidLooks := .later }
def SlotsCrashesUptoCardSaid : Prop := Claim7.holds Tryd.pinned (.plain (OpenSpec.upto slotsCrashesSpec)) slotsCrashesUptoCard

/-- THE SECOND FORM's CARD OF 'lighteragelaw13.StorePlaces'. -/
def storePlacesUptoCard : Claim7 := { stood := { row := storePlacesUptoRow, standIns := [], harness := (true, "e1f027158109395386f4b5ea50bab2ca9114e61d3bfdcb33eae41ecd874161d5"), looks := true }, kinds := [], alts := [], laidByText := true, laidKinds := [.data], laidTests := true, laidLooks := .later }
def StorePlacesUptoCardSaid : Prop := Claim7.holds Tryd.pinned (.plain (OpenSpec.upto storePlacesSpec)) storePlacesUptoCard

/-- THE SECOND FORM's CARD OF 'lighteragelaw13.StoreKeeps'. -/
def storeKeepsUptoCard : Claim7 := { stood := { row := storeKeepsUptoRow, standIns := [], harness := (true, "e1f027158109395386f4b5ea50bab2ca9114e61d3bfdcb33eae41ecd874161d5"), looks := true }, kinds := [], alts := [], laidByText := true, laidKinds := [.data], laidTests := true, laidLooks := .later }
def StoreKeepsUptoCardSaid : Prop := Claim7.holds Tryd.pinned (.plain (OpenSpec.upto storeKeepsSpec)) storeKeepsUptoCard

/-- THE SECOND FORM's CARD OF 'lighteragelaw20.ServerPlays'. -/
def serverPlaysUptoCard : Claim7 := { stood := { row := serverPlaysUptoRow, standIns := [], harness := (true, "e1f027158109395386f4b5ea50bab2ca9114e61d3bfdcb33eae41ecd874161d5"), looks := true }, kinds := [], alts := [], laidByText := true, laidKinds := [.data], laidTests := true, laidLooks := .later }
def ServerPlaysUptoCardSaid : Prop := Claim7.holds Tryd.pinned (.plain (OpenSpec.upto serverPlaysSpec)) serverPlaysUptoCard

/-- THE SECOND FORM's CARD OF 'lighteragelaw20.ServerGives'. -/
def serverGivesUptoCard : Claim7 := { stood := { row := serverGivesUptoRow, standIns := [], harness := (true, "e1f027158109395386f4b5ea50bab2ca9114e61d3bfdcb33eae41ecd874161d5"), looks := true }, kinds := [], alts := [], laidByText := true, laidKinds := [.data], laidTests := true, laidLooks := .later }
def ServerGivesUptoCardSaid : Prop := Claim7.holds Tryd.pinned (.plain (OpenSpec.upto serverGivesSpec)) serverGivesUptoCard

/-- THE SECOND FORM's CARD OF 'lighteragelaw20.ServerSizes'. -/
def serverSizesUptoCard : Claim7 := { stood := { row := serverSizesUptoRow, standIns := [], harness := (true, "e1f027158109395386f4b5ea50bab2ca9114e61d3bfdcb33eae41ecd874161d5"), looks := true }, kinds := [], alts := [], laidByText := true, laidKinds := [.data], laidTests := true, laidLooks := .later }
def ServerSizesUptoCardSaid : Prop := Claim7.holds Tryd.pinned (.plain (OpenSpec.upto serverSizesSpec)) serverSizesUptoCard
end Rows
end Go.Proofs.YtfikjheicjamhaaDoor
