/-
  DERIVED. GIVEN WITH THE SEED: THE CARDS: each row of YtfikjheicjamhaaGreatDoorRows.lean that lists a variable, with what it lists TIED to the program's text (the seventh form; the later family's looks); each row that meets fmt, with fmt's text TOLD by the authors' own Lean function (tested against real Go, not proved from fmt's source: count such statements apart). THE CARD IS WHAT COUNTS. Prove the row's statement (the work); the ties are given (YtfikjheicjamhaaGreatDoorTie.lean); close each card by the builder's one call (the guide's Derived/Test/ToyasCard.lean, 'card_holds'). Laid BY PROGRAM, IN A SANDBOX (cutbox-door.mjs). By AI agents, Wed Nov 11 2026. No macro, syntax, notation, axiom, sorry.
-/
import Derived.Test.YtfikjheicjamhaaGreatDoorRows
import GoSem.ClaimSeven
namespace Go.Proofs.YtfikjheicjamhaaGreatDoor
namespace Rows

/-- THE TIED CARD OF 'lighteragelaw22.SlotsPlays'. -/
def slotsPlaysCard : Claim7 := { stood := { row := slotsPlaysRow, standIns := [], harness := (true, "2b86111e01aa0fe406d4a86f5e060ad8c305d3d8929197cef4b6385d9393bddd"), looks := true }, kinds := [], alts := [], laidByText := true, laidKinds := [.data], laidTests := true, laidLooks := .later }
def SlotsPlaysCardSaid : Prop := Claim7.holds Tryz.pinned (.plain (OpenSpec.ofChange slotsPlaysSpec)) slotsPlaysCard

/-- THE TIED CARD OF 'lighteragelaw13.StoreCrashes'. -/
def storeCrashesCard : Claim7 := { stood := { row := storeCrashesRow, standIns := [], harness := (true, "2b86111e01aa0fe406d4a86f5e060ad8c305d3d8929197cef4b6385d9393bddd"), looks := true }, kinds := [], alts := [], laidByText := true, laidKinds := [.data], laidTests := true, laidLooks := .later }
def StoreCrashesCardSaid : Prop := Claim7.holds Tryz.pinned (.plain (OpenSpec.ofChange storeCrashesSpec)) storeCrashesCard

/-- THE TIED CARD OF 'lighteragelaw13.StorePlays'. -/
def storePlaysCard : Claim7 := { stood := { row := storePlaysRow, standIns := [], harness := (true, "2b86111e01aa0fe406d4a86f5e060ad8c305d3d8929197cef4b6385d9393bddd"), looks := true }, kinds := [], alts := [], laidByText := true, laidKinds := [.data], laidTests := true, laidLooks := .later }
def StorePlaysCardSaid : Prop := Claim7.holds Tryz.pinned (.plain (OpenSpec.ofChange storePlaysSpec)) storePlaysCard

/-- THE TIED CARD OF 'lighteragelaw13.StoreSizes'. -/
def storeSizesCard : Claim7 := { stood := { row := storeSizesRow, standIns := [], harness := (true, "2b86111e01aa0fe406d4a86f5e060ad8c305d3d8929197cef4b6385d9393bddd"), looks := true }, kinds := [], alts := [], laidByText := true, laidKinds := [.data], laidTests := true, laidLooks := .later }
def StoreSizesCardSaid : Prop := Claim7.holds Tryz.pinned (.plain (OpenSpec.ofChange storeSizesSpec)) storeSizesCard

/-- THE TIED CARD OF 'lighteragelaw20.ServerLoads'. -/
def serverLoadsCard : Claim7 := { stood := { row := serverLoadsRow, standIns := [], harness := (true, "2b86111e01aa0fe406d4a86f5e060ad8c305d3d8929197cef4b6385d9393bddd"), looks := true }, kinds := [], alts := [], laidByText := true, laidKinds := [.data], laidTests := true, laidLooks := .later }
def ServerLoadsCardSaid : Prop := Claim7.holds Tryz.pinned (.plain (OpenSpec.ofChange serverLoadsSpec)) serverLoadsCard

/-- THE SECOND FORM's CARD OF 'lighteragelaw22.SlotsPlays'. -/
def slotsPlaysUptoCard : Claim7 := { stood := { row := slotsPlaysUptoRow, standIns := [], harness := (true, "2b86111e01aa0fe406d4a86f5e060ad8c305d3d8929197cef4b6385d9393bddd"), looks := true }, kinds := [], alts := [], laidByText := true, laidKinds := [.data], laidTests := true, laidLooks := .later }
def SlotsPlaysUptoCardSaid : Prop := Claim7.holds Tryz.pinned (.plain (OpenSpec.upto slotsPlaysSpec)) slotsPlaysUptoCard

/-- THE SECOND FORM's CARD OF 'lighteragelaw13.StoreCrashes'. -/
def storeCrashesUptoCard : Claim7 := { stood := { row := storeCrashesUptoRow, standIns := [], harness := (true, "2b86111e01aa0fe406d4a86f5e060ad8c305d3d8929197cef4b6385d9393bddd"), looks := true }, kinds := [], alts := [], laidByText := true, laidKinds := [.data], laidTests := true, laidLooks := .later }
def StoreCrashesUptoCardSaid : Prop := Claim7.holds Tryz.pinned (.plain (OpenSpec.upto storeCrashesSpec)) storeCrashesUptoCard

/-- THE SECOND FORM's CARD OF 'lighteragelaw13.StorePlays'. -/
def storePlaysUptoCard : Claim7 := { stood := { row := storePlaysUptoRow, standIns := [], harness := (true, "2b86111e01aa0fe406d4a86f5e060ad8c305d3d8929197cef4b6385d9393bddd"), looks := true }, kinds := [], alts := [], laidByText := true, laidKinds := [.data], laidTests := true, laidLooks := .later }
def StorePlaysUptoCardSaid : Prop := Claim7.holds Tryz.pinned (.plain (OpenSpec.upto storePlaysSpec)) storePlaysUptoCard

/-- THE SECOND FORM's CARD OF 'lighteragelaw13.StoreSizes'. -/
def storeSizesUptoCard : Claim7 := { stood := { row := storeSizesUptoRow, standIns := [], harness := (true, "2b86111e01aa0fe406d4a86f5e060ad8c305d3d8929197cef4b6385d9393bddd"), looks := true }, kinds := [], alts := [], laidByText := true, laidKinds := [.data], laidTests := true, laidLooks := .later }
def StoreSizesUptoCardSaid : Prop := Claim7.holds Tryz.pinned (.plain (OpenSpec.upto storeSizesSpec)) storeSizesUptoCard

/-- THE SECOND FORM's CARD OF 'lighteragelaw20.ServerLoads'. -/
def serverLoadsUptoCard : Claim7 := { stood := { row := serverLoadsUptoRow, standIns := [], harness := (true, "2b86111e01aa0fe406d4a86f5e060ad8c305d3d8929197cef4b6385d9393bddd"), looks := true }, kinds := [], alts := [], laidByText := true, laidKinds := [.data], laidTests := true, laidLooks := .later }
def ServerLoadsUptoCardSaid : Prop := Claim7.holds Tryz.pinned (.plain (OpenSpec.upto serverLoadsSpec)) serverLoadsUptoCard
end Rows
end Go.Proofs.YtfikjheicjamhaaGreatDoor
