/-
  DERIVED. GIVEN WITH THE SEED: THE CARDS: each row of YtmibdabdlgmafaaGreatDoorRows.lean that lists a variable, with what it lists TIED to the program's text (the seventh form; the later family's looks); each row that meets fmt, with fmt's text TOLD by the authors' own Lean function (tested against real Go, not proved from fmt's source: count such statements apart). THE CARD IS WHAT COUNTS. Prove the row's statement (the work); the ties are given (YtmibdabdlgmafaaGreatDoorTie.lean); close each card by the builder's one call (the guide's Derived/Test/ToyasCard.lean, 'card_holds'). Laid BY PROGRAM, IN A SANDBOX (cutbox-door.mjs). By AI agents, Wed Nov 11 2026. No macro, syntax, notation, axiom, sorry.
-/
import Derived.Test.YtmibdabdlgmafaaGreatDoorRows
import GoSem.ClaimSeven
namespace Go.Proofs.YtmibdabdlgmafaaGreatDoor
namespace Rows

/-- THE TIED CARD OF 'lighteragelaw13.StorePlays'. -/
def storePlaysCard : Claim7 := { stood := { row := storePlaysRow, standIns := [], harness := (true, "725bf0e94227ddd4bcd3bba532bd80d019b9966bbf742f603e2198a9388e50d4"), looks := true }, kinds := [], alts := [], laidByText := true, laidKinds := [.data], laidTests := true, laidLooks := .later }
def StorePlaysCardSaid : Prop := Claim7.holds Tryz.pinned (.plain (OpenSpec.ofChange storePlaysSpec)) storePlaysCard

/-- THE TIED CARD OF 'lighteragelaw20.ServerLoads'. -/
def serverLoadsCard : Claim7 := { stood := { row := serverLoadsRow, standIns := [], harness := (true, "725bf0e94227ddd4bcd3bba532bd80d019b9966bbf742f603e2198a9388e50d4"), looks := true }, kinds := [], alts := [], laidByText := true, laidKinds := [.data], laidTests := true, laidLooks := .later }
def ServerLoadsCardSaid : Prop := Claim7.holds Tryz.pinned (.plain (OpenSpec.ofChange serverLoadsSpec)) serverLoadsCard

/-- THE TIED CARD OF 'lighteragelaw16.PlanMakes'. -/
def planMakesCard : Claim7 := { stood := { row := planMakesRow, standIns := [], harness := (true, "725bf0e94227ddd4bcd3bba532bd80d019b9966bbf742f603e2198a9388e50d4"), looks := true }, kinds := [], alts := [], laidByText := true, laidKinds := [.data], laidTests := true, laidLooks := .later }
def PlanMakesCardSaid : Prop := Claim7.holds Tryz.pinned (.plain (OpenSpec.ofChange planMakesSpec)) planMakesCard

/-- THE TIED CARD OF 'lighteragelaw16.PlanFirst'. -/
def planFirstCard : Claim7 := { stood := { row := planFirstRow, standIns := [], harness := (true, "725bf0e94227ddd4bcd3bba532bd80d019b9966bbf742f603e2198a9388e50d4"), looks := true }, kinds := [], alts := [], laidByText := true, laidKinds := [.data], laidTests := true, laidLooks := .later }
def PlanFirstCardSaid : Prop := Claim7.holds Tryz.pinned (.plain (OpenSpec.ofChange planFirstSpec)) planFirstCard

/-- THE TIED CARD OF 'lighteragelaw16.PlanBuilds'. -/
def planBuildsCard : Claim7 := { stood := { row := planBuildsRow, standIns := [], harness := (true, "725bf0e94227ddd4bcd3bba532bd80d019b9966bbf742f603e2198a9388e50d4"), looks := true }, kinds := [], alts := [], laidByText := true, laidKinds := [.data], laidTests := true, laidLooks := .later }
def PlanBuildsCardSaid : Prop := Claim7.holds Tryz.pinned (.plain (OpenSpec.ofChange planBuildsSpec)) planBuildsCard

/-- THE TIED CARD OF 'lighteragelaw16.PlanWhole'. -/
def planWholeCard : Claim7 := { stood := { row := planWholeRow, standIns := [], harness := (true, "725bf0e94227ddd4bcd3bba532bd80d019b9966bbf742f603e2198a9388e50d4"), looks := true }, kinds := [], alts := [], laidByText := true, laidKinds := [.data], laidTests := true, laidLooks := .later }
def PlanWholeCardSaid : Prop := Claim7.holds Tryz.pinned (.plain (OpenSpec.ofChange planWholeSpec)) planWholeCard

/-- THE TIED CARD OF 'lighteragelaw16.PlanFills'. -/
def planFillsCard : Claim7 := { stood := { row := planFillsRow, standIns := [], harness := (true, "725bf0e94227ddd4bcd3bba532bd80d019b9966bbf742f603e2198a9388e50d4"), looks := true }, kinds := [], alts := [], laidByText := true, laidKinds := [.data], laidTests := true, laidLooks := .later }
def PlanFillsCardSaid : Prop := Claim7.holds Tryz.pinned (.plain (OpenSpec.ofChange planFillsSpec)) planFillsCard

/-- THE TIED CARD OF 'lighteragelaw14.SweepAll'. -/
def sweepAllCard : Claim7 := { stood := { row := sweepAllRow, standIns := [], harness := (true, "725bf0e94227ddd4bcd3bba532bd80d019b9966bbf742f603e2198a9388e50d4"), looks := true }, kinds := [], alts := [], laidByText := true, laidKinds := [.data], laidTests := true, laidLooks := .later }
def SweepAllCardSaid : Prop := Claim7.holds Tryz.pinned (.plain (OpenSpec.ofChange sweepAllSpec)) sweepAllCard

/-- THE TIED CARD OF 'lighteragelaw14.SweepPrunes'. -/
def sweepPrunesCard : Claim7 := { stood := { row := sweepPrunesRow, standIns := [], harness := (true, "725bf0e94227ddd4bcd3bba532bd80d019b9966bbf742f603e2198a9388e50d4"), looks := true }, kinds := [], alts := [], laidByText := true, laidKinds := [.data], laidTests := true, laidLooks := .later }
def SweepPrunesCardSaid : Prop := Claim7.holds Tryz.pinned (.plain (OpenSpec.ofChange sweepPrunesSpec)) sweepPrunesCard

/-- THE TIED CARD OF 'lighteragelaw14.SweepWhole'. -/
def sweepWholeCard : Claim7 := { stood := { row := sweepWholeRow, standIns := [], harness := (true, "725bf0e94227ddd4bcd3bba532bd80d019b9966bbf742f603e2198a9388e50d4"), looks := true }, kinds := [], alts := [], laidByText := true, laidKinds := [.data], laidTests := true, laidLooks := .later }
def SweepWholeCardSaid : Prop := Claim7.holds Tryz.pinned (.plain (OpenSpec.ofChange sweepWholeSpec)) sweepWholeCard

/-- THE TIED CARD OF 'lighteragelaw14.SweepKeeps'. -/
def sweepKeepsCard : Claim7 := { stood := { row := sweepKeepsRow, standIns := [], harness := (true, "725bf0e94227ddd4bcd3bba532bd80d019b9966bbf742f603e2198a9388e50d4"), looks := true }, kinds := [], alts := [], laidByText := true, laidKinds := [.data], laidTests := true, laidLooks := .later }
def SweepKeepsCardSaid : Prop := Claim7.holds Tryz.pinned (.plain (OpenSpec.ofChange sweepKeepsSpec)) sweepKeepsCard

/-- THE TIED CARD OF 'lighteragelaw14.SweepScrubs'. -/
def sweepScrubsCard : Claim7 := { stood := { row := sweepScrubsRow, standIns := [], harness := (true, "725bf0e94227ddd4bcd3bba532bd80d019b9966bbf742f603e2198a9388e50d4"), looks := true }, kinds := [], alts := [], laidByText := true, laidKinds := [.data], laidTests := true, laidLooks := .later }
def SweepScrubsCardSaid : Prop := Claim7.holds Tryz.pinned (.plain (OpenSpec.ofChange sweepScrubsSpec)) sweepScrubsCard

/-- THE SECOND FORM's CARD OF 'lighteragelaw13.StorePlays'. -/
def storePlaysUptoCard : Claim7 := { stood := { row := storePlaysUptoRow, standIns := [], harness := (true, "725bf0e94227ddd4bcd3bba532bd80d019b9966bbf742f603e2198a9388e50d4"), looks := true }, kinds := [], alts := [], laidByText := true, laidKinds := [.data], laidTests := true, laidLooks := .later }
def StorePlaysUptoCardSaid : Prop := Claim7.holds Tryz.pinned (.plain (OpenSpec.upto storePlaysSpec)) storePlaysUptoCard

/-- THE SECOND FORM's CARD OF 'lighteragelaw20.ServerLoads'. -/
def serverLoadsUptoCard : Claim7 := { stood := { row := serverLoadsUptoRow, standIns := [], harness := (true, "725bf0e94227ddd4bcd3bba532bd80d019b9966bbf742f603e2198a9388e50d4"), looks := true }, kinds := [], alts := [], laidByText := true, laidKinds := [.data], laidTests := true, laidLooks := .later }
def ServerLoadsUptoCardSaid : Prop := Claim7.holds Tryz.pinned (.plain (OpenSpec.upto serverLoadsSpec)) serverLoadsUptoCard

/-- THE SECOND FORM's CARD OF 'lighteragelaw16.PlanMakes'. -/
def planMakesUptoCard : Claim7 := { stood := { row := planMakesUptoRow, standIns := [], harness := (true, "725bf0e94227ddd4bcd3bba532bd80d019b9966bbf742f603e2198a9388e50d4"), looks := true }, kinds := [], alts := [], laidByText := true, laidKinds := [.data], laidTests := true, laidLooks := .later }
def PlanMakesUptoCardSaid : Prop := Claim7.holds Tryz.pinned (.plain (OpenSpec.upto planMakesSpec)) planMakesUptoCard

/-- THE SECOND FORM's CARD OF 'lighteragelaw16.PlanFirst'. -/
def planFirstUptoCard : Claim7 := { stood := { row := planFirstUptoRow, standIns := [], harness := (true, "725bf0e94227ddd4bcd3bba532bd80d019b9966bbf742f603e2198a9388e50d4"), looks := true }, kinds := [], alts := [], laidByText := true, laidKinds := [.data], laidTests := true, laidLooks := .later }
def PlanFirstUptoCardSaid : Prop := Claim7.holds Tryz.pinned (.plain (OpenSpec.upto planFirstSpec)) planFirstUptoCard

/-- THE SECOND FORM's CARD OF 'lighteragelaw16.PlanBuilds'. -/
def planBuildsUptoCard : Claim7 := { stood := { row := planBuildsUptoRow, standIns := [], harness := (true, "725bf0e94227ddd4bcd3bba532bd80d019b9966bbf742f603e2198a9388e50d4"), looks := true }, kinds := [], alts := [], laidByText := true, laidKinds := [.data], laidTests := true, laidLooks := .later }
def PlanBuildsUptoCardSaid : Prop := Claim7.holds Tryz.pinned (.plain (OpenSpec.upto planBuildsSpec)) planBuildsUptoCard

/-- THE SECOND FORM's CARD OF 'lighteragelaw16.PlanWhole'. -/
def planWholeUptoCard : Claim7 := { stood := { row := planWholeUptoRow, standIns := [], harness := (true, "725bf0e94227ddd4bcd3bba532bd80d019b9966bbf742f603e2198a9388e50d4"), looks := true }, kinds := [], alts := [], laidByText := true, laidKinds := [.data], laidTests := true, laidLooks := .later }
def PlanWholeUptoCardSaid : Prop := Claim7.holds Tryz.pinned (.plain (OpenSpec.upto planWholeSpec)) planWholeUptoCard

/-- THE SECOND FORM's CARD OF 'lighteragelaw16.PlanFills'. -/
def planFillsUptoCard : Claim7 := { stood := { row := planFillsUptoRow, standIns := [], harness := (true, "725bf0e94227ddd4bcd3bba532bd80d019b9966bbf742f603e2198a9388e50d4"), looks := true }, kinds := [], alts := [], laidByText := true, laidKinds := [.data], laidTests := true, laidLooks := .later }
def PlanFillsUptoCardSaid : Prop := Claim7.holds Tryz.pinned (.plain (OpenSpec.upto planFillsSpec)) planFillsUptoCard

/-- THE SECOND FORM's CARD OF 'lighteragelaw14.SweepAll'. -/
def sweepAllUptoCard : Claim7 := { stood := { row := sweepAllUptoRow, standIns := [], harness := (true, "725bf0e94227ddd4bcd3bba532bd80d019b9966bbf742f603e2198a9388e50d4"), looks := true }, kinds := [], alts := [], laidByText := true, laidKinds := [.data], laidTests := true, laidLooks := .later }
def SweepAllUptoCardSaid : Prop := Claim7.holds Tryz.pinned (.plain (OpenSpec.upto sweepAllSpec)) sweepAllUptoCard

/-- THE SECOND FORM's CARD OF 'lighteragelaw14.SweepPrunes'. -/
def sweepPrunesUptoCard : Claim7 := { stood := { row := sweepPrunesUptoRow, standIns := [], harness := (true, "725bf0e94227ddd4bcd3bba532bd80d019b9966bbf742f603e2198a9388e50d4"), looks := true }, kinds := [], alts := [], laidByText := true, laidKinds := [.data], laidTests := true, laidLooks := .later }
def SweepPrunesUptoCardSaid : Prop := Claim7.holds Tryz.pinned (.plain (OpenSpec.upto sweepPrunesSpec)) sweepPrunesUptoCard

/-- THE SECOND FORM's CARD OF 'lighteragelaw14.SweepWhole'. -/
def sweepWholeUptoCard : Claim7 := { stood := { row := sweepWholeUptoRow, standIns := [], harness := (true, "725bf0e94227ddd4bcd3bba532bd80d019b9966bbf742f603e2198a9388e50d4"), looks := true }, kinds := [], alts := [], laidByText := true, laidKinds := [.data], laidTests := true, laidLooks := .later }
def SweepWholeUptoCardSaid : Prop := Claim7.holds Tryz.pinned (.plain (OpenSpec.upto sweepWholeSpec)) sweepWholeUptoCard

/-- THE SECOND FORM's CARD OF 'lighteragelaw14.SweepKeeps'. -/
def sweepKeepsUptoCard : Claim7 := { stood := { row := sweepKeepsUptoRow, standIns := [], harness := (true, "725bf0e94227ddd4bcd3bba532bd80d019b9966bbf742f603e2198a9388e50d4"), looks := true }, kinds := [], alts := [], laidByText := true, laidKinds := [.data], laidTests := true, laidLooks := .later }
def SweepKeepsUptoCardSaid : Prop := Claim7.holds Tryz.pinned (.plain (OpenSpec.upto sweepKeepsSpec)) sweepKeepsUptoCard

/-- THE SECOND FORM's CARD OF 'lighteragelaw14.SweepScrubs'. -/
def sweepScrubsUptoCard : Claim7 := { stood := { row := sweepScrubsUptoRow, standIns := [], harness := (true, "725bf0e94227ddd4bcd3bba532bd80d019b9966bbf742f603e2198a9388e50d4"), looks := true }, kinds := [], alts := [], laidByText := true, laidKinds := [.data], laidTests := true, laidLooks := .later }
def SweepScrubsUptoCardSaid : Prop := Claim7.holds Tryz.pinned (.plain (OpenSpec.upto sweepScrubsSpec)) sweepScrubsUptoCard
end Rows
end Go.Proofs.YtmibdabdlgmafaaGreatDoor
