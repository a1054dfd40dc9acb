/- The card PlanBuilds, over my contract. -/
import Derived.Test.YtmibdabdlgmafaaGreatDoorPLBb
import Derived.Test.YtmibdabdlgmafaaGreatDoorTie
import Derived.Test.YtmibdabdlgmafaaGreatDoorCards
import Derived.Stop.Joined
import Derived.SevenTiedAt
import Derived.Test.YtmibdabdlgmafaaGreatDoorRows
set_option linter.all false
namespace Go.Proofs.YtmibdabdlgmafaaGreatDoor
theorem cardW : OpenClaim.wfByText (OpenSpec.ofChange Rows.planBuildsSpec) Rows.planBuildsRow = true := by kernel_rfl
theorem cardM : Tryz.prog.mainIs = some (true, "725bf0e94227ddd4bcd3bba532bd80d019b9966bbf742f603e2198a9388e50d4".toList) := by kernel_rfl
theorem cardL : true = Tryz.prog.looks [] := by kernel_rfl
theorem cardS : ([27,75,44,3,3].all fun u => !Tryz.prog.wantsStandIn u) = true := by kernel_rfl
theorem cardG : false = Rows.planBuildsRow.goesBy Tryz.prog := by kernel_rfl
theorem planBuilds_holds:Rows.PlanBuildsCardSaid:=
  Claim7.holds_tied_plain_at .later [] [.data] true (true, "725bf0e94227ddd4bcd3bba532bd80d019b9966bbf742f603e2198a9388e50d4") true
    jE.over (fun _ h=>by cases h) cardW (fun _ h=>by cases h) planBuilds_row_tie rfl ⟨rfl,rfl⟩ cardM rfl
    (fun f fn hf hfn=>by
      obtain rfl : f = 7 := Option.some.inj ((Go.Proofs.YtmibdabdlgmafaaGreatDoor.jE.named).symm.trans hf) |>.symm
      obtain rfl:fn=Tryz.f7:=(Option.some.inj (Tryz.func7.symm.trans hfn)).symm
      exact ⟨cardL,fun j t ht=>by
        rw[Tryz.params7]at ht
        have hm:t∈ [27,75,44,3,3]:=by simpa using Array.mem_of_getElem? ht
        have hall:([27,75,44,3,3].all fun u=> !Tryz.prog.wantsStandIn u)=true:=cardS
        exact(show Tryz.prog.wantsStandIn t=false by simpa using List.all_eq_true.1 hall t hm)⟩)
    cardG
end Go.Proofs.YtmibdabdlgmafaaGreatDoor
