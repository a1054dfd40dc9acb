/- Part of a card. -/
import Derived.Test.YtmibdabdlgmafaaGreatDoorPLF6
import Derived.Test.YtmibdabdlgmafaaGreatDoorTie
import Derived.Test.YtmibdabdlgmafaaGreatDoorCards
import Derived.Stop.Joined
import Derived.SevenTiedAt
import Derived.Test.YtmibdabdlgmafaaGreatDoorRows
set_option linter.all false
namespace Go.Proofs.YtmibdabdlgmafaaGreatDoor.kv
open Go.ChangeShapes Go.WideShapes Go.ChangeAt Go.RowKit Go.Eng
open Go.ChangeMaps (open_string shut_string)
theorem own:ownKnob Tryz.prog.godebug=none:=by kernel_rfl
theorem laidOut:laidOutB Tryz.prog=true:=by kernel_rfl
set_option maxRecDepth 100000 in
theorem lifted(os:Os)(started:os.Started)(H:Type)(enc:TypeId×Value→H):
    ReturnsInHanded {} Tryz.checked os 6 .any (fun w args => (Rows.planFirstSpec.pre enc Tryz.prog Tryz.f6 [] false w args ∧ laidMetH Tryz.prog [("lighterage/sha.roots", Rows.laid_lighterage_sha_roots)] w) ∧ sizedMet enc Tryz.prog Tryz.f6 (OpenSpec.ofChange Rows.planFirstSpec) false w args) (Rows.planFirstSpec.post enc Tryz.prog Tryz.f6 false true false false) := by
  refine returnsInHanded_of_change_and (C := Tryz.checked) (X := fun w _ => laidMetH Tryz.prog [("lighterage/sha.roots", Rows.laid_lighterage_sha_roots)] w) (fun _ _ _ hh h => h.of_heap hh) own started (by kernel_rfl) Tryz.func6
    (ChangeSpec.witness_shaped (enc := enc) (C := Tryz.checked) (os := os) (X := fun w _ => laidMetH Tryz.prog [("lighterage/sha.roots", Rows.laid_lighterage_sha_roots)] w) false (World.doorLaid Tryz.prog 400 os) #[.slice none 0 0] 40 rfl (World.shaped_of_RefB (by kernel_rfl) (by kernel_rfl)) (by kernel_rfl) (by kernel_rfl) (by kernel_rfl) (xv os _)) ?_
  intro W base args ds gs before hval0 hW hcnd hsz0 hL _
  have hsz:(DataW.weightsEach Tryz.prog (Tryz.f6.params.toList++Rows.planFirstSpec.plain.varTypes Tryz.prog) (ds++gs)).all (· ≤reachBytes)=true:=hsz0
  have hval:∀(j:Nat) t v,Tryz.f6.params[j]? =some t→args[j]? =some v→Value.okWide Tryz.prog W .any base t v:=hval0
  have hW' :=hW
  obtain⟨p,q,hA0,hV,rfl,hfz,hnd⟩:=hW
  have hA:DataW.TrodAll enc Tryz.prog W 0 (fun _=>true) true Tryz.f6.params.toList args.toList ds p:=hA0
  rw[Tryz.params6]at hA hval hsz
  obtain⟨v0,vs0,d0,ds0,p0,q0,hargs,rfl,rfl,h0,r0⟩:=trodAll_cons hA
  obtain⟨rfl,rfl,rfl⟩:=trodAll_nil r0
  obtain rfl:args= #[v0]:=by cases args;simp_all
  obtain⟨rfl,rfl⟩:=trodVars_none hV
  have lt0:∀x∈p0,x.block<W.heap.size:=by obtain⟨m,hm⟩:=h0;exact DataW.trod_lt m _ _ _ hm
  obtain⟨a0,len0,cap0,rfl⟩:=okWide_slice Tryz.underlying44 (hval 0 44 v0 rfl rfl)
  obtain⟨xs0,rc0,ty0⟩:=Bp 10 (by kernel_rfl) Tryz.underlying44 h0 hsz (j:=0) rfl rfl
  have ce0:Tryz.prog.cellsOf 3=1:=by kernel_rfl
  rw[ce0]at rc0 ty0
  clear hA0 hval0 hsz0 hsz
  refine(YtmibdabdlgmafaaGreatDoor.kv a0 len0 cap0 xs0 W rc0 ty0 (pD hL)).mono fun e W' ⟨he,fr⟩=> ?_
  have bel:=fr.below
  subst he
  exact⟨_,rfl,_,_,_,[],_,[],hW',trodAll_mk1 (shut_bool Tryz.underlying4 _),(trodAll_cons_mk (Below.trod laidOut (by kernel_rfl) (of_decide_eq_true (by kernel_rfl)) h0 bel lt0) trodAll_mk0),rfl,bel.frame _,fun h=>by cases h⟩
end Go.Proofs.YtmibdabdlgmafaaGreatDoor.kv
