/- Part of a card. -/
import Derived.Test.YtmibdabdlgmafaaGreatDoorPLB6
import Derived.Test.YtmibdabdlgmafaaGreatDoorTie
import Derived.Test.YtmibdabdlgmafaaGreatDoorCards
import Derived.Stop.Joined
import Derived.SevenTiedAt
import Derived.Test.YtmibdabdlgmafaaGreatDoorRows
set_option linter.all false
namespace Go.Proofs.YtmibdabdlgmafaaGreatDoor.jE
open Go.ChangeShapes Go.WideShapes Go.ChangeAt Go.RowKit Go.Eng
open Go.ChangeMaps (open_string shut_string)
theorem own:ownKnob Tryz.prog.godebug=none:=by kernel_rfl
theorem laidOut:laidOutB Tryz.prog=true:=by kernel_rfl
set_option maxRecDepth 100000 in
theorem lifted(os:Os)(started:os.Started)(H:Type)(enc:TypeId×Value→H):
    ReturnsInHanded {} Tryz.checked os 7 .any (fun w args => (Rows.planBuildsSpec.pre enc Tryz.prog Tryz.f7 [] false w args ∧ laidMetH Tryz.prog [("lighterage/sha.roots", Rows.laid_lighterage_sha_roots)] w) ∧ sizedMet enc Tryz.prog Tryz.f7 (OpenSpec.ofChange Rows.planBuildsSpec) false w args) (Rows.planBuildsSpec.post enc Tryz.prog Tryz.f7 false true false false) := by
  refine returnsInHanded_of_change_and (C := Tryz.checked) (X := fun w _ => laidMetH Tryz.prog [("lighterage/sha.roots", Rows.laid_lighterage_sha_roots)] w) (fun _ _ _ hh h => h.of_heap hh) own started (by kernel_rfl) Tryz.func7
    (ChangeSpec.witness_shaped (enc := enc) (C := Tryz.checked) (os := os) (X := fun w _ => laidMetH Tryz.prog [("lighterage/sha.roots", Rows.laid_lighterage_sha_roots)] w) false (World.doorLaid Tryz.prog 400 os) #[.slice none 0 0, .agg #[.int .i64 0, .int .i64 0, .int .i64 0], .slice none 0 0, .int .i64 0, .int .i64 0] 40 rfl (World.shaped_of_RefB (by kernel_rfl) (by kernel_rfl)) (by kernel_rfl) (by kernel_rfl) (by kernel_rfl) (zO os _)) ?_
  intro W base args ds gs before hval0 hW hcnd hsz0 hL _
  have hsz:(DataW.weightsEach Tryz.prog (Tryz.f7.params.toList++Rows.planBuildsSpec.plain.varTypes Tryz.prog) (ds++gs)).all (· ≤reachBytes)=true:=hsz0
  have hval:∀(j:Nat) t v,Tryz.f7.params[j]? =some t→args[j]? =some v→Value.okWide Tryz.prog W .any base t v:=hval0
  have hW' :=hW
  obtain⟨p,q,hA0,hV,rfl,hfz,hnd⟩:=hW
  have hA:DataW.TrodAll enc Tryz.prog W 0 (fun _=>true) true Tryz.f7.params.toList args.toList ds p:=hA0
  rw[Tryz.params7]at hA hval hsz
  obtain⟨v0,vs0,d0,ds0,p0,q0,hargs,rfl,rfl,h0,r0⟩:=trodAll_cons hA
  obtain⟨v1,vs1,d1,ds1,p1,q1,rfl,rfl,rfl,h1,r1⟩:=trodAll_cons r0
  obtain⟨v2,vs2,d2,ds2,p2,q2,rfl,rfl,rfl,h2,r2⟩:=trodAll_cons r1
  obtain⟨v3,vs3,d3,ds3,p3,q3,rfl,rfl,rfl,h3,r3⟩:=trodAll_cons r2
  obtain⟨v4,vs4,d4,ds4,p4,q4,rfl,rfl,rfl,h4,r4⟩:=trodAll_cons r3
  obtain⟨rfl,rfl,rfl⟩:=trodAll_nil r4
  obtain rfl:args= #[v0,v1,v2,v3,v4]:=by cases args;simp_all
  obtain⟨rfl,rfl⟩:=trodVars_none hV
  have lt0:∀x∈p0,x.block<W.heap.size:=by obtain⟨m,hm⟩:=h0;exact DataW.trod_lt m _ _ _ hm
  obtain⟨a0,len0,cap0,rfl⟩:=okWide_slice Tryz.underlying27 (hval 0 27 v0 rfl rfl)
  obtain⟨c0,l0,rd0⟩:=vt Tryz.underlying27 Tryz.underlying5 (by kernel_rfl) h0
  have y0:len0≤140737488351232:=tW hsz (j:=0) (t:=27) rfl rfl Tryz.underlying27 Tryz.underlying5 (by kernel_rfl) (by kernel_rfl) h0
  have lt1:∀x∈p1,x.block<W.heap.size:=by obtain⟨m,hm⟩:=h1;exact DataW.trod_lt m _ _ _ hm
  obtain⟨xs1,rfl,hc1,ty1⟩:=Ay 10 (by kernel_rfl) Tryz.underlying75 (hval 1 75 v1 rfl rfl) h1 hsz (j:=1) rfl rfl
  have lt2:∀x∈p2,x.block<W.heap.size:=by obtain⟨m,hm⟩:=h2;exact DataW.trod_lt m _ _ _ hm
  obtain⟨a2,len2,cap2,rfl⟩:=okWide_slice Tryz.underlying44 (hval 2 44 v2 rfl rfl)
  obtain⟨xs2,rc2,ty2⟩:=Bg 10 (by kernel_rfl) Tryz.underlying44 h2 hsz (j:=2) rfl rfl
  have ce2:Tryz.prog.cellsOf 3=1:=by kernel_rfl
  rw[ce2]at rc2 ty2
  have lt3:∀x∈p3,x.block<W.heap.size:=by obtain⟨m,hm⟩:=h3;exact DataW.trod_lt m _ _ _ hm
  obtain⟨z3,rfl,b3,e3⟩:=tg Tryz.underlying3 (hval 3 3 v3 rfl rfl) h3
  have lt4:∀x∈p4,x.block<W.heap.size:=by obtain⟨m,hm⟩:=h4;exact DataW.trod_lt m _ _ _ hm
  obtain⟨z4,rfl,b4,e4⟩:=tg Tryz.underlying3 (hval 4 3 v4 rfl rfl) h4
  clear hA0 hval0 hsz0 hsz
  refine(YtmibdabdlgmafaaGreatDoor.jE a0 len0 cap0 l0 xs1 a2 len2 cap2 xs2 z3 z4 W rd0 c0 y0 hc1 ty1 rc2 ty2 b3 b4 (qm hL)).mono fun e W' ⟨he,fr⟩=> ?_
  have bel:=fr.below
  subst he
  exact⟨_,rfl,_,_,_,[],_,[],hW',trodAll_mk1 (shut_bool Tryz.underlying4 _),(trodAll_cons_mk (Below.trod laidOut (by kernel_rfl) (of_decide_eq_true (by kernel_rfl)) h0 bel lt0) (trodAll_cons_mk (Below.trod laidOut (by kernel_rfl) (of_decide_eq_true (by kernel_rfl)) h1 bel lt1) (trodAll_cons_mk (Below.trod laidOut (by kernel_rfl) (of_decide_eq_true (by kernel_rfl)) h2 bel lt2) (trodAll_cons_mk (Below.trod laidOut (by kernel_rfl) (of_decide_eq_true (by kernel_rfl)) h3 bel lt3) (trodAll_cons_mk (Below.trod laidOut (by kernel_rfl) (of_decide_eq_true (by kernel_rfl)) h4 bel lt4) trodAll_mk0))))),rfl,bel.frame _,fun h=>by cases h⟩
end Go.Proofs.YtmibdabdlgmafaaGreatDoor.jE
