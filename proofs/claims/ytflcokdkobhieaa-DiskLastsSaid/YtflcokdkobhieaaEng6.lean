/- The engine, sixth part: interfaces. No statement is proved here. -/
import Derived.Test.YtflcokdkobhieaaEng5
import Derived.Stop.Asserts
import Derived.Stop.IfaceNil
import Derived.LaidEql
import Derived.Lib.IfaceEq
set_option linter.unusedVariables false
set_option linter.unusedSimpArgs false
namespace Go.Eng
open Go.RowKit
section
variable {P : Program} {Q : Exit → Act → World → Prop} {N : Nat} {D : List Deferred} {ρ : Env} {w : World} {x y : Operand} {ty t t' tx : TypeId} {v : Value} {K : Value → World → Prop}
theorem y_eqII {ms : Array (String × TypeId)} {k q : IntKind} {a b : Int} (hx : ev ρ x = some (.iface tx (.int k a))) (hy : ev ρ y = some (.iface tx (.int k b))) (ht : P.underlying t = some (.interface ms)) (hc : (P.info? tx).map (·.comparable) = some true) (hu : P.underlying tx = some (.int q)) :
    Yl P N D ρ w (.binOp .eql t x y t') ty (.bool (decide (a = b))) := fun _ _ _ _ _ ha => by
  have h := Lib.run_eql_iface_int (P := P) w (t := t) (tx := tx) (k := k) a b ht hc hu
  have e : (a == b) = decide (a = b) := by by_cases h : a = b <;> simp [h]
  rw [e] at h
  simp only [execOp, ha.eval hx, ha.eval hy]
  simp [eqGuard, h]
theorem y_eqIN {u : TypeId} {v : Value} (hx : ev ρ x = some (.iface u v)) (hy : ev ρ y = some .nilIface) (h : P.isIface t = true) : Yl P N D ρ w (.binOp .eql t x y t') ty (.bool false) := fun _ _ _ _ _ ha => by
  simp only [execOp, ha.eval hx, ha.eval hy]
  simp [eqGuard, run_eql_iface_nil w t h u v]
theorem y_tas {co : Bool} {r : Value} {xT : TypeId} (hx : ev ρ x = some v) (h : (Instr.typeAssert v xT t co).run P w = .ok r w) : Yl P N D ρ w (.typeAssert x xT t co) ty r := fun a _ _ _ _ ha => by
  simp [execOp, ha.eval hx, h]
/-- a method without a body, on an interface -/
theorem y_invE {dt : TypeId} {recv r : Value} {m : String} {f : Nat} {fn : Func} {l : List Operand} {vs : List Value} {tys : Array TypeId} {g : Array Value → Sem Value} (hx : ev ρ x = some (.iface dt v)) (hv : evs ρ l = some vs)
    (hm : (Go.method (P.types.size + Made.depth) dt v m).run P w = .ok (f, recv) w) (hf : P.funcs[f]? = some fn) (hname : (fn.name == "runtime.NumGoroutine") = false)
    (hb : fn.body.isNone = true) (hn : Extern.findNext fn = none) (he : Extern.find fn = some g) (hr : (g (#[recv] ++ vs.toArray)).run P w = .ok r w) : Yl P N D ρ w (.call ⟨.invoke x m, l.toArray, tys⟩) ty r := fun a _ _ _ _ ha => by
  have h := run_callFunc_extern (P := P) hf hname hb hn he (args := #[recv] ++ vs.toArray) (w := w)
  rw [hr] at h
  have h0 : (program).run P w = .ok P w := rfl
  simp [execOp, resolve, invoke, callMethod, h0, ha.evals hv, ha.eval hx, hm]
  simpa using h
theorem splice_all {cs vs : List Value} (h : vs.length = cs.length) : splice cs 0 vs = vs := by
  simp [splice, h]
/-- a store of all of an array of bytes -/
theorem x_stD {g n : Nat} {bt : TypeId} {cs : List Value} {l : List UInt8} (hx : ev ρ x = some (.pointer (some ⟨g, 0, none⟩))) (hy : ev ρ y = some (.agg (b8s l).toArray)) (hs : szB P t = some n) (hl : l.length = n) (hb : Blk w g bt cs) (hcl : cs.length = n)
    (k : ∀ w', Fr (fun i => i = g) w w' → Blk w' g bt (b8s l) → w'.heap.size = w.heap.size → K undef w') : XW P Q N D ρ w (.store t x y) ty K := by
  refine x_stN hx hy hs (by rw [b8s_length, hl]) (fun v hv => ?_) hb (by omega) fun w' hf hb' hsz => k w' hf ?_ hsz
  · simp only [b8s, List.mem_map] at hv
    obtain ⟨u, _, rfl⟩ := hv
    rfl
  · rwa [splice_all (by rw [b8s_length]; omega)] at hb'
end
end Go.Eng
