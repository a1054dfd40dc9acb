/- The engine over things in memory, second part: statements whose order is open. No statement is proved here. -/
import Derived.Test.YtflcokdkobhieaaMem1
set_option linter.unusedVariables false
set_option linter.unusedSimpArgs false
namespace Go.Eng
open Go.RowKit
section
variable {P : Program} {ops : Array Oper} {Q : Exit → Act → World → Prop} {N : Nat} {D : List Deferred} {ρ ρ' : Env} {b : Base} {X X' X0 Xr S S' S0 X1 S1 : List Res} {rest : List (Option Nat × Oper)}
  {op : Op} {ty : TypeId} {pos : String} {af : Array Edge} {d k m c : Nat} {v : Value}
theorem hdrw {id : Nat} {l : List (Option Nat × Oper)} (Xs : List Nat) (L : List (Nat × Option Nat)) (hm : P.follows .mixedOrders = true) (hk : (Region.noSelect ops && seqOkG ops Xs L (Array.replicate ops.size false) && decide (L.length ≤ ops.size)) = true)
    (hp : pickG ops L = some l) (c : Nat) (h : HT P ops (NoPan Q) (TT b X S c) N D 0 l ρ b X S) : HC P Q N D (.region id ops true) ρ b X S := fun w m =>
  cdrwT Xs L hm hk hp (TT b X S c) (fun _ => m.lift (Fr.drew w)) fun w' f _ => h w' (m.lift f)
theorem hty (h : ∀ {w}, Mem b X1 S1 w → Yl P N D ρ w op ty v) (kk : HT P ops Q (TT b X1 S1 c) N D k rest ((d, v) :: ρ) b X S) (hmc : m ≤ c := by decide) (hd : d < N := by decide) : HT P ops Q (TT b X1 S1 c) N D k ((some m, ⟨some d, op, ty, pos, af, none⟩) :: rest) ρ b X S :=
  fun w mm => tq (fun k' w' h1 h2 hT => h (hT (Nat.le_trans h2 hmc))) (kk w mm) hd
theorem htyg {g gd : Nat} {want : Bool} {o : Oper} (ho : ops[g]? = some o) (hod : o.dst = some gd) (hb : get ρ gd = some (.bool want)) (h : ∀ {w}, Mem b X1 S1 w → Yl P N D ρ w op ty v) (kk : HT P ops Q (TT b X1 S1 c) N D k rest ((d, v) :: ρ) b X S) (hmc : m ≤ c := by decide) (hd : d < N := by decide) :
    HT P ops Q (TT b X1 S1 c) N D k ((some m, ⟨some d, op, ty, pos, af, some (g, want)⟩) :: rest) ρ b X S :=
  fun w mm => tqg ho hod hb (fun k' w' h1 h2 hT => h (hT (Nat.le_trans h2 hmc))) (kk w mm) hd
theorem htyU {T : Nat → World → Prop} (h : ∀ {w}, Yl P N D ρ w op ty v) (kk : HT P ops Q T N D k rest ((d, v) :: ρ) b X S) (hd : d < N := by decide) : HT P ops Q T N D k ((some m, ⟨some d, op, ty, pos, af, none⟩) :: rest) ρ b X S :=
  fun w mm => tq (fun k' w' h1 h2 hT => h) (kk w mm) hd
theorem htyUg {T : Nat → World → Prop} {g gd : Nat} {want : Bool} {o : Oper} (ho : ops[g]? = some o) (hod : o.dst = some gd) (hb : get ρ gd = some (.bool want)) (h : ∀ {w}, Yl P N D ρ w op ty v) (kk : HT P ops Q T N D k rest ((d, v) :: ρ) b X S) (hd : d < N := by decide) :
    HT P ops Q T N D k ((some m, ⟨some d, op, ty, pos, af, some (g, want)⟩) :: rest) ρ b X S :=
  fun w mm => tqg ho hod hb (fun k' w' h1 h2 hT => h) (kk w mm) hd
theorem htx (h : XH P Q N D ρ b X S op ty fun v X' S' => (k + 1 ≤ c → Wk X1 S1 X' S') ∧ HT P ops Q (TT b X1 S1 c) N D (k + 1) rest ((d, v) :: ρ) b X' S') (hd : d < N := by decide) :
    HT P ops Q (TT b X1 S1 c) N D k ((none, ⟨some d, op, ty, pos, af, none⟩) :: rest) ρ b X S := fun w m => tx (fun a dst pos af g ha => Oper.wp_mono (by
  rintro a' w' ⟨v, rfl, X', S', m', hw, hk⟩
  exact ⟨v, rfl, fun h => (hw h).mem m', hk w' m'⟩) (h w m a dst pos af g ha)) hd
theorem htx0 (h : XH P Q N D ρ b X S op ty fun _ X' S' => (k + 1 ≤ c → Wk X1 S1 X' S') ∧ HT P ops Q (TT b X1 S1 c) N D (k + 1) rest ρ b X' S') :
    HT P ops Q (TT b X1 S1 c) N D k ((none, ⟨none, op, ty, pos, af, none⟩) :: rest) ρ b X S := fun w m => tx0 (fun a dst pos af g ha => Oper.wp_mono (by
  rintro a' w' ⟨v, rfl, X', S', m', hw, hk⟩
  exact ⟨v, rfl, fun h => (hw h).mem m', hk w' m'⟩) (h w m a dst pos af g ha))
theorem htxg {g gd : Nat} {want : Bool} {o : Oper} (ho : ops[g]? = some o) (hod : o.dst = some gd) (hb : get ρ gd = some (.bool want)) (h : XH P Q N D ρ b X S op ty fun v X' S' => (k + 1 ≤ c → Wk X1 S1 X' S') ∧ HT P ops Q (TT b X1 S1 c) N D (k + 1) rest ((d, v) :: ρ) b X' S') (hd : d < N := by decide) :
    HT P ops Q (TT b X1 S1 c) N D k ((none, ⟨some d, op, ty, pos, af, some (g, want)⟩) :: rest) ρ b X S := fun w m => txg ho hod hb (fun a dst pos af g ha => Oper.wp_mono (by
  rintro a' w' ⟨v, rfl, X', S', m', hw, hk⟩
  exact ⟨v, rfl, fun h => (hw h).mem m', hk w' m'⟩) (h w m a dst pos af g ha)) hd
/-- a yield that comes alone: the things at hand count -/
theorem hts (hw : k + 1 ≤ c → Wk X1 S1 X S) (h : ∀ {w}, Mem b X S w → Yl P N D ρ w op ty v) (kk : HT P ops Q (TT b X1 S1 c) N D (k + 1) rest ((d, v) :: ρ) b X S) (hd : d < N := by decide) :
    HT P ops Q (TT b X1 S1 c) N D k ((none, ⟨some d, op, ty, pos, af, none⟩) :: rest) ρ b X S := fun w m => tsolo (fun h => (hw h).mem m) (h m) (kk w m) hd
theorem htsg {g gd : Nat} {want : Bool} {o : Oper} (ho : ops[g]? = some o) (hod : o.dst = some gd) (hb : get ρ gd = some (.bool want)) (hw : k + 1 ≤ c → Wk X1 S1 X S) (h : ∀ {w}, Mem b X S w → Yl P N D ρ w op ty v) (kk : HT P ops Q (TT b X1 S1 c) N D (k + 1) rest ((d, v) :: ρ) b X S) (hd : d < N := by decide) :
    HT P ops Q (TT b X1 S1 c) N D k ((none, ⟨some d, op, ty, pos, af, some (g, want)⟩) :: rest) ρ b X S := fun w m => tsolog ho hod hb (fun h => (hw h).mem m) (h m) (kk w m) hd
theorem htskip {T : Nat → World → Prop} {g gd : Nat} {want q : Bool} {o : Oper} (ho : ops[g]? = some o) (hod : o.dst = some gd) (hb : get ρ gd = some (.bool q)) (hne : q ≠ want) (kk : HT P ops Q T N D k rest ((d, undef) :: ρ) b X S) (hd : d < N := by decide) :
    HT P ops Q T N D k ((some m, ⟨some d, op, ty, pos, af, some (g, want)⟩) :: rest) ρ b X S := fun w mm => tskip ho hod hb hne (kk w mm) hd
theorem htskipU {T : Nat → World → Prop} {g gd : Nat} {want : Bool} {o : Oper} (ho : ops[g]? = some o) (hod : o.dst = some gd) (hb : get ρ gd = some undef) (kk : HT P ops Q T N D k rest ((d, undef) :: ρ) b X S) (hd : d < N := by decide) :
    HT P ops Q T N D k ((some m, ⟨some d, op, ty, pos, af, some (g, want)⟩) :: rest) ρ b X S := fun w mm => tskipU ho hod hb (kk w mm) hd
theorem htskipx {g gd : Nat} {want q : Bool} {o : Oper} (ho : ops[g]? = some o) (hod : o.dst = some gd) (hb : get ρ gd = some (.bool q)) (hne : q ≠ want) (hw : k + 1 ≤ c → Wk X1 S1 X S) (kk : HT P ops Q (TT b X1 S1 c) N D (k + 1) rest ((d, undef) :: ρ) b X S) (hd : d < N := by decide) :
    HT P ops Q (TT b X1 S1 c) N D k ((none, ⟨some d, op, ty, pos, af, some (g, want)⟩) :: rest) ρ b X S := fun w m => tskipx ho hod hb hne (fun h => (hw h).mem m) (kk w m) hd
theorem htend {T : Nat → World → Prop} (h : HQ Q N D .normal ρ b X S) : HT P ops (NoPan Q) T N D k [] ρ b X S := fun w m => tend (h w m)
theorem htsplit {T : Nat → World → Prop} {p : Prop} [Decidable p] {l : List (Option Nat × Oper)} (gd : Nat) (hg : get ρ gd = some (.bool (decide p))) (ht : p → HT P ops Q T N D k l ((gd, .bool true) :: ρ) b X S) (hf : ¬ p → HT P ops Q T N D k l ((gd, .bool false) :: ρ) b X S) : HT P ops Q T N D k l ρ b X S :=
  fun w m => tsplit gd hg (fun h => ht h w m) (fun h => hf h w m)
theorem htsplitb {T : Nat → World → Prop} {q : Bool} {l : List (Option Nat × Oper)} (gd : Nat) (hg : get ρ gd = some (.bool q)) (ht : q = true → HT P ops Q T N D k l ((gd, .bool true) :: ρ) b X S) (hf : q = false → HT P ops Q T N D k l ((gd, .bool false) :: ρ) b X S) : HT P ops Q T N D k l ρ b X S :=
  fun w m => tsplit (p := q = true) gd (by rw [hg]; cases q <;> rfl) (fun h => ht h w m) (fun h => hf (by simpa using h) w m)
theorem htmem {T : Nat → World → Prop} {l : List (Option Nat × Oper)} (h : ∀ w, Mem b X S w → Mem b X' S' w) (kk : HT P ops Q T N D k l ρ b X' S') : HT P ops Q T N D k l ρ b X S := fun w m => kk w (h w m)
theorem htfact {T : Nat → World → Prop} {l : List (Option Nat × Oper)} {p : Prop} (h : ∀ {w}, Mem b X S w → p) (kk : p → HT P ops Q T N D k l ρ b X S) : HT P ops Q T N D k l ρ b X S := fun w m => kk (h m) w m
/-! a tree of orders -/
theorem hdrwP {id : Nat} {po : PlanO} (Xs : List Nat) (p : Plan) (hm : P.follows .mixedOrders = true) (hk : (Region.noSelect ops && okP ops Xs p true (Array.replicate ops.size false) && decide (depthP p ≤ ops.size)) = true)
    (hp : fillP ops p = some po) (c : Nat) (h : HP P ops (NoPan Q) (TT b X S c) N D 0 po ρ b X S) : HC P Q N D (.region id ops true) ρ b X S := fun w m =>
  cdrwP Xs p hm hk hp (TT b X S c) (fun _ => m.lift (Fr.drew w)) fun w' f _ => h w' (m.lift f)
theorem hpy {q : PlanO} (h : ∀ {w}, Mem b X1 S1 w → Yl P N D ρ w op ty v) (kk : HP P ops Q (TT b X1 S1 c) N D k q ((d, v) :: ρ) b X S) (hmc : m ≤ c := by decide) (hd : d < N := by decide) : HP P ops Q (TT b X1 S1 c) N D k (.take ⟨some d, op, ty, pos, af, none⟩ m q) ρ b X S :=
  fun w mm => pq (fun k' w' h1 h2 hT => h (hT (Nat.le_trans h2 hmc))) (kk w mm) hd
theorem hpyg {q : PlanO} {g gd : Nat} {want : Bool} {o : Oper} (ho : ops[g]? = some o) (hod : o.dst = some gd) (hb : get ρ gd = some (.bool want)) (h : ∀ {w}, Mem b X1 S1 w → Yl P N D ρ w op ty v) (kk : HP P ops Q (TT b X1 S1 c) N D k q ((d, v) :: ρ) b X S) (hmc : m ≤ c := by decide) (hd : d < N := by decide) :
    HP P ops Q (TT b X1 S1 c) N D k (.take ⟨some d, op, ty, pos, af, some (g, want)⟩ m q) ρ b X S :=
  fun w mm => pqg ho hod hb (fun k' w' h1 h2 hT => h (hT (Nat.le_trans h2 hmc))) (kk w mm) hd
theorem hpyU {T : Nat → World → Prop} {q : PlanO} (h : ∀ {w}, Yl P N D ρ w op ty v) (kk : HP P ops Q T N D k q ((d, v) :: ρ) b X S) (hd : d < N := by decide) : HP P ops Q T N D k (.take ⟨some d, op, ty, pos, af, none⟩ m q) ρ b X S :=
  fun w mm => pq (fun k' w' h1 h2 hT => h) (kk w mm) hd
theorem hpyUg {T : Nat → World → Prop} {q : PlanO} {g gd : Nat} {want : Bool} {o : Oper} (ho : ops[g]? = some o) (hod : o.dst = some gd) (hb : get ρ gd = some (.bool want)) (h : ∀ {w}, Yl P N D ρ w op ty v) (kk : HP P ops Q T N D k q ((d, v) :: ρ) b X S) (hd : d < N := by decide) :
    HP P ops Q T N D k (.take ⟨some d, op, ty, pos, af, some (g, want)⟩ m q) ρ b X S := fun w mm => pqg ho hod hb (fun k' w' h1 h2 hT => h) (kk w mm) hd
theorem hpx {q : PlanO} (h : XH P Q N D ρ b X S op ty fun v X' S' => (k + 1 ≤ c → Wk X1 S1 X' S') ∧ HP P ops Q (TT b X1 S1 c) N D (k + 1) q ((d, v) :: ρ) b X' S') (hd : d < N := by decide) :
    HP P ops Q (TT b X1 S1 c) N D k (.alt ⟨some d, op, ty, pos, af, none⟩ q .stop) ρ b X S := fun w m => px (fun a dst pos af g ha => Oper.wp_mono (by
  rintro a' w' ⟨v, rfl, X', S', m', hw, hk⟩
  exact ⟨v, rfl, fun h => (hw h).mem m', hk w' m'⟩) (h w m a dst pos af g ha)) hd
theorem hpx0 {q : PlanO} (h : XH P Q N D ρ b X S op ty fun _ X' S' => (k + 1 ≤ c → Wk X1 S1 X' S') ∧ HP P ops Q (TT b X1 S1 c) N D (k + 1) q ρ b X' S') :
    HP P ops Q (TT b X1 S1 c) N D k (.alt ⟨none, op, ty, pos, af, none⟩ q .stop) ρ b X S := fun w m => px0 (fun a dst pos af g ha => Oper.wp_mono (by
  rintro a' w' ⟨v, rfl, X', S', m', hw, hk⟩
  exact ⟨v, rfl, fun h => (hw h).mem m', hk w' m'⟩) (h w m a dst pos af g ha))
theorem hpxg {q : PlanO} {g gd : Nat} {want : Bool} {o : Oper} (ho : ops[g]? = some o) (hod : o.dst = some gd) (hb : get ρ gd = some (.bool want)) (h : XH P Q N D ρ b X S op ty fun v X' S' => (k + 1 ≤ c → Wk X1 S1 X' S') ∧ HP P ops Q (TT b X1 S1 c) N D (k + 1) q ((d, v) :: ρ) b X' S') (hd : d < N := by decide) :
    HP P ops Q (TT b X1 S1 c) N D k (.alt ⟨some d, op, ty, pos, af, some (g, want)⟩ q .stop) ρ b X S := fun w m => pxg ho hod hb (fun a dst pos af g ha => Oper.wp_mono (by
  rintro a' w' ⟨v, rfl, X', S', m', hw, hk⟩
  exact ⟨v, rfl, fun h => (hw h).mem m', hk w' m'⟩) (h w m a dst pos af g ha)) hd
theorem hdrwB {id : Nat} {l : List (Option Nat × Oper)} (is js : List Nat) (hX : takeR is X = some (X1, Xr)) (hS : getR js S = some S1) (Xs : List Nat) (L : List (Nat × Option Nat)) (hm : P.follows .mixedOrders = true) (hk : (Region.noSelect ops && seqOkG ops Xs L (Array.replicate ops.size false) && decide (L.length ≤ ops.size)) = true)
    (hp : pickG ops L = some l) (c : Nat) (h : HT P ops (NoPan Q) (TT b X1 S1 c) N D 0 l ρ b X S) : HC P Q N D (.region id ops true) ρ b X S := fun w m =>
  cdrwT Xs L hm hk hp (TT b X1 S1 c) (fun _ => (wk is js hX hS).mem (m.lift (Fr.drew w))) fun w' f _ => h w' (m.lift f)
theorem hdrwPB {id : Nat} {po : PlanO} (is js : List Nat) (hX : takeR is X = some (X1, Xr)) (hS : getR js S = some S1) (Xs : List Nat) (p : Plan) (hm : P.follows .mixedOrders = true) (hk : (Region.noSelect ops && okP ops Xs p true (Array.replicate ops.size false) && decide (depthP p ≤ ops.size)) = true)
    (hp : fillP ops p = some po) (c : Nat) (h : HP P ops (NoPan Q) (TT b X1 S1 c) N D 0 po ρ b X S) : HC P Q N D (.region id ops true) ρ b X S := fun w m =>
  cdrwP Xs p hm hk hp (TT b X1 S1 c) (fun _ => (wk is js hX hS).mem (m.lift (Fr.drew w))) fun w' f _ => h w' (m.lift f)
theorem hpfork {T : Nat → World → Prop} {o : Oper} {q q' : PlanO} (h : HP P ops Q T N D k (.alt o q .stop) ρ b X S) (hq : HP P ops Q T N D k q' ρ b X S) : HP P ops Q T N D k (.alt o q q') ρ b X S := fun w m => pfork (h w m) (hq w m)
theorem hpend {T : Nat → World → Prop} (h : HQ Q N D .normal ρ b X S) : HP P ops (NoPan Q) T N D k .done ρ b X S := fun w m => pend (h w m)
theorem hpmem {T : Nat → World → Prop} {q : PlanO} (h : ∀ w, Mem b X S w → Mem b X' S' w) (kk : HP P ops Q T N D k q ρ b X' S') : HP P ops Q T N D k q ρ b X S := fun w m => kk w (h w m)
theorem hpfact {T : Nat → World → Prop} {q : PlanO} {p : Prop} (h : ∀ {w}, Mem b X S w → p) (kk : p → HP P ops Q T N D k q ρ b X S) : HP P ops Q T N D k q ρ b X S := fun w m => kk (h m) w m
end
end Go.Eng
