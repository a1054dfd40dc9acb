/- The engine over things in memory, third part: small facts; more operations. No statement is proved here. -/
import Derived.Test.YtflcokdkobhieaaMem2
import Derived.Laws.Pointers
set_option linter.unusedVariables false
set_option linter.unusedSimpArgs false
namespace Go.Eng
open Go.RowKit
theorem rdB {w : World} {A : Option Addr} {n : Nat} {l : List UInt8} (h : Rd w 1 A n (b8s l)) : l.length = n ∧ (0 < n → A ≠ none) := ⟨by have := h.1; rw [b8s_length] at this; omega, h.2.1⟩
theorem rdX {w : World} {A : Option Addr} {n sz : Nat} {l : List Value} (h : Rd w sz A n l) : l.length = n * sz ∧ (0 < n → A ≠ none) := ⟨h.1, h.2.1⟩
theorem ownB {w : World} {b : Nat} {e : TypeId} {v : Value} {n : Nat} {l : List UInt8} (h : Own w b e 1 v n (b8s l)) : l.length = n := by
  have := h.1
  rw [b8s_length] at this
  omega
theorem ld_blk {w : World} {g i : Nat} {t : TypeId} {cs : List Value} {v : Value} (h : Blk w g t cs) (hv : cs[i]? = some v) : w.cell? ⟨g, i, none⟩ = some v := h.cell hv
theorem Mem.asV {b : Base} {X S : List Res} {w : World} {r r' : Res} (m : Mem b X S w) (i : Nat) (hi : S[i]? = some r) (v : View r r') : Mem b X (r' :: S) w := m.asS i hi (v.ok.1 w) v.ok.2
theorem View.trans {a b c : Res} (h : View a b) (k : View b c) : View a c := .of (fun w x => k.ok.1 w (h.ok.1 w x)) (fun i x => h.ok.2 i (k.ok.2 i x))
theorem Rd.takeM {w : World} {A : Option Addr} {n : Nat} {l : List UInt8} (h : Rd w 1 A n (b8s l)) {k : Nat} (hk : k ≤ n) : Rd w 1 A k (b8s (l.take k)) := by
  have := Rd.take h hk
  rwa [Nat.mul_one, ← b8s_take] at this
theorem b8s_ne {l : List UInt8} : b8s l ≠ [] ↔ l ≠ [] := by cases l <;> simp [b8s]
theorem View.takeV {A : Option Addr} {n k sz : Nat} {xs : List Value} (hk : k ≤ n) : View (RRd sz A n xs) (RRd sz A k (xs.take (k * sz))) := .of (fun w h => Rd.take h hk) (fun i h => by
  obtain ⟨hne, a, ha, hi⟩ := h
  exact ⟨fun e => by rw [e] at hne; simp at hne, a, ha, hi⟩)
theorem View.dropV {A : Option Addr} {n k c sz : Nat} {xs : List Value} (hc : n ≤ c) (hk : k ≤ n) : View (RRd sz A n xs) (RRd sz (if c = k then A else A.map (·.add (k * sz))) (n - k) (xs.drop (k * sz))) := .of (fun w h => Rd.cut h hk hc) (fun i h => by
  obtain ⟨hne, a, ha, hi⟩ := h
  refine ⟨fun e => by rw [e] at hne; simp at hne, ?_⟩
  split at ha
  · exact ⟨a, ha, hi⟩
  · cases A with
    | none => cases ha
    | some q =>
      cases ha
      exact ⟨q, rfl, by rw [hi, add_block]⟩)
theorem View.take {A : Option Addr} {n k : Nat} {l : List UInt8} (hk : k ≤ n) : View (RRd 1 A n (b8s l)) (RRd 1 A k (b8s (l.take k))) := .of (fun w h => Rd.takeM h hk) (fun i h => by
  obtain ⟨hne, a, ha, hi⟩ := h
  exact ⟨b8s_ne.2 (fun e => by rw [e] at hne; simp [b8s] at hne), a, ha, hi⟩)
theorem View.drop {A : Option Addr} {n k c : Nat} {l : List UInt8} (hc : n ≤ c) (hk : k ≤ n) : View (RRd 1 A n (b8s l)) (RRd 1 (if c = k then A else A.map (·.add (k * 1))) (n - k) (b8s (l.drop k))) := .of (fun w h => by
    have h1 := Rd.cut h hk hc
    rw [Nat.mul_one, ← b8s_drop] at h1
    rw [Nat.mul_one]
    exact h1) (fun i h => by
  obtain ⟨hne, a, ha, hi⟩ := h
  refine ⟨b8s_ne.2 (fun e => by rw [e] at hne; simp [b8s] at hne), ?_⟩
  split at ha
  · exact ⟨a, ha, hi⟩
  · cases A with
    | none => cases ha
    | some q =>
      cases ha
      exact ⟨q, rfl, by rw [hi, add_block]⟩)
theorem View.sub {A : Option Addr} {n k m c : Nat} {l : List UInt8} (hc : n ≤ c) (hk : k + m ≤ n) : View (RRd 1 A n (b8s l)) (RRd 1 (if c = k then A else A.map (·.add (k * 1))) m (b8s ((l.drop k).take m))) :=
  (View.drop hc (by omega)).trans (View.take (by omega))
theorem Mem.eqX {b : Base} {X S : List Res} {w : World} {r r' : Res} (m : Mem b X S w) (i : Nat) (hi : X[i]? = some r) (h : r = r') : Mem b (r' :: X.eraseIdx i) S w := by
  subst h
  exact m.perm (takeR_perm [i] X [r] (X.eraseIdx i) (by simp [takeR, hi]))
theorem Mem.inP {b : Base} {X S Xp : List Res} {w : World} {r : Res} (m : Mem b X S w) (i : Nat) (hi : X[i]? = some (RPack Xp)) (j : Nat) (hj : Xp[j]? = some r) : r.holds w := (m.hx _ (List.mem_of_getElem? hi)).2 _ (List.mem_of_getElem? hj)
theorem Mem.inPS {b : Base} {X S Xp : List Res} {w : World} {r : Res} (m : Mem b X S w) (i : Nat) (hi : S[i]? = some (RPack Xp)) (j : Nat) (hj : Xp[j]? = some r) : r.holds w := (m.hs _ (List.mem_of_getElem? hi)).2 _ (List.mem_of_getElem? hj)
theorem View.comp {Xp : List Res} {r : Res} (j : Nat) (hj : Xp[j]? = some r) : View (RPack Xp) r := .of (fun w h => h.2 _ (List.mem_of_getElem? hj)) (fun k hk => ⟨r, List.mem_of_getElem? hj, hk⟩)
theorem con_calls {P : Program} {f : Nat} {vs : List Value} {S0 : List Res} {u : Value} (h : Con P f vs [] S0 (fun v X S => v = u ∧ X = [] ∧ S = [])) {w : World} (hs : ∀ s ∈ S0, s.holds w) : Calls P f vs.toArray w fun e w' => e = .returned u ∧ Fr No w w' := by
  refine Calls.mono (h w (.start (by simp) (by simp) (by simp) hs)) ?_
  rintro e w' ⟨v, X', S', rfl, ⟨rfl, rfl, rfl⟩, m⟩
  exact ⟨rfl, m.fr.mono (fun i _ hi => by obtain ⟨r, hr, _⟩ := hi; simp at hr)⟩
theorem con_own1 {P : Program} {f : Nat} {vs : List Value} {S0 : List Res} {R : Value → List Res → List Res → Prop} (h : ∀ {w b}, Mem b [] S0 w → Calls P f vs.toArray w fun e w' => ∃ v u e_ sz n xs, e = .returned v ∧ R v [ROwn e_ sz u n xs] [] ∧ Own w' w.heap.size e_ sz u n xs ∧ Fr No w w') : Con P f vs [] S0 R := fun w m => by
  refine Calls.mono (h m) ?_
  rintro e w' ⟨v, u, e_, sz, n, xs, rfl, hR, ho, hf⟩
  have m0 : Mem ⟨w, feet [], feet S0⟩ [] [] w := m.subS (by simp)
  exact ⟨v, [ROwn e_ sz u n xs], [], rfl, hR, m0.addX (r' := ROwn e_ sz u n xs) hf ho.base0 (fun k hk => (ho.from hk).1)⟩
/-! rows of bytes -/
structure BRow where
  A : Option Addr
  n : Nat
  c : Nat
  l : List UInt8
def BRow.val (r : BRow) : Value := .slice r.A r.n r.c
def BRow.res (r : BRow) : Res := RRd 1 r.A r.n (b8s r.l)
def RRows (rows : List BRow) : Res := ⟨fun k => ∃ r ∈ rows, r.res.foot k, fun w => ∀ r ∈ rows, r.res.holds w ∧ r.n ≤ r.c, fun f h x r hr => ⟨r.res.keep f (fun k hk => h k ⟨r, hr, hk⟩) (x r hr).1, (x r hr).2⟩, fun x hk => by
  obtain ⟨r, hr, hk⟩ := hk
  exact r.res.low (x r hr).1 hk⟩
inductive RowsIn (S : List Res) : List BRow → Prop
  | nil : RowsIn S []
  | cons {r : BRow} {rest : List BRow} (j : Nat) (h : S[j]? = some (RRd 1 r.A r.n (b8s r.l))) (hc : r.n ≤ r.c) (t : RowsIn S rest) : RowsIn S (r :: rest)
theorem RowsIn.all {S : List Res} {rows : List BRow} (h : RowsIn S rows) : ∀ r ∈ rows, r.res ∈ S ∧ r.n ≤ r.c := by
  induction h with
  | nil => simp
  | cons j h hc t ih =>
    intro r hr
    rcases List.mem_cons.1 hr with rfl | hr
    · exact ⟨List.mem_of_getElem? h, hc⟩
    · exact ih r hr
theorem Mem.rows {b : Base} {X S : List Res} {w : World} {rows : List BRow} (m : Mem b X S w) (h : RowsIn S rows) : Mem b X (RRows rows :: S) w :=
  m.addS (.refl _ _) (fun r hr => ⟨m.hs _ (h.all r hr).1, (h.all r hr).2⟩) (fun k hk => by
    obtain ⟨r, hr, hk⟩ := hk
    exact .inr ⟨_, (h.all r hr).1, hk⟩)
theorem View.row {rows : List BRow} {r : BRow} {i : Nat} (h : rows[i]? = some r) : View (RRows rows) (RRd 1 r.A r.n (b8s r.l)) :=
  .of (fun w x => (x r (List.mem_of_getElem? h)).1) (fun k hk => ⟨r, List.mem_of_getElem? h, hk⟩)
theorem rows_le {rows : List BRow} {r : BRow} {i : Nat} {w : World} (x : (RRows rows).holds w) (h : rows[i]? = some r) : r.n ≤ r.c := (x r (List.mem_of_getElem? h)).2
theorem Mem.sres {b : Base} {X S : List Res} {w : World} {r : Res} (m : Mem b X S w) (i : Nat) (h : S[i]? = some r) : r.holds w := m.hs _ (List.mem_of_getElem? h)
theorem Mem.xres {b : Base} {X S : List Res} {w : World} {r : Res} (m : Mem b X S w) (i : Nat) (h : X[i]? = some r) : r.holds w := m.hx _ (List.mem_of_getElem? h)
section
variable {P : Program} {N : Nat} {D : List Deferred} {ρ : Env} {w : World} {ty t t' : TypeId} {x y : Operand}
theorem y_eqPn {a : Option Addr} (hx : ev ρ x = some (.pointer a)) (hy : ev ρ y = some (.pointer none)) (ht : P.underlying t = some (.pointer (P.pointee t))) : Yl P N D ρ w (.binOp .eql t x y t') ty (.bool a.isNone) :=
  fun _ _ _ _ _ ha => by
    simp only [execOp, ha.eval hx, ha.eval hy]
    simp [eqGuard, run_eql_pointer_nil (P := P) w t a ht]
end
section
variable {P : Program} {fn : Func} {R : Value → List Res → List Res → Prop} {N : Nat} {ρ : Env} {b : Base} {X X' Xz S S' : List Res} {e : Exit}
theorem hret3 {t t' t'' : Nat} {v v' v'' : Value} (he : Leaves e) (hr : fn.results = #[.tmp t, .tmp t', .tmp t'']) (hv : get ρ t = some v) (hv' : get ρ t' = some v') (hv'' : get ρ t'' = some v'') (is : List Nat) (hX : takeR is X = some (X', Xz)) (js : List Nat) (hS : getR js S = some S') (hR : R (.tuple #[v, v', v'']) X' S') : HQ (bodyPost P fn (RB b R)) N [] e ρ b X S :=
  fun w m => wq_leave (w := w) he (fun a ha => by have h1 := ha.getD hv; have h2 := ha.getD hv'; have h3 := ha.getD hv''; simp at h1 h2 h3; simp [results, hr, h1, h2, h3]) ⟨_, _, _, rfl, hR, m.out is hX js hS⟩
end
end Go.Eng
