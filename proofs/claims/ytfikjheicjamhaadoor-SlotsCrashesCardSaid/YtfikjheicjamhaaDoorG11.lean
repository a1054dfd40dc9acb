import Derived.Test.YtfikjheicjamhaaDoorG7
import Derived.Test.YtfikjheicjamhaaDoorG3
import Derived.Test.YtfikjheicjamhaaDoorG1
import Derived.ChangeSame
import Derived.Test.YtfikjheicjamhaaDoorG2
import Derived.Recover
import Derived.Test.YtfikjheicjamhaaDoorG10
import Derived.Test.YtfikjheicjamhaaDoorRows
import Derived.Test.YtfikjheicjamhaaDoorG4
import Derived.ProofKit
import Derived.LaidMore
import Derived.OpenShut
import Derived.MakeChecks
import Derived.LaidHandle
import Derived.LaidLaws
section
/- Slices of booleans that came in, as lists. -/
set_option linter.unusedVariables false
set_option linter.unusedSimpArgs false
set_option maxRecDepth 20000
namespace Go.Proofs.YtfikjheicjamhaaDoor
open Go.Eng Go.Hx
theorem bool_cells {P : Program} {e : TypeId} (he : P.underlying e = some .bool) : ∀ {n : Nat} {ys : List Cell}, ys.length = n → (∀ i, i < n → Ty P e ((ys.drop i).take 1)) → ∃ l : List Bool, ys.map Cell.val = bools l ∧ l.length = n := by
  intro n ys hl h
  refine ⟨ys.map fun y => match y.val with | .bool z => z | _ => false, ?_, by simpa using hl⟩
  apply List.ext_getElem?
  intro i
  simp only [bools, List.map_map, List.getElem?_map]
  by_cases hi : i < n
  · obtain ⟨c, hc⟩ := ty_bool he (h i hi)
    have h2 : ((ys.drop i).take 1)[0]? = some (.v (.bool c)) := by rw [hc]; rfl
    rw [List.getElem?_take, if_pos (by omega), List.getElem?_drop, Nat.add_zero] at h2
    rw [h2]
    simp [Cell.val]
  · rw [List.getElem?_eq_none (by omega)]
    rfl
theorem ty_bools {xs : List Cell} (h : Ty Tryd.prog 72 xs) : ∃ A n c ys l, xs = [.s 1 A n c ys] ∧ n ≤ c ∧ n ≤ 140737488351232 ∧ ys.map Cell.val = bools l ∧ l.length = n := by
  obtain ⟨A, n, c, ys, rfl, h1, h2, h3, h4⟩ := ty_slice Tryd.underlying72 h
  have c1 : Tryd.prog.cellsOf 4 = 1 := by kernel_rfl
  have b1 : Tryd.prog.bytesOf 4 = 1 := by kernel_rfl
  rw [c1] at h3 h4 ⊢
  rw [b1] at h2
  obtain ⟨l, h5, h6⟩ := bool_cells Tryd.underlying4 (by omega : ys.length = n) (fun i hi => by have := h4 i hi; rwa [Nat.mul_one] at this)
  exact ⟨A, n, c, ys, l, rfl, h1, by omega, h5, h6⟩
end Go.Proofs.YtfikjheicjamhaaDoor
end
section
/- From a row's readings: structs with a row of digests. No statement is proved here. -/
set_option linter.unusedVariables false
set_option linter.unusedSimpArgs false
namespace Go.Eng
open Go.RowKit Go.ChangeShapes Go.WideShapes
variable {H : Type} {enc : TypeId × Value → H} {P : Program} {w : World} {base : Nat} {spare : Nat → Bool} {held : Bool}
theorem trod_digest {t e : TypeId} {n fuel : Nat} {cs : List Value} {x : DataW H × List MemPlace} (ht : P.underlying t = some (.array n e)) (he : P.underlying e = some (.int .u8)) (hc : P.cellsOf e = 1) (hct : P.cellsOf t = n) (hf : DataW.trod enc P w base spare held fuel t cs = some x) :
    ∃ l : List UInt8, cs = b8s l ∧ l.length = n := by
  obtain ⟨xs, m, _, _, hlen, hxl, hel⟩ := DataW.trod_array ht hf
  rw [hct] at hlen
  have hcell : ∀ i, i < n → ∃ c : UInt8, cs[i]? = some (B8 c) := by
    intro i hi
    have h1 := hel i hi
    rw [List.getElem?_eq_getElem (by omega), hc, Nat.mul_one] at h1
    obtain ⟨z, hz, _, hw⟩ := DataW.trod_int he h1
    have hb := bounds_u8 hw
    refine ⟨UInt8.ofNat z.toNat, ?_⟩
    have h2 : ((cs.drop i).take 1)[0]? = some (.int .u8 z) := by rw [hz]; rfl
    rw [List.getElem?_take, if_pos (by omega), List.getElem?_drop, Nat.add_zero] at h2
    rw [h2, B8, UInt8.toNat_ofNat', Nat.mod_eq_of_lt (by omega)]
    congr 2
    omega
  refine ⟨cs.map fun v => match v with | .int _ z => UInt8.ofNat z.toNat | _ => 0, ?_, by simpa using hlen⟩
  apply List.ext_getElem?
  intro i
  simp only [b8s, List.map_map, List.getElem?_map]
  by_cases hi : i < n
  · obtain ⟨c, hc⟩ := hcell i hi
    rw [hc]
    simp [B8]
  · rw [List.getElem?_eq_none (by omega)]
    rfl
theorem cells_at {b : Nat} {a : Addr} {n : Nat} {cs : List Value} (h : w.cells? b a n = some cs) : ∀ j u, cs[j]? = some u → w.cell? (a.add j) = some u := by
  intro j u hu
  obtain ⟨hb, hl, hcell⟩ := World.cells?_some h
  have hj : j < n := by rw [← hl]; exact (List.getElem?_eq_some_iff.1 hu).1
  rw [hcell j hj, hu]
/-- a row of digests that came in -/
theorem open_digests {ts td e : TypeId} {n fuel : Nat} {cs : List Value} {x : DataW H × List MemPlace} (ht : P.underlying ts = some (.slice td)) (hd : P.underlying td = some (.array n e)) (he : P.underlying e = some (.int .u8)) (hc : P.cellsOf e = 1) (hct : P.cellsOf td = n)
    (h : DataW.trod enc P w base spare held fuel ts cs = some x) :
    ∃ (A : Option Addr) (len cap : Nat) (ds : List (List UInt8)), cs = [.slice A len cap] ∧ len ≤ cap ∧ Rd w n A len (dc ds) ∧ (∀ d ∈ ds, d.length = n) ∧ (x.1 = .nil ∧ len = 0 ∨ ∃ el sp : List (DataW H), x.1 = .slice el sp ∧ el.length = len) := by
  rcases DataW.trod_slice ht h with ⟨rfl, rfl⟩ | ⟨a, len, cap, elems, rest, m, _, rfl, rfl, hb, hl, hm, hlen, hel, _, _⟩
  · exact ⟨none, 0, 0, [], rfl, Nat.le_refl _, Rd.nil _ _ _, fun d hd => (by cases hd), .inl ⟨rfl, rfl⟩⟩
  · have hi : ∀ i, i < len → ∃ l : List UInt8, l.length = n ∧ ∀ j u, (b8s l)[j]? = some u → w.cell? (a.add (i * n + j)) = some u := by
      intro i hi
      have h1 := hel i hi
      rw [List.getElem?_eq_getElem (by omega), hct] at h1
      obtain ⟨c, hc1, hc2⟩ := Option.bind_eq_some_iff.1 h1
      obtain ⟨l, rfl, hl'⟩ := trod_digest hd he hc hct hc2
      refine ⟨l, hl', fun j u hu => ?_⟩
      have := cells_at hc1 j u hu
      rwa [add_add] at this
    have hall : ∀ k, k ≤ len → ∃ ds : List (List UInt8), ds.length = k ∧ (∀ d ∈ ds, d.length = n) ∧ ∀ q u, (dc ds)[q]? = some u → w.cell? (a.add q) = some u := by
      intro k
      induction k with
      | zero => intro _; exact ⟨[], rfl, fun d hd => (by cases hd), fun q u hu => by simp [dc] at hu⟩
      | succ k ih =>
        intro hk
        obtain ⟨ds, h1, h2, h3⟩ := ih (by omega)
        obtain ⟨l, h4, h5⟩ := hi k (by omega)
        refine ⟨ds ++ [l], by simp [h1], fun d hd => ?_, fun q u hu => ?_⟩
        · rcases List.mem_append.1 hd with h | h
          · exact h2 d h
          · have : d = l := by simpa using h
            rw [this]; exact h4
        · rw [dc_append, dc_one] at hu
          have hdl := dc_length h2
          rw [h1] at hdl
          rcases Nat.lt_or_ge q (k * n) with hq | hq
          · rw [List.getElem?_append_left (by omega)] at hu
            exact h3 q u hu
          · rw [List.getElem?_append_right (by omega), hdl] at hu
            have := h5 (q - k * n) u hu
            rwa [show k * n + (q - k * n) = q by omega] at this
    obtain ⟨ds, h1, h2, h3⟩ := hall len (Nat.le_refl _)
    exact ⟨some a, len, cap, ds, rfl, hl, ⟨by rw [dc_length h2, h1], fun _ e => (by cases e), h3⟩, h2, .inr ⟨_, _, rfl, by simpa using hlen⟩⟩
/-- a struct of 32 bytes and a row of digests -/
theorem open_jour {r : Reach} {b0 : Nat} {t ts td e : TypeId} {f0 f1 : Field} {v : Value} {d : DataW H} {ps : List MemPlace} {tss : List TypeId} {dss : List (DataW H)} {j : Nat} (ht : P.underlying t = some (.struct #[f0, f1])) (h0 : f0.type = td) (h1 : f1.type = ts) (o0 : f0.offset = 0) (o1 : f1.offset = 32) (hts : P.underlying ts = some (.slice td))
    (hd : P.underlying td = some (.array 32 e)) (he : P.underlying e = some (.int .u8)) (hc : P.cellsOf e = 1) (hcd : P.cellsOf td = 32) (hcs : P.cellsOf ts = 1) (hct : P.cellsOf t = 33) (hB : P.bytesOf td = 32)
    (hval : Value.okWide P w r b0 t v) (h : DataW.Trod enc P w base spare held t v d ps) (hsz : (DataW.weightsEach P tss dss).all (· ≤ reachBytes) = true) (hjt : tss[j]? = some t) (hjd : dss[j]? = some d) :
    ∃ (img : List UInt8) (A : Option Addr) (len cap : Nat) (ds : List (List UInt8)), v = .agg (b8s img ++ [Value.slice A len cap]).toArray ∧ img.length = 32 ∧ Rd w 32 A len (dc ds) ∧ len ≤ cap ∧ (∀ d ∈ ds, d.length = 32) ∧ len ≤ 140737488351232 := by
  simp only [Value.okWide, ht] at hval
  obtain ⟨cs, rfl, _, _⟩ := hval
  obtain ⟨fuel, hf⟩ := h
  obtain ⟨y0, y1, n, hx, hlen, e0, e1⟩ := trod_struct2 ht hf
  simp only [Value.cells] at hlen e0 e1
  rw [hct] at hlen
  rw [h0, o0, hcd, List.drop_zero] at e0
  rw [h1, o1, hcs] at e1
  obtain ⟨img, hi, hil⟩ := trod_digest hd he hc hcd e0
  obtain ⟨A, len, cap, ds, hs, hl, hr, hD, hx1⟩ := open_digests hts hd he hc hcd e1
  refine ⟨img, A, len, cap, ds, ?_, hil, hr, hl, hD, ?_⟩
  · congr 1
    apply Array.toList_inj.1
    have : cs.toList = cs.toList.take 32 ++ (cs.toList.drop 32).take 1 := by
      rw [List.take_of_length_le (l := cs.toList.drop 32) (by rw [List.length_drop]; omega), List.take_append_drop]
    rw [this, hi, hs]
  · rcases hx1 with ⟨_, h⟩ | ⟨el, sp, hxe, hel⟩
    · omega
    · obtain ⟨hx2, _⟩ := Prod.mk.inj hx
      have hw := List.all_eq_true.1 hsz _ (DataW.weights_mem_each hjt hjd ((el.length + sp.length) * P.bytesOf td) (by
        rw [hx2]
        show _ ∈ DataW.weights P t _
        simp [DataW.weights, DataW.weightsEach, ht, h1, hts, hxe]))
      have hw2 : (el.length + sp.length) * 32 ≤ reachBytes := by rw [hB] at hw; simpa using hw
      have hw3 : reachBytes = 140737488351232 := rfl
      omega
end Go.Eng
end
section
/- Numbers as digests, in a row. No program. -/
set_option linter.unusedVariables false
set_option linter.unusedSimpArgs false
namespace Go.Hx
open Go.Eng
def dg (m : Nat) : List UInt8 := UInt8.ofNat (m / 256) :: UInt8.ofNat (m % 256) :: List.replicate 30 0
theorem dg_length (m : Nat) : (dg m).length = 32 := by simp [dg]
theorem u8lt {a b : Nat} (ha : a < 256) (hb : b < 256) : UInt8.ofNat a < UInt8.ofNat b ↔ a < b := by
  show (UInt8.ofNat a).toNat < (UInt8.ofNat b).toNat ↔ _
  rw [UInt8.toNat_ofNat', UInt8.toNat_ofNat', Nat.mod_eq_of_lt ha, Nat.mod_eq_of_lt hb]
theorem cb_dg {a b : Nat} (ha : a < 65536) (hb : b < 65536) : (cb (dg a) (dg b) < 0 ↔ a < b) := by
  unfold dg
  rw [cb_cons, cb_cons, cb_self]
  simp only [u8lt (show a / 256 < 256 by omega) (show b / 256 < 256 by omega), u8lt (show b / 256 < 256 by omega) (show a / 256 < 256 by omega), u8lt (show a % 256 < 256 by omega) (show b % 256 < 256 by omega), u8lt (show b % 256 < 256 by omega) (show a % 256 < 256 by omega)]
  split
  · simp; omega
  · split
    · simp; omega
    · split
      · simp; omega
      · split
        · simp; omega
        · simp; omega
/-- s, s+1, .. -/
def run (s n : Nat) : List (List UInt8) := (List.range' s n).map dg
theorem run_length (s n : Nat) : (run s n).length = n := by simp [run]
theorem run_get {s n i : Nat} (h : i < n) : (run s n).getD i [] = dg (s + i) := by
  simp [run, List.getD, List.getElem?_map, List.getElem?_range', h]
theorem run_D32 (s n : Nat) : D32 (run s n) := by
  intro x hx
  simp only [run, List.mem_map] at hx
  obtain ⟨m, _, rfl⟩ := hx
  exact dg_length m
theorem run_rise {s : Nat} : ∀ {n : Nat}, s + n ≤ 65536 → Rise (run s n)
  | 0, _ => trivial
  | 1, _ => trivial
  | n + 2, h => by
    have ih := run_rise (s := s + 1) (n := n + 1) (by omega)
    show Rise (dg s :: dg (s + 1) :: (List.range' (s + 1 + 1) n).map dg)
    exact ⟨(cb_dg (by omega) (by omega)).2 (by omega), ih⟩
theorem run_snoc (s n : Nat) : run s (n + 1) = run s n ++ [dg (s + n)] := by
  simp [run, List.range'_concat]
theorem dput_end {s n : Nat} (h : s + n < 65536) : dput (run s n) (dg (s + n)) = run s (n + 1) := by
  rw [dput_at (run s n) (dg (s + n)) n (by rw [run_length]; exact Nat.le_refl _) (fun i hi => by rw [run_get hi]; exact (cb_dg (by omega) (by omega)).2 (by omega)) (fun hk => by rw [run_length] at hk; omega)]
  rw [if_neg (by rw [run_length]; omega), List.take_of_length_le (by rw [run_length]; exact Nat.le_refl _), List.drop_of_length_le (by rw [run_length]; exact Nat.le_refl _), run_snoc]
  simp
theorem dput_front {s n : Nat} (h : s + 1 + n ≤ 65536) : dput (run (s + 1) n) (dg s) = run s (n + 1) := by
  have hne : ∀ i, i < n → (run (s + 1) n).getD i [] ≠ dg s := fun i hi he => by
    rw [run_get hi] at he
    have h1 : ¬ cb (dg s) (dg (s + 1 + i)) < 0 := by rw [he, cb_self]; omega
    exact h1 ((cb_dg (by omega) (by omega)).2 (by omega))
  rw [dput_at (run (s + 1) n) (dg s) 0 (Nat.zero_le _) (fun i hi => absurd hi (by omega)) (fun hk => by
    rw [run_length] at hk
    rw [run_get hk]
    exact fun hc => absurd ((cb_dg (by omega) (by omega)).1 hc) (by omega))]
  rw [if_neg (by rintro ⟨h1, h2⟩; rw [run_length] at h1; exact hne 0 h1 h2)]
  simp [run, List.range'_succ]
theorem not_mem_run {s n m : Nat} (h : s + n ≤ 65536) (hm : m < 65536) (ho : m < s ∨ s + n ≤ m) : ¬ dg m ∈ run s n := by
  intro hmem
  simp only [run, List.mem_map, List.mem_range'_1] at hmem
  obtain ⟨q, hq, he⟩ := hmem
  have h1 : ¬ cb (dg q) (dg m) < 0 := by rw [he, cb_self]; omega
  have h2 : ¬ cb (dg m) (dg q) < 0 := by rw [he, cb_self]; omega
  rw [cb_dg (by omega) hm] at h1
  rw [cb_dg hm (by omega)] at h2
  omega
end Go.Hx
end
section
/- The engine over things in memory, eighth part: panics that go through a function's end, and what recovers them. No statement is proved here. -/
set_option linter.unusedVariables false
set_option linter.unusedSimpArgs false
set_option linter.unusedSectionVars false
namespace Go.Eng
open Go.RowKit
/-- a panic with one value that nobody has recovered -/
abbrev pan (v : Value) : List PanicEntry := [{ v, recovered := false }]
/-- how a call ends: with a value, or in a panic -/
def RE (b : Base) (R Rp : Value → List Res → List Res → Prop) : Ending → World → Prop := fun e w' =>
  (∃ v X' S', e = .returned v ∧ R v X' S' ∧ Mem b X' S' w') ∨ (∃ v X' S', e = .panicked (pan v) ∧ Rp v X' S' ∧ Mem b X' S' w')
/-- a contract of what may end in a panic -/
def ConE (P : Program) (f : Nat) (args : List Value) (X0 S0 : List Res) (R Rp : Value → List Res → List Res → Prop) : Prop :=
  ∀ w, Mem ⟨w, feet X0, feet S0⟩ X0 S0 w → Calls P f args.toArray w (RE ⟨w, feet X0, feet S0⟩ R Rp)
def NoP : Value → List Res → List Res → Prop := fun _ _ _ => False
theorem Con.toE {P : Program} {f : Nat} {vs : List Value} {X0 S0 : List Res} {R Rp : Value → List Res → List Res → Prop} (h : Con P f vs X0 S0 R) : ConE P f vs X0 S0 R Rp := fun w m =>
  Calls.mono (h w m) (fun e w' ⟨v, X', S', h1, h2, h3⟩ => .inl ⟨v, X', S', h1, h2, h3⟩)
theorem ConE.toCon {P : Program} {f : Nat} {vs : List Value} {X0 S0 : List Res} {R Rp : Value → List Res → List Res → Prop} (h : ConE P f vs X0 S0 R Rp) (hn : ∀ v X S, ¬ Rp v X S) : Con P f vs X0 S0 R := fun w m =>
  Calls.mono (h w m) (fun e w' hr => by
    rcases hr with ⟨v, X', S', h1, h2, h3⟩ | ⟨v, X', S', h1, h2, h3⟩
    · exact ⟨v, X', S', h1, h2, h3⟩
    · exact absurd h2 (hn _ _ _))
theorem ConE.mono {P : Program} {f : Nat} {vs : List Value} {X0 S0 : List Res} {R Rp R' Rp' : Value → List Res → List Res → Prop} (h : ConE P f vs X0 S0 R Rp) (h1 : ∀ v X S, R v X S → R' v X S) (h2 : ∀ v X S, Rp v X S → Rp' v X S) : ConE P f vs X0 S0 R' Rp' := fun w m =>
  Calls.mono (h w m) (fun e w' hr => by
    rcases hr with ⟨v, X', S', a1, a2, a3⟩ | ⟨v, X', S', a1, a2, a3⟩
    · exact .inl ⟨v, X', S', a1, h1 _ _ _ a2, a3⟩
    · exact .inr ⟨v, X', S', a1, h2 _ _ _ a2, a3⟩)
section
variable {P : Program} {Q : Exit → Act → World → Prop} {N : Nat} {D : List Deferred} {ρ : Env} {b : Base} {X X' X0 Xr S S' S0 : List Res} {ty : TypeId} {x : Operand} {K : Value → List Res → List Res → Prop}
theorem x_callE {w : World} {K : Value → World → Prop} {f : Nat} {l : List Operand} {vs : List Value} {tys : Array TypeId} {R : Ending → World → Prop} (hv : evs ρ l = some vs) (hf : ∀ args w, (callFunc f args).run P w = .ok (.enter f args) w)
    (hc : Calls P f vs.toArray w R) (hR : ∀ e w', R e w' → (∃ v, e = .returned v ∧ K v w') ∨ ∃ c, e = .panicked c ∧ WQ Q N D (.panic c) ρ w') : XW P Q N D ρ w (.call ⟨.value (.func f), l.toArray, tys⟩) ty K := by
  intro a dst pos af g ha
  unfold Oper.wp
  have : (execOp a.eval ⟨dst, .call ⟨.value (.func f), l.toArray, tys⟩, ty, pos, af, g⟩).run P w = .ok (.enter f vs.toArray) w := by
    simp [execOp, resolve, Deferred.ofValue, Act.eval, invoke, ha.evals hv, hf]
  rw [this]
  refine Calls.mono hc ?_
  intro e w' he
  rcases hR e w' he with ⟨v, rfl, hk⟩ | ⟨c, rfl, hk⟩
  · exact ⟨v, rfl, hk⟩
  · exact hk a ha
theorem x_callvE {w : World} {K : Value → World → Prop} {f : Nat} {l : List Operand} {vs first cap : List Value} {tys : Array TypeId} {R : Ending → World → Prop} (hx : ev ρ x = some (.func (.func f) first.toArray cap.toArray)) (hv : evs ρ l = some vs) (hf : ∀ args w, (callFunc f args).run P w = .ok (.enter f args) w)
    (hc : Calls P f (first ++ vs ++ cap).toArray w R) (hR : ∀ e w', R e w' → (∃ v, e = .returned v ∧ K v w') ∨ ∃ c, e = .panicked c ∧ WQ Q N D (.panic c) ρ w') : XW P Q N D ρ w (.call ⟨.value x, l.toArray, tys⟩) ty K := by
  intro a dst pos af g ha
  unfold Oper.wp
  have : (execOp a.eval ⟨dst, .call ⟨.value x, l.toArray, tys⟩, ty, pos, af, g⟩).run P w = .ok (.enter f (first ++ vs ++ cap).toArray) w := by
    simp [execOp, resolve, Deferred.ofValue, ha.eval hx, invoke, ha.evals hv, hf]
  rw [this]
  refine Calls.mono hc ?_
  intro e w' he
  rcases hR e w' he with ⟨v, rfl, hk⟩ | ⟨c, rfl, hk⟩
  · exact ⟨v, rfl, hk⟩
  · exact hk a ha
theorem xh_callE {f : Nat} {l : List Operand} {vs : List Value} {tys : Array TypeId} {R Rp : Value → List Res → List Res → Prop} (hv : evs ρ l = some vs) (hf : ∀ args w, (callFunc f args).run P w = .ok (.enter f args) w)
    (hc : ConE P f vs X0 S0 R Rp) (is : List Nat) (hX : takeR is X = some (X0, Xr)) (js : List Nat) (hS : getR js S = some S0)
    (kp : ∀ v X' S', Rp v X' S' → HQ Q N D (.panic (pan v)) ρ b (X' ++ Xr) (S' ++ S)) (k : ∀ v X' S', R v X' S' → K v (X' ++ Xr) (S' ++ S)) : XH P Q N D ρ b X S (.call ⟨.value (.func f), l.toArray, tys⟩) ty K := fun w m => by
  have m1 := m.perm (takeR_perm _ _ _ _ hX)
  refine x_callE hv hf (hc w (m1.part (getR_sub _ _ _ hS))) ?_
  rintro e w' (⟨v, X', S', rfl, hR, m'⟩ | ⟨v, X', S', rfl, hR, m'⟩)
  · exact .inl ⟨v, rfl, _, _, m1.frame (getR_sub _ _ _ hS) m', k v X' S' hR⟩
  · exact .inr ⟨_, rfl, kp v X' S' hR w' (m1.frame (getR_sub _ _ _ hS) m')⟩
theorem xh_callvE {f : Nat} {l : List Operand} {vs first cap : List Value} {tys : Array TypeId} {R Rp : Value → List Res → List Res → Prop} (hx : ev ρ x = some (.func (.func f) first.toArray cap.toArray)) (hv : evs ρ l = some vs) (hf : ∀ args w, (callFunc f args).run P w = .ok (.enter f args) w)
    (hc : ConE P f (first ++ vs ++ cap) X0 S0 R Rp) (is : List Nat) (hX : takeR is X = some (X0, Xr)) (js : List Nat) (hS : getR js S = some S0)
    (kp : ∀ v X' S', Rp v X' S' → HQ Q N D (.panic (pan v)) ρ b (X' ++ Xr) (S' ++ S)) (k : ∀ v X' S', R v X' S' → K v (X' ++ Xr) (S' ++ S)) : XH P Q N D ρ b X S (.call ⟨.value x, l.toArray, tys⟩) ty K := fun w m => by
  have m1 := m.perm (takeR_perm _ _ _ _ hX)
  refine x_callvE hx hv hf (hc w (m1.part (getR_sub _ _ _ hS))) ?_
  rintro e w' (⟨v, X', S', rfl, hR, m'⟩ | ⟨v, X', S', rfl, hR, m'⟩)
  · exact .inl ⟨v, rfl, _, _, m1.frame (getR_sub _ _ _ hS) m', k v X' S' hR⟩
  · exact .inr ⟨_, rfl, kp v X' S' hR w' (m1.frame (getR_sub _ _ _ hS) m')⟩
theorem xh_callEl {f : Nat} {l : List Operand} {vs : List Value} {tys : Array TypeId} {R Rp : Value → List Res → List Res → Prop} (hv : evs ρ l = some vs) (hf : ∀ args w, (callFunc f args).run P w = .ok (.enter f args) w)
    (hc : ConE P f vs X0 S0 R Rp) (is : List Nat) (hX : takeR is X = some (X0, Xr)) (hl : Lend Xr S S0)
    (kp : ∀ v X' S', Rp v X' S' → S' = [] ∧ HQ Q N D (.panic (pan v)) ρ b (X' ++ Xr) S) (k : ∀ v X' S', R v X' S' → S' = [] ∧ K v (X' ++ Xr) S) : XH P Q N D ρ b X S (.call ⟨.value (.func f), l.toArray, tys⟩) ty K := fun w m => by
  have m1 := m.perm (takeR_perm _ _ _ _ hX)
  refine x_callE hv hf (hc w (m1.lent hl)) ?_
  rintro e w' (⟨v, X', S', rfl, hR, m'⟩ | ⟨v, X', S', rfl, hR, m'⟩)
  · obtain ⟨rfl, hk⟩ := k v X' S' hR
    have m2 : Mem ⟨w, feet X0, feet []⟩ X' [] w' := ⟨m'.fr, m'.xx, by simp, m'.hx, by simp, m'.nx, by simp⟩
    exact .inl ⟨v, rfl, _, _, Mem.frame (S0 := []) m1 (by simp) m2, hk⟩
  · obtain ⟨rfl, hk⟩ := kp v X' S' hR
    have m2 : Mem ⟨w, feet X0, feet []⟩ X' [] w' := ⟨m'.fr, m'.xx, by simp, m'.hx, by simp, m'.nx, by simp⟩
    exact .inr ⟨_, rfl, hk w' (Mem.frame (S0 := []) m1 (by simp) m2)⟩
theorem hthen_panic {K : Act → World → Prop} {c : List PanicEntry} (h : HQ Q N D (.panic c) ρ b X S) : HQ (Exit.then K Q) N D (.panic c) ρ b X S := h
theorem hqblock_panic {id : Nat} {c : List PanicEntry} (h : HQ Q N D (.panic c) ρ b X S) : HQ (Exit.inBlock id Q) N D (.panic c) ρ b X S := h
end
theorem henterE {P : Program} {f : Nat} {fn : Func} {c : Code} {vs : List Value} {R Rp : Value → List Res → List Res → Prop} {N : Nat} {X0 S0 : List Res} (hf : P.funcs[f]? = some fn) (hb : fn.body = some c) (hN : fn.ntmps = N) (hl : vs.length ≤ N)
    (h : ∀ b, HC P (bodyPost P fn (RE b R Rp)) N [] c (argsEnv vs 0) b X0 S0) : ConE P f vs X0 S0 R Rp := fun w m => enter hf hb hN hl (h _ w m)
section
variable {P : Program} {fn : Func} {R Rp : Value → List Res → List Res → Prop} {N : Nat} {D : List Deferred} {ρ : Env} {b : Base} {X X' Xz Xr X0 S S' S0 : List Res} {e : Exit} {u : FrameMode}
theorem bodyPost_mono {R1 R2 : Ending → World → Prop} (h : ∀ e w, R1 e w → R2 e w) : ∀ e a w, bodyPost P fn R1 e a w → bodyPost P fn R2 e a w
  | .normal, a, w, ⟨h1, v, h2, h3⟩ => ⟨h1, v, h2, h _ _ h3⟩
  | .ret, a, w, ⟨h1, v, h2, h3⟩ => ⟨h1, v, h2, h _ _ h3⟩
  | .panic c, a, w, ⟨h1, h2⟩ => ⟨h1, h _ _ h2⟩
  | .outgrown, a, w, h1 => h _ _ h1
  | .exit _, a, w, h1 => h1.elim
  | .goto _, a, w, h1 => h1.elim
/-- the normal end of what may end in a panic -/
theorem hretE (h : HQ (bodyPost P fn (RB b R)) N D e ρ b X S) : HQ (bodyPost P fn (RE b R Rp)) N D e ρ b X S := fun w m a ha =>
  bodyPost_mono (fun e w h => by obtain ⟨v, X', S', h1, h2, h3⟩ := h; exact .inl ⟨v, X', S', h1, h2, h3⟩) _ _ _ (h w m a ha)
theorem hpanE {v : Value} (is : List Nat) (hX : takeR is X = some (X', Xz)) (js : List Nat) (hS : getR js S = some S') (hR : Rp v X' S') : HQ (bodyPost P fn (RE b R Rp)) N [] (.panic (pan v)) ρ b X S := fun w m a ha =>
  ⟨ha.df, .inr ⟨v, X', S', rfl, hR, m.out is hX js hS⟩⟩
/-- where a function with calls at its end leaves, in any mode -/
def HEu (P : Program) (fn : Func) (b : Base) (R : Value → List Res → List Res → Prop) (N : Nat) (D : List Deferred) (ρ : Env) (X S : List Res) (u : FrameMode) : Prop := ∀ w, Mem b X S w → ∀ tmps : Array Value, (∀ t v, get ρ t = some v → tmps[t]? = some v) → Go.Leaves P fn tmps (RB b R) D u w
theorem hleaveN (he : Leaves e) (h : HEu P fn b R N D ρ X S .returning) : HQ (bodyPostD P fn (RB b R)) N D e ρ b X S := hleave he h
theorem hleaveP {c : List PanicEntry} (h : HEu P fn b R N D ρ X S (.panicking c)) : HQ (bodyPostD P fn (RB b R)) N D (.panic c) ρ b X S := fun w m a ha => by
  have := h w m a.tmps ha.gt
  show Go.Leaves P fn a.tmps (RB b R) a.defers (.panicking c) w
  rw [ha.df]
  exact this
theorem HEu.toE (h : HE P fn b R N D ρ X S) : HEu P fn b R N D ρ X S .returning := h
/-- a contract of what is called at a function's end: how it then goes on -/
def ConD (P : Program) (f : Nat) (args : List Value) (u : FrameMode) (X0 S0 : List Res) (R : FrameMode → List Res → List Res → Prop) : Prop :=
  ∀ w, Mem ⟨w, feet X0, feet S0⟩ X0 S0 w → CallsD P f args.toArray u w fun e u' w' => e = .returned (.tuple #[]) ∧ ∃ X' S', R (settle u') X' S' ∧ Mem ⟨w, feet X0, feet S0⟩ X' S' w'
theorem hdone {f : Nat} {vs cap : List Value} {Rd : FrameMode → List Res → List Res → Prop} (hu : u ≠ .run) (hcall : ∀ args w, (callFunc f args).run P w = .ok (.enter f args) w) (hc : ConD P f (vs ++ cap) u X0 S0 Rd) (is : List Nat) (hX : takeR is X = some (X0, Xr)) (js : List Nat) (hS : getR js S = some S0)
    (k : ∀ u' X' S', Rd u' X' S' → HEu P fn b R N D ρ (X' ++ Xr) (S' ++ S) u') : HEu P fn b R N (⟨.fn (.func f) cap.toArray, vs.toArray⟩ :: D) ρ X S u := fun w m tmps ht => by
  have m1 := m.perm (takeR_perm _ _ _ _ hX)
  refine leaves_cons (f := f) (args := (vs ++ cap).toArray) hu ?_ ?_
  · simp [invoke, hcall]
  · refine CallsD.mono (hc w (m1.part (getR_sub _ _ _ hS))) ?_
    rintro e u' w' ⟨rfl, X', S', hR, m'⟩
    exact k _ _ _ hR w' (m1.frame (getR_sub _ _ _ hS) m') tmps ht
end
/-! ### what recovers -/
section
variable {P : Program} {ops : Array Oper} {fn : Func} {N : Nat} {D : List Deferred} {ρ ρ' : Env} {w : World} {c₀ : Frame} {cs : List Frame} {R : Ending → FrameMode → World → Prop} {Q : Exit → Act → List Frame → World → Prop} {op : Op} {ty : TypeId} {pos : String} {af : Array Edge} {d : Nat} {v : Value} {rest : List Nat} {u : FrameMode}
/-- operations that look at who called -/
def SL (P : Program) (ops : Array Oper) (Q : Exit → Act → List Frame → World → Prop) (N : Nat) (D : List Deferred) (l : List Nat) (ρ : Env) (cs : List Frame) (w : World) : Prop := ∀ a, Ag N D ρ a → wpOpsS P ops Q l a cs w
theorem sl_y {i : Nat} (ho : ops[i]? = some ⟨some d, op, ty, pos, af, none⟩) (h : Yl P N D ρ w op ty v) (k : SL P ops Q N D rest ((d, v) :: ρ) cs w) (hd : d < N := by decide) : SL P ops Q N D (i :: rest) ρ cs w := fun a ha => by
  simp only [wpOpsS, ho]
  rw [if_pos (by simp [Region.wanted]), h a (some d) pos af none ha]
  exact k _ (ha.put hd)
theorem sl_end (h : ∀ a, Ag N D ρ a → Q .normal a cs w) : SL P ops Q N D [] ρ cs w := h
theorem sl_rec {i : Nat} {tys : Array TypeId} {pv : Value} {older : List PanicEntry} (ho : ops[i]? = some ⟨some d, .call ⟨.builtin .recover, #[], tys⟩, ty, pos, af, none⟩) (hu : c₀.mode = .panicking ({ v := pv, recovered := false } :: older))
    (k : SL P ops Q N D rest ((d, pv) :: ρ) ({ c₀ with mode := .panicking ({ v := pv, recovered := true } :: older) } :: cs) w) (hd : d < N := by decide) : SL P ops Q N D (i :: rest) ρ (c₀ :: cs) w := fun a ha => by
  have hr : (execOp a.eval ⟨some d, .call ⟨.builtin .recover, #[], tys⟩, ty, pos, af, none⟩).run P w = .ok .recover w := by
    simp [execOp, resolve, invoke, builtin]
  have h2 : recoverD (c₀ :: cs) = some (pv, { c₀ with mode := .panicking ({ v := pv, recovered := true } :: older) } :: cs) := by simp [recoverD, hu]
  simp only [wpOpsS, ho]
  rw [if_pos (by simp [Region.wanted]), hr]
  simp only [h2]
  exact k _ (ha.put hd)
theorem sl_rec0 {i : Nat} {tys : Array TypeId} (ho : ops[i]? = some ⟨some d, .call ⟨.builtin .recover, #[], tys⟩, ty, pos, af, none⟩) (hu : c₀.mode = .returning)
    (k : SL P ops Q N D rest ((d, .nilIface) :: ρ) (c₀ :: cs) w) (hd : d < N := by decide) : SL P ops Q N D (i :: rest) ρ (c₀ :: cs) w := fun a ha => by
  have hr : (execOp a.eval ⟨some d, .call ⟨.builtin .recover, #[], tys⟩, ty, pos, af, none⟩).run P w = .ok .recover w := by
    simp [execOp, resolve, invoke, builtin]
  have h2 : recoverD (c₀ :: cs) = none := by simp [recoverD, hu]
  simp only [wpOpsS, ho]
  rw [if_pos (by simp [Region.wanted]), hr]
  simp only [h2]
  exact k _ (ha.put hd)
/-- the rest of the code does not look at who called -/
theorem s_rest {c : Code} {a : Act} {b : Base} {X S : List Res} {R0 : Ending → World → Prop} (m : Mem b X S w) (h : HC P (bodyPost P fn R0) N [] c ρ b X S) (ha : Ag N [] ρ a) (hR : ∀ e w', R0 e w' → ∃ v, e = .returned v ∧ R (.returned v) u w') : c.wpS P (bodyPostS P fn c₀ cs R) a ({ c₀ with mode := u } :: cs) w := by
  refine wpS_of_wp (wp_mono (h w m a ha) ?_)
  intro e a' w' hb
  cases e with
  | normal =>
    obtain ⟨h1, v, h2, h3⟩ := hb
    obtain ⟨v', hv, h4⟩ := hR _ _ h3
    cases hv
    exact ⟨h1, u, rfl, v, h2, h4⟩
  | ret =>
    obtain ⟨h1, v, h2, h3⟩ := hb
    obtain ⟨v', hv, h4⟩ := hR _ _ h3
    cases hv
    exact ⟨h1, u, rfl, v, h2, h4⟩
  | panic c =>
    obtain ⟨h1, h2⟩ := hb
    obtain ⟨v', hv, h4⟩ := hR _ _ h2
    cases hv
  | outgrown =>
    obtain ⟨v', hv, h4⟩ := hR _ _ hb
    cases hv
  | exit id => exact hb.elim
  | goto l => exact hb.elim
end
/-- a closure of a region that recovers, and the rest: X0: what it may change -/
theorem conD_enter {P : Program} {f : Nat} {fn : Func} {id : Nat} {ops : Array Oper} {c2 : Code} {vs : List Value} {u u2 : FrameMode} {N : Nat} {X0 S0 : List Res} {ρ2 : Env} {R : FrameMode → List Res → List Res → Prop} (hf : P.funcs[f]? = some fn) (hb : fn.body = some (.seq (.region id ops false) c2)) (hN : fn.ntmps = N) (hl : vs.length ≤ N)
    (h1 : ∀ (c₀ : Frame) (cs : List Frame) (w : World) (b : Base) (Q : Exit → Act → List Frame → World → Prop), c₀.mode = u → Mem b X0 S0 w → (∀ a, Ag N [] ρ2 a → Q .normal a ({ c₀ with mode := u2 } :: cs) w) → SL P ops Q N [] (List.range ops.size) (argsEnv vs 0) (c₀ :: cs) w)
    (h2 : ∀ b, HC P (bodyPost P fn (RB b fun v X S => v = .tuple #[] ∧ R (settle u2) X S)) N [] c2 ρ2 b X0 S0) : ConD P f vs u X0 S0 R := fun w m => by
  refine callsD_of_wpS hf hb fun c₀ cs hu => ?_
  refine wpS_seq (wpS_region ?_)
  refine h1 c₀ cs w _ _ hu m ?_ _ ⟨?_, rfl, fun t v ht => ?_⟩
  · intro a ha
    refine s_rest m (h2 _) ha ?_
    rintro e w' ⟨v, X', S', rfl, ⟨rfl, hR⟩, m'⟩
    exact ⟨_, rfl, rfl, X', S', hR, m'⟩
  · simp [hN]; omega
  · obtain ⟨_, h2⟩ := get_argsEnv vs 0 t v ht
    have hlt := (List.getElem?_eq_some_iff.1 h2).1
    rw [Array.getElem?_append_left (by simpa using hlt)]
    simpa using h2
end Go.Eng
end
section
/- What law SlotsBacks does. No program. -/
set_option linter.unusedVariables false
set_option linter.unusedSimpArgs false
namespace Go.Proofs.YtfikjheicjamhaaDoor
open Go.Eng Go.Hx
def slOf (x : List UInt8) : Sl := ⟨true, shaL x, (x.length : Int)⟩
/-- both slots are full; i times it went back -/
def BI (x y : List UInt8) (d : RD) (i : Nat) : Prop := Sst d ⟨((i % 2 : Nat) : Int), 2 + (i : Int), slOf y, slOf x⟩ (fset (fset (fun _ => none) 1 x) 0 y) (515 + 87 * i) 2000
theorem backs_start {x y : List UInt8} (hx : x.length ≤ 40) (hy : y.length ≤ 40) {d0 : RD} (h0 : Sst d0 Sup.zero (fun _ => none) 87 2000) :
    ∃ d1 d2 d3 d4 i1 i3, d0.backS = (d0, 0, 4) ∧ d0.stageS x = (d1, i1, 0) ∧ d1.flipS (shaL x) = (d2, 1, 0) ∧ d2.backS = (d2, 0, 4) ∧ d2.stageS y = (d3, i3, 0) ∧ d3.flipS (shaL y) = (d4, 2, 0) ∧ BI x y d4 0 := by
  obtain ⟨d1, e1, h1⟩ := h0.stage (bb := x) (by omega) (by omega)
  rw [freed_zero] at h1
  have q1 : fset (fun _ => none) Sup.zero.other x Sup.zero.other = some x := fset_self _ _ _
  obtain ⟨d2, e2, h2⟩ := h1.flip (q := x) (im := shaL x) q1 (by omega) rfl (by decide) (by omega)
  have hs1 : Sup.flipped Sup.zero (shaL x) x.length = ⟨1, 1, Sl.zero, slOf x⟩ := rfl
  rw [hs1] at h2
  obtain ⟨d3, e3, h3⟩ := h2.stage (bb := y) (by omega) (by omega)
  have hf : Sup.freed ⟨1, 1, Sl.zero, slOf x⟩ = ⟨1, 1, Sl.zero, slOf x⟩ := rfl
  rw [hf] at h3
  have q3 : fset (fset (fun _ => none) 1 x) 0 y (Sup.mk 1 1 Sl.zero (slOf x)).other = some y := rfl
  obtain ⟨d4, e4, h4⟩ := h3.flip (q := y) (im := shaL y) q3 (by omega) rfl (by show (1 : Int) < 2147483647; decide) (by omega)
  have hs2 : Sup.flipped ⟨1, 1, Sl.zero, slOf x⟩ (shaL y) y.length = ⟨0, 2, slOf y, slOf x⟩ := rfl
  rw [hs2] at h4
  refine ⟨d1, d2, d3, d4, _, _, h0.backNo rfl, e1, e2, h2.backNo rfl, e3, e4, ?_⟩
  exact h4.le (by omega)
theorem backs_step {x y : List UInt8} (hx : x.length ≤ 40) (hy : y.length ≤ 40) {d : RD} {i : Nat} (h : BI x y d i) (hi : i < 6) :
    ∃ d', d.backS = (d', 2 + ((i + 1 : Nat) : Int), 0) ∧ BI x y d' (i + 1) ∧ d'.activeS = (if (i + 1) % 2 = 0 then y else x, 0) := by
  have key : ∀ {a b : Nat}, a < 2 → b = 1 - a → i % 2 = a → (i + 1) % 2 = b → ∃ d', d.backS = (d', 2 + ((i + 1 : Nat) : Int), 0) ∧ BI x y d' (i + 1) ∧ d'.activeS = (if b = 0 then y else x, 0) := by
    intro a b ha hb h1 h2
    have hs : ∀ s : Sup, s = ⟨((i % 2 : Nat) : Int), 2 + (i : Int), slOf y, slOf x⟩ → s.other = b ∧ (s.at b) = slOf (if b = 0 then y else x) ∧ s.turned = ⟨(((i + 1) % 2 : Nat) : Int), 2 + ((i + 1 : Nat) : Int), slOf y, slOf x⟩ := by
      rintro s rfl
      refine ⟨?_, ?_, ?_⟩
      · show ((1 : Int) - ((i % 2 : Nat) : Int)).toNat = b
        omega
      · match b, (show b < 2 by omega) with
        | 0, _ => rfl
        | 1, _ => rfl
      · show Sup.mk (1 - ((i % 2 : Nat) : Int)) (2 + (i : Int) + 1) (slOf y) (slOf x) = _
        have e1 : (1 : Int) - ((i % 2 : Nat) : Int) = (((i + 1) % 2 : Nat) : Int) := by omega
        have e2 : (2 : Int) + (i : Int) + 1 = 2 + ((i + 1 : Nat) : Int) := by omega
        rw [e1, e2]
    obtain ⟨ho, hat, ht⟩ := hs _ rfl
    have hq : ∀ j, j < 2 → fset (fset (fun _ => none) 1 x) 0 y j = some (if j = 0 then y else x)
      | 0, _ => rfl
      | 1, _ => rfl
    have hbl : b < 2 := by omega
    have hql : (if b = 0 then y else x).length ≤ 40 := by split <;> assumption
    have h' : Sst d _ _ _ _ := h
    obtain ⟨d', e1, h3⟩ := h'.back (q := if b = 0 then y else x) (by rw [ho, hat]; rfl) (by rw [ho]; exact hq b hbl) (by rw [ho, hat]; rfl) (by rw [ho, hat]; rfl) (by show 2 + (i : Int) < _; omega) (by omega)
    rw [ht] at h3
    have h4 : BI x y d' (i + 1) := h3.le (by omega)
    have e2 : d.backS = (d', 2 + ((i + 1 : Nat) : Int), 0) := by
      rw [e1]
      show (d', 2 + (i : Int) + 1, (0 : Int)) = _
      rw [show (2 : Int) + (i : Int) + 1 = 2 + ((i + 1 : Nat) : Int) by omega]
    refine ⟨d', e2, h4, ?_⟩
    have hw : Whole ⟨(((i + 1) % 2 : Nat) : Int), 2 + ((i + 1 : Nat) : Int), slOf y, slOf x⟩ (fset (fset (fun _ => none) 1 x) 0 y) (if b = 0 then y else x) := by
      rw [h2]
      match b, hbl with
      | 0, _ => exact ⟨rfl, rfl, rfl, rfl⟩
      | 1, _ => exact ⟨rfl, rfl, rfl, rfl⟩
    exact Sst.whole h4 hw
  rcases (show i % 2 = 0 ∨ i % 2 = 1 by omega) with h1 | h1
  · have := key (a := 0) (b := 1) (by decide) rfl h1 (by omega)
    rwa [show (i + 1) % 2 = 1 by omega]
  · have := key (a := 1) (b := 0) (by decide) rfl h1 (by omega)
    rwa [show (i + 1) % 2 = 0 by omega]
end Go.Proofs.YtfikjheicjamhaaDoor
end
section
/- Plain disks with so much power, and what a restart may find behind a failure. No program. -/
set_option linter.unusedVariables false
set_option linter.unusedSimpArgs false
namespace Go.Proofs.YtfikjheicjamhaaDoor
open Go.Eng Go.Hx
/-- a disk with power for n more operations, all of it synced -/
structure Pat (d : RD) (F : List UInt8 → Option (List UInt8)) (T : Nat) (room : Int) (n : Nat) : Prop where
  pw : d.pw = (n : Int)
  room : d.room = room
  look : ∀ p, lk d.seen p = F p
  same : d.lasts = d.seen
  waits : d.waits = []
  tot : totF d.seen ≤ T
/-- what a restart may find -/
structure Crash (d : RD) (Q : (List UInt8 → Option (List UInt8)) → Prop) (T : Nat) (room : Int) : Prop where
  re : ∀ keep, ∃ F, At (d.restart keep) F T room ∧ Q F
  nr : ∀ c ∈ d.waits, c.1 ≠ 2
theorem Crash.mono {d : RD} {Q Q' : (List UInt8 → Option (List UInt8)) → Prop} {T T' : Nat} {room : Int} (h : Crash d Q T room) (hQ : ∀ F, Q F → Q' F) (hT : T ≤ T') : Crash d Q' T' room := by
  refine ⟨fun keep => ?_, h.nr⟩
  obtain ⟨F, h1, h2⟩ := h.re keep
  exact ⟨F, ⟨h1.pw, h1.room, h1.look, Nat.le_trans h1.tot hT⟩, hQ F h2⟩
theorem Pat.crash {d : RD} {F : List UInt8 → Option (List UInt8)} {T : Nat} {room : Int} {n : Nat} (h : Pat d F T room n) : Crash d (fun F' => ∀ p, F' p = F p) T room := by
  refine ⟨fun keep => ⟨F, ⟨rfl, h.room, fun p => ?_, ?_⟩, fun p => rfl⟩, fun c hc => by rw [h.waits] at hc; cases hc⟩
  · have e : (d.restart keep).seen = d.seen := by
      show (dfold keep d d.waits.length).2 = _
      rw [h.waits, ← h.same]; simp [dfold]
    rw [e]; exact h.look p
  · have e : (d.restart keep).seen = d.seen := by
      show (dfold keep d d.waits.length).2 = _
      rw [h.waits, ← h.same]; simp [dfold]
    rw [e]; exact h.tot
theorem restart_one {d : RD} {c : RC} (hw : d.waits = [c]) (keep : List Bool) : (d.restart keep).seen = (dstep (keep, d.lasts) c).2 := by
  show (dfold keep d d.waits.length).2 = _
  rw [dfold, hw]
  rfl
theorem lessP_succ (n : Nat) : lessP ((n + 1 : Nat) : Int) = (n : Int) := by unfold lessP; rw [if_pos (by omega)]; omega
/-- one write, and its sync -/
theorem Pat.write0 {d : RD} {F : List UInt8 → Option (List UInt8)} {T : Nat} {room : Int} (h : Pat d F T room 0) {p l : List UInt8} (hp : Named p) : d.writeE p l = 6 := by
  rw [RD.writeE, if_neg (fun k => k hp), if_pos (by simpa using h.pw)]
theorem Pat.writeE {d : RD} {F : List UInt8 → Option (List UInt8)} {T : Nat} {room : Int} {n : Nat} (h : Pat d F T room (n + 1)) {p l : List UInt8} (hp : Named p) (hr : (T : Int) + (l.length : Nat) ≤ room) : d.writeE p l = 0 := by
  have h1 := h.tot
  have h2 := h.room
  rw [RD.writeE, if_neg (fun k => k hp), if_neg (by rw [h.pw]; omega), if_neg (by omega)]
theorem Pat.write {d : RD} {F : List UInt8 → Option (List UInt8)} {T : Nat} {room : Int} {n : Nat} (h : Pat d F T room (n + 1)) {p l : List UInt8} (hp : Named p) (hr : (T : Int) + (l.length : Nat) ≤ room) :
    (n = 0 ∧ (d.write p l).syncE = 6 ∧ Crash (d.write p l) (fun F' => ∀ q, q ≠ p → F' q = F q) (T + l.length) room) ∨
    (∃ m, n = m + 1 ∧ (d.write p l).syncE = 0 ∧ Pat (d.write p l).sync (fup F p (some l)) (T + l.length) room m) := by
  have hW : d.write p l = d.did 0 p [] l := by rw [RD.write, if_pos (h.writeE hp hr)]
  have hs : (d.write p l).seen = insF d.seen (p, l) := by
    rw [hW]
    show makeF d.seen 0 p [] l = _
    rw [makeF, if_pos rfl, withF_ins]
  have hpw : (d.write p l).pw = (n : Int) := by rw [hW]; show lessP d.pw = _; rw [h.pw, lessP_succ]
  have ht := h.tot
  have ins : ∀ l' : List UInt8, l'.length ≤ l.length → totF (insF d.seen (p, l')) ≤ T + l.length := fun l' hl => by
    have := totF_ins d.seen (p, l')
    have e : (p, l').2.length = l'.length := rfl
    omega
  match n, hpw with
  | 0, hpw =>
    refine .inl ⟨rfl, by rw [RD.syncE, if_pos (by simpa using hpw)], fun keep => ?_, fun c hc => ?_⟩
    · have hwt : (d.write p l).waits = [(0, p, [], l)] := by rw [hW]; show d.waits ++ _ = _; rw [h.waits]; rfl
      have hla : (d.write p l).lasts = d.seen := by rw [hW]; exact h.same
      have hre := restart_one hwt keep
      rw [hla] at hre
      have hroom : ((d.write p l).restart keep).room = room := by rw [hW]; exact h.room
      unfold dstep at hre
      by_cases hb : keep.headD false = true
      · rw [if_pos hb, if_pos rfl] at hre
        have hre2 : ∀ l' : List UInt8, l'.length ≤ l.length → ((d.write p l).restart keep).seen = makeF d.seen 0 p [] l' → ∃ F', At ((d.write p l).restart keep) F' (T + l.length) room ∧ ∀ q, q ≠ p → F' q = F q := fun l' hl he => by
          rw [makeF, if_pos rfl, withF_ins] at he
          refine ⟨fup F p (some l'), ⟨rfl, hroom, fun q => ?_, by rw [he]; exact ins l' hl⟩, fun q hq => if_neg hq⟩
          rw [he, lk_ins]
          unfold fup
          split
          · rfl
          · exact h.look q
        by_cases hb2 : keep.tail.headD false = true
        · simp only [hb2, if_true] at hre
          exact hre2 l (Nat.le_refl _) hre
        · simp only [hb2, if_false] at hre
          exact hre2 (l.take (l.length / 2)) (by rw [List.length_take]; omega) hre
      · rw [if_neg hb] at hre
        exact ⟨F, ⟨rfl, hroom, fun q => by rw [hre]; exact h.look q, by rw [hre]; show totF d.seen ≤ _; omega⟩, fun q _ => rfl⟩
    · have hwt : (d.write p l).waits = [(0, p, [], l)] := by rw [hW]; show d.waits ++ _ = _; rw [h.waits]; rfl
      rw [hwt] at hc
      rw [List.mem_singleton.1 hc]; show (0 : Int) ≠ 2; decide
  | m + 1, hpw =>
    have hne : ¬ (d.write p l).pw = 0 := by rw [hpw]; omega
    refine .inr ⟨m, rfl, by rw [RD.syncE, if_neg hne], ?_⟩
    have e : (d.write p l).sync = { (d.write p l) with lasts := (d.write p l).seen, waits := [], pw := lessP (d.write p l).pw } := by rw [RD.sync, if_neg hne]
    rw [e]
    refine ⟨by show lessP (d.write p l).pw = _; rw [hpw, lessP_succ], by show (d.write p l).room = _; rw [hW]; exact h.room, fun q => ?_, rfl, rfl, ?_⟩
    · show lk (d.write p l).seen q = _
      rw [hs, lk_ins]
      unfold fup
      split
      · rfl
      · exact h.look q
    · show totF (d.write p l).seen ≤ _
      rw [hs]; exact ins l (Nat.le_refl _)
/-- one rename, and its sync -/
theorem Pat.rename {d : RD} {F : List UInt8 → Option (List UInt8)} {T : Nat} {room : Int} {n : Nat} (h : Pat d F T room (n + 1)) {a c x : List UInt8} (hc : Named c) (hx : F a = some x) :
    d.renameE a c = 0 ∧ ((n = 0 ∧ (d.rename a c).syncE = 6 ∧ Crash (d.rename a c) (fun F' => (∀ q, F' q = F q) ∨ ∀ q, F' q = fup (fup F a none) c (some x) q) T room) ∨
    (∃ m, n = m + 1 ∧ (d.rename a c).syncE = 0 ∧ Pat (d.rename a c).sync (fup (fup F a none) c (some x)) T room m)) := by
  have h1 := h.look a
  rw [← lk_find, hx] at h1
  obtain ⟨y, hy, hyx⟩ : ∃ y, d.seen[findN d.seen a]? = some y ∧ y.2 = x := by
    cases hq : d.seen[findN d.seen a]? with
    | none => rw [hq] at h1; cases h1
    | some y => rw [hq] at h1; exact ⟨y, rfl, by simpa using h1⟩
  have hya : y.1 = a := by
    obtain ⟨hi, he⟩ := List.getElem?_eq_some_iff.1 hy
    have := List.findIdx_getElem (p := fun x : FP => decide (x.1 = a)) (xs := d.seen) (w := hi)
    rw [← he]
    exact of_decide_eq_true this
  have hE : d.renameE a c = 0 := by
    rw [RD.renameE, if_neg (fun k => k hc), RD.readE, if_neg (by rw [h.pw]; omega), if_neg (by rw [hy]; simp)]
  have hR : d.rename a c = d.did 1 a c [] := by rw [RD.rename, if_pos hE]
  have hmk : ∀ b, makeF d.seen 1 a c b = insF (withoutF d.seen a) (c, x) := fun b => by
    rw [makeF, if_neg (by decide), hy]
    show (if (1 : Int) = 2 then _ else _) = _
    rw [if_neg (by decide), withF_ins, hyx]
  have hlk : ∀ q, lk (insF (withoutF d.seen a) (c, x)) q = fup (fup F a none) c (some x) q := fun q => by
    rw [lk_ins]
    unfold fup withoutF
    split
    · rfl
    · rw [lk_filter]
      split
      · rfl
      · exact h.look q
  have htt : totF (insF (withoutF d.seen a) (c, x)) ≤ T := by
    have h2 := totF_ins (withoutF d.seen a) (c, x)
    have h3 : totF (withoutF d.seen a) + y.2.length ≤ totF d.seen := totF_filter_mem (List.mem_of_getElem? hy) (by simp [hya])
    have := h.tot
    have e : (c, x).2.length = x.length := rfl
    rw [hyx] at h3
    omega
  have hs : (d.rename a c).seen = insF (withoutF d.seen a) (c, x) := by rw [hR]; exact hmk []
  have hpw : (d.rename a c).pw = (n : Int) := by rw [hR]; show lessP d.pw = _; rw [h.pw, lessP_succ]
  refine ⟨hE, ?_⟩
  match n, hpw with
  | 0, hpw =>
    have hwt : (d.rename a c).waits = [(1, a, c, [])] := by rw [hR]; show d.waits ++ _ = _; rw [h.waits]; rfl
    refine .inl ⟨rfl, by rw [RD.syncE, if_pos (by simpa using hpw)], fun keep => ?_, fun k hk => ?_⟩
    · have hla : (d.rename a c).lasts = d.seen := by rw [hR]; exact h.same
      have hre := restart_one hwt keep
      rw [hla] at hre
      have hroom : ((d.rename a c).restart keep).room = room := by rw [hR]; exact h.room
      unfold dstep at hre
      by_cases hb : keep.headD false = true
      · rw [if_pos hb, if_neg (by show ¬ (1 : Int) = 0; decide)] at hre
        have hre3 : ((d.rename a c).restart keep).seen = insF (withoutF d.seen a) (c, x) := hre.trans (hmk [])
        exact ⟨_, ⟨rfl, hroom, fun q => by rw [hre3, hlk], by rw [hre3]; exact htt⟩, .inr fun q => rfl⟩
      · rw [if_neg hb] at hre
        exact ⟨F, ⟨rfl, hroom, fun q => by rw [hre]; exact h.look q, by rw [hre]; exact h.tot⟩, .inl fun q => rfl⟩
    · rw [hwt] at hk
      rw [List.mem_singleton.1 hk]; show (1 : Int) ≠ 2; decide
  | m + 1, hpw =>
    have hne : ¬ (d.rename a c).pw = 0 := by rw [hpw]; omega
    refine .inr ⟨m, rfl, by rw [RD.syncE, if_neg hne], ?_⟩
    have e : (d.rename a c).sync = { (d.rename a c) with lasts := (d.rename a c).seen, waits := [], pw := lessP (d.rename a c).pw } := by rw [RD.sync, if_neg hne]
    rw [e]
    refine ⟨by show lessP (d.rename a c).pw = _; rw [hpw, lessP_succ], by show (d.rename a c).room = _; rw [hR]; exact h.room, fun q => ?_, rfl, rfl, ?_⟩
    · show lk (d.rename a c).seen q = _
      rw [hs, hlk]
    · show totF (d.rename a c).seen ≤ _
      rw [hs]; exact htt
end Go.Proofs.YtfikjheicjamhaaDoor
end
section
/- Save, Stage and Flip with so much power. No program. -/
set_option linter.unusedVariables false
set_option linter.unusedSimpArgs false
namespace Go.Proofs.YtfikjheicjamhaaDoor
open Go.Eng Go.Hx
theorem sync_six {d : RD} (h : d.syncE = 6) : d.sync = d := by
  unfold RD.syncE at h
  split at h
  · rename_i h0; rw [RD.sync, if_pos h0]
  · exact absurd h (by decide)
theorem Pat.readE0 {d : RD} {F : List UInt8 → Option (List UInt8)} {T : Nat} {room : Int} (h : Pat d F T room 0) (p : List UInt8) : d.readE p = 6 := by rw [RD.readE, if_pos (by simpa using h.pw)]
theorem Pat.rename0 {d : RD} {F : List UInt8 → Option (List UInt8)} {T : Nat} {room : Int} (h : Pat d F T room 0) {a c : List UInt8} (hc : Named c) : d.renameE a c = 6 := by rw [RD.renameE, if_neg (fun k => k hc), h.readE0]
theorem Pat.readE {d : RD} {F : List UInt8 → Option (List UInt8)} {T : Nat} {room : Int} {n : Nat} (h : Pat d F T room (n + 1)) (p : List UInt8) : d.readE p = if F p = none then 4 else 0 := by
  have h1 := h.look p
  rw [← lk_find] at h1
  rw [RD.readE, if_neg (by rw [h.pw]; omega)]
  cases hq : d.seen[findN d.seen p]? with
  | none => rw [hq] at h1; rw [if_pos rfl, if_pos (by rw [← h1]; rfl)]
  | some x => rw [hq] at h1; rw [if_neg (by simp), if_neg (by rw [← h1]; simp)]
theorem Pat.readB {d : RD} {F : List UInt8 → Option (List UInt8)} {T : Nat} {room : Int} {n : Nat} (h : Pat d F T room (n + 1)) (p : List UInt8) : d.readB p = (F p).getD [] := by
  have h1 := h.look p
  rw [← lk_find] at h1
  rw [RD.readB, if_neg (by rw [h.pw]; omega), h1]
theorem Pat.saveS {d : RD} {F : List UInt8 → Option (List UInt8)} {T : Nat} {room : Int} {n : Nat} (h : Pat d F T room n) {l : List UInt8} (hr : (T : Int) + (l.length : Nat) ≤ room) :
    (∃ m d' F', n = m + 4 ∧ d.saveS nNew nSup l = (d', 0) ∧ Pat d' F' (T + l.length) room m ∧ F' nSup = some l ∧ ∀ i, F' (nSlot i) = F (nSlot i)) ∨
    (n < 4 ∧ ∃ d', d.saveS nNew nSup l = (d', 6) ∧ Crash d' (fun F' => (F' nSup = F nSup ∨ F' nSup = some l) ∧ ∀ i, F' (nSlot i) = F (nSlot i)) (T + l.length) room) := by
  have s0 : nSup ≠ nNew := by decide
  match n, h with
  | 0, h => exact .inr ⟨by decide, d, by rw [RD.saveS, if_pos (by rw [h.write0 nm_new]; decide), h.write0 nm_new], h.crash.mono (fun F' hF => ⟨.inl (hF _), fun i => hF _⟩) (by omega)⟩
  | n + 1, h =>
    have hE := h.writeE nm_new (l := l) hr
    rcases h.write nm_new (l := l) hr with ⟨rfl, h1, h2⟩ | ⟨m, rfl, h1, h2⟩
    · refine .inr ⟨by decide, _, ?_, h2.mono (fun F' hF => ⟨.inl (hF _ s0), fun i => hF _ (new_ne_slot i)⟩) (Nat.le_refl _)⟩
      rw [RD.saveS, if_neg (by rw [hE]; decide), if_pos (by rw [h1]; decide), h1]
    · match m, h2 with
      | 0, h2 =>
        have hn := h2.rename0 (a := nNew) nm_sup
        refine .inr ⟨by decide, _, ?_, h2.crash.mono (fun F' hF => ⟨.inl (by rw [hF]; exact if_neg s0), fun i => by rw [hF]; exact if_neg (new_ne_slot i)⟩) (Nat.le_refl _)⟩
        rw [RD.saveS, if_neg (by rw [hE]; decide), if_neg (by rw [h1]; decide), if_pos (by rw [hn]; decide), hn]
      | m + 1, h2 =>
        have hx : fup F nNew (some l) nNew = some l := if_pos rfl
        obtain ⟨h3, h4⟩ := h2.rename nm_sup hx
        have hS : d.saveS nNew nSup l = ((((d.write nNew l).sync.rename nNew nSup)).sync, (((d.write nNew l).sync.rename nNew nSup)).syncE) := by
          rw [RD.saveS, if_neg (by rw [hE]; decide), if_neg (by rw [h1]; decide), if_neg (by rw [h3]; decide)]
        have hsl : ∀ i, fup (fup (fup F nNew (some l)) nNew none) nSup (some l) (nSlot i) = F (nSlot i) := fun i => by
          show (if nSlot i = nSup then _ else if nSlot i = nNew then _ else if nSlot i = nNew then _ else F (nSlot i)) = _
          rw [if_neg (sup_ne_slot i), if_neg (new_ne_slot i), if_neg (new_ne_slot i)]
        rcases h4 with ⟨rfl, h5, h6⟩ | ⟨k, rfl, h5, h6⟩
        · refine .inr ⟨by decide, _, hS.trans (by rw [h5, sync_six h5]), h6.mono (fun F' hF => ?_) (Nat.le_refl _)⟩
          rcases hF with hF | hF
          · exact ⟨.inl (by rw [hF]; exact if_neg s0), fun i => by rw [hF]; exact if_neg (new_ne_slot i)⟩
          · exact ⟨.inr (by rw [hF]; exact if_pos rfl), fun i => by rw [hF]; exact hsl i⟩
        · exact .inl ⟨k, _, _, rfl, hS.trans (by rw [h5]), h6, if_pos rfl, hsl⟩
/-- a superblock and its images on a disk with power for n operations -/
structure Ps (d : RD) (s : Sup) (f : Nat → Option (List UInt8)) (T : Nat) (room : Int) (n : Nat) : Prop where
  at_ : ∃ F, Pat d F T room n ∧ F nSup = some s.bytes ∧ ∀ i, i < 2 → F (nSlot i) = f i
  wf : s.wf
  may : s.may
/-- after a failure: one of two superblocks, the images as they were but for what P says -/
def CrashS (d : RD) (s t : Sup) (P : (Nat → Option (List UInt8)) → Prop) (T : Nat) (room : Int) : Prop :=
  Crash d (fun F => (F nSup = some s.bytes ∨ F nSup = some t.bytes) ∧ P (fun i => F (nSlot i))) T room
theorem Ps.save {d : RD} {s : Sup} {f : Nat → Option (List UInt8)} {T : Nat} {room : Int} {n : Nat} (h : Ps d s f T room n) {t : Sup} (hw : t.wf) (hm : t.may) (hr : (T : Int) + 87 ≤ room) :
    (∃ m d', n = m + 4 ∧ d.saveSup t = (d', 0) ∧ Ps d' t f (T + 87) room m) ∨
    (n < 4 ∧ ∃ d', d.saveSup t = (d', 6) ∧ CrashS d' s t (fun g => ∀ i, i < 2 → g i = f i) (T + 87) room) := by
  obtain ⟨F, ha, h1, h2⟩ := h.at_
  have hl := Sup.bytes_len hw
  have hS : d.saveSup t = d.saveS nNew nSup t.bytes := by rw [RD.saveSup, if_pos hm]
  rw [hS]
  rcases ha.saveS (l := t.bytes) (by omega) with ⟨m, d', F', rfl, e1, e2, e3, e4⟩ | ⟨hn, d', e1, e2⟩
  · rw [hl] at e2
    exact .inl ⟨m, d', rfl, e1, ⟨F', e2, e3, fun i hi => by rw [e4, h2 i hi]⟩, hw, hm⟩
  · rw [hl] at e2
    exact .inr ⟨hn, d', e1, e2.mono (fun F' hF => ⟨hF.1.elim (fun k => .inl (k.trans h1)) .inr, fun i hi => (hF.2 i).trans (h2 i hi)⟩) (Nat.le_refl _)⟩
theorem Ps.load0 {d : RD} {s : Sup} {f : Nat → Option (List UInt8)} {T : Nat} {room : Int} (h : Ps d s f T room 0) : d.loadS = (Sup.zero, 6) := by
  obtain ⟨F, ha, h1, h2⟩ := h.at_
  rw [RD.loadS, if_pos (by rw [ha.readE0]; decide), ha.readE0]
theorem Ps.load {d : RD} {s : Sup} {f : Nat → Option (List UInt8)} {T : Nat} {room : Int} {n : Nat} (h : Ps d s f T room (n + 1)) : d.loadS = (s, 0) := by
  obtain ⟨F, ha, h1, h2⟩ := h.at_
  rw [RD.loadS, if_neg (by rw [ha.readE, if_neg (by rw [h1]; simp)]; decide), ha.readB, h1]
  exact rdSup_bytes h.wf h.may
theorem Ps.crash {d : RD} {s : Sup} {f : Nat → Option (List UInt8)} {T : Nat} {room : Int} {n : Nat} (h : Ps d s f T room n) : CrashS d s s (fun g => ∀ i, i < 2 → g i = f i) T room := by
  obtain ⟨F, ha, h1, h2⟩ := h.at_
  exact ha.crash.mono (fun F' hF => ⟨.inl (by rw [hF, h1]), fun i hi => by show F' (nSlot i) = _; rw [hF, h2 i hi]⟩) (Nat.le_refl _)
end Go.Proofs.YtfikjheicjamhaaDoor
end
section
/- Stage and Flip with so much power; what is found behind a failure. No program. -/
set_option linter.unusedVariables false
set_option linter.unusedSimpArgs false
namespace Go.Proofs.YtfikjheicjamhaaDoor
open Go.Eng Go.Hx
theorem Ps.put {d : RD} {s : Sup} {f : Nat → Option (List UInt8)} {T : Nat} {room : Int} {n : Nat} (h : Ps d s f T room n) {i : Nat} (hi : i < 2) {bb : List UInt8} (hr : (T : Int) + (bb.length : Nat) ≤ room) :
    (∃ m, n = m + 2 ∧ d.writeE (nSlot i) bb = 0 ∧ (d.write (nSlot i) bb).syncE = 0 ∧ Ps (d.write (nSlot i) bb).sync s (fset f i bb) (T + bb.length) room m) ∨
    (n = 0 ∧ d.writeE (nSlot i) bb = 6) ∨
    (n = 1 ∧ d.writeE (nSlot i) bb = 0 ∧ (d.write (nSlot i) bb).syncE = 6 ∧ CrashS (d.write (nSlot i) bb) s s (fun g => ∀ j, j < 2 → j ≠ i → g j = f j) (T + bb.length) room) := by
  obtain ⟨F, ha, h1, h2⟩ := h.at_
  match n, ha with
  | 0, ha => exact .inr (.inl ⟨rfl, ha.write0 (nm_slot i)⟩)
  | n + 1, ha =>
    have hE := ha.writeE (nm_slot i) (l := bb) hr
    rcases ha.write (nm_slot i) (l := bb) hr with ⟨rfl, h3, h4⟩ | ⟨m, rfl, h3, h4⟩
    · refine .inr (.inr ⟨rfl, hE, h3, h4.mono (fun F' hF => ⟨.inl ((hF _ (fun k => sup_ne_slot i k.symm)).trans h1), fun j hj hji => ?_⟩) (Nat.le_refl _)⟩)
      exact (hF _ (fun k => hji (slot_inj hj hi k))).trans (h2 j hj)
    · refine .inl ⟨m, rfl, hE, h3, ⟨_, h4, ?_, fun j hj => ?_⟩, h.wf, h.may⟩
      · show (if nSup = nSlot i then _ else F nSup) = _
        rw [if_neg (fun k => sup_ne_slot i k.symm), h1]
      · show (if nSlot j = nSlot i then some bb else F (nSlot j)) = if j = i then some bb else f j
        by_cases hji : j = i
        · rw [if_pos (by rw [hji]), if_pos hji]
        · rw [if_neg (fun k => hji (slot_inj hj hi k)), if_neg hji, h2 j hj]
def stageCost (s : Sup) : Nat := if (s.at s.other).full then 6 else 2
theorem CrashS.mono {d : RD} {s t t' : Sup} {P P' : (Nat → Option (List UInt8)) → Prop} {T T' : Nat} {room : Int} (h : CrashS d s t P T room) (ht : t = t' ∨ t = s) (hP : ∀ g, P g → P' g) (hT : T ≤ T') : CrashS d s t' P' T' room := by
  refine Crash.mono h (fun F hF => ⟨?_, hP _ hF.2⟩) hT
  rcases hF.1 with k | k
  · exact .inl k
  · rcases ht with rfl | rfl
    · exact .inr k
    · exact .inl k
theorem CrashS.sub {d : RD} {s t : Sup} {P P' : (Nat → Option (List UInt8)) → Prop} {T T' : Nat} {room : Int} (h : CrashS d t t P T room) (hP : ∀ g, P g → P' g) (hT : T ≤ T') : CrashS d s t P' T' room :=
  Crash.mono h (fun F hF => ⟨.inr (hF.1.elim id id), hP _ hF.2⟩) hT
theorem Ps.stage {d : RD} {s : Sup} {f : Nat → Option (List UInt8)} {T : Nat} {room : Int} {n : Nat} (h : Ps d s f T room n) {bb : List UInt8} (hb : bb.length ≤ 65536) (hr : (T : Int) + 87 + (bb.length : Nat) ≤ room) :
    (∃ m d', n = m + stageCost s ∧ d.stageS bb = (d', (s.other : Int), 0) ∧ Ps d' (Sup.freed s) (fset f s.other bb) (T + 87 + bb.length) room m) ∨
    (n < stageCost s ∧ ∃ d', d.stageS bb = (d', 0, 6) ∧ CrashS d' s (Sup.freed s) (fun g => ∀ j, j < 2 → j ≠ s.other → g j = f j) (T + 87 + bb.length) room) := by
  obtain ⟨ho, ho2, ha, ha2⟩ := Sup.may_other h.may
  have fr : ∀ g : Nat → Option (List UInt8), (∀ i, i < 2 → g i = f i) → ∀ j, j < 2 → j ≠ s.other → g j = f j := fun g hg j hj _ => hg j hj
  unfold RD.stageS
  rw [if_neg (by omega)]
  match n, h with
  | 0, h =>
    rw [h.load0, if_pos (by show (6 : Int) ≠ 0; decide)]
    exact .inr ⟨by unfold stageCost; split <;> decide, d, rfl, h.crash.mono (.inr rfl) fr (by omega)⟩
  | n + 1, h =>
    rw [h.load, if_neg (fun hh => hh rfl)]
    unfold Sup.freed stageCost
    by_cases hf : (s.at s.other).full = true
    · rw [if_pos hf, if_pos hf]
      simp only [hf, if_true]
      rcases h.save (t := s.put s.other Sl.zero) (Sup.put_wf h.wf Sl.zero_wf) (Sup.may_put h.may (by decide)) (by omega) with ⟨m, d1, hm, e1, h1⟩ | ⟨hn, d1, e1, h1⟩
      · simp only [e1]
        rw [if_neg (fun hh => hh rfl)]
        rcases h1.put ho (bb := bb) (by omega) with ⟨k, rfl, p1, p2, p3⟩ | ⟨rfl, p1⟩ | ⟨rfl, p1, p2, p3⟩
        · exact .inl ⟨k, _, by omega, by rw [if_neg (by rw [p1]; decide), if_neg (by rw [p2]; decide)], p3⟩
        · exact .inr ⟨by omega, d1, by rw [if_pos (by rw [p1]; decide), p1], h1.crash.sub fr (by omega)⟩
        · exact .inr ⟨by omega, _, by rw [if_neg (by rw [p1]; decide), if_pos (by rw [p2]; decide), p2], p3.sub (fun g hg => hg) (by omega)⟩
      · simp only [e1]
        rw [if_pos (by show (6 : Int) ≠ 0; decide)]
        exact .inr ⟨by omega, d1, rfl, h1.mono (.inl rfl) fr (by omega)⟩
    · rw [if_neg hf, if_neg hf]
      simp only [hf, Bool.false_eq_true, if_false]
      rw [if_neg (fun hh => hh rfl)]
      rcases h.put ho (bb := bb) (by omega) with ⟨k, hk, p1, p2, p3⟩ | ⟨hk, p1⟩ | ⟨hk, p1, p2, p3⟩
      · refine .inl ⟨k, _, hk, by rw [if_neg (by rw [p1]; decide), if_neg (by rw [p2]; decide)], ?_⟩
        obtain ⟨F, q1, q2, q3⟩ := p3.at_
        exact ⟨⟨F, ⟨q1.pw, q1.room, q1.look, q1.same, q1.waits, Nat.le_trans q1.tot (by omega)⟩, q2, q3⟩, p3.wf, p3.may⟩
      · omega
      · exact .inr ⟨by omega, _, by rw [if_neg (by rw [p1]; decide), if_pos (by rw [p2]; decide), p2], p3.mono (.inr rfl) (fun g hg => hg) (by omega)⟩
theorem Ps.flip {d : RD} {s : Sup} {f : Nat → Option (List UInt8)} {T : Nat} {room : Int} {n : Nat} (h : Ps d s f T room n) {q im : List UInt8} (hq : f s.other = some q) (hl : q.length ≤ 65536) (hs : shaL q = im) (hg : s.gen < 2147483647) (hr : (T : Int) + 87 ≤ room) :
    (∃ m d', n = m + 4 ∧ d.flipS im = (d', s.gen + 1, 0) ∧ Ps d' (Sup.flipped s im q.length) f (T + 87) room m) ∨
    (n < 4 ∧ ∃ d', d.flipS im = (d', 0, 6) ∧ CrashS d' s (Sup.flipped s im q.length) (fun g => ∀ i, i < 2 → g i = f i) (T + 87) room) := by
  obtain ⟨ho, ho2, ha, ha2⟩ := Sup.may_other h.may
  have hi : im.length = 32 := by rw [← hs]; exact shaL_length _
  have hw : (s.put s.other ⟨true, im, (q.length : Int)⟩).wf := Sup.put_wf h.wf ⟨hi, by show _ ≤ ((q.length : Nat) : Int); omega, by show ((q.length : Nat) : Int) ≤ _; omega⟩
  have hm : (s.put s.other ⟨true, im, (q.length : Int)⟩).may := Sup.may_put h.may ⟨by show (0 : Int) ≤ ((q.length : Nat) : Int); omega, by show ((q.length : Nat) : Int) ≤ _; omega, fun h => by cases h⟩
  have hgp : (s.put s.other ⟨true, im, (q.length : Int)⟩).gen < 2147483647 := by rw [(put_gen _ _ _).1]; exact hg
  unfold RD.flipS
  match n, h with
  | 0, h =>
    rw [h.load0, if_pos (by show (6 : Int) ≠ 0; decide)]
    exact .inr ⟨by decide, d, rfl, h.crash.mono (.inr rfl) (fun g hg => hg) (by omega)⟩
  | n + 1, h =>
    obtain ⟨F, hF, e1, e2⟩ := h.at_
    have hE : d.readE (nSlot s.other) = 0 := by rw [hF.readE, if_neg (by rw [e2 _ ho, hq]; simp)]
    have hB : d.readB (nSlot s.other) = q := by rw [hF.readB, e2 _ ho, hq]; rfl
    rw [h.load, if_neg (fun hh => hh rfl)]
    simp only [hE, hB]
    rw [if_neg (fun hh => hh rfl), if_neg (by omega), if_neg (by rw [hs]; simp), RD.turnS, if_neg (by omega)]
    rcases h.save (turned_wf0 hw hm hgp) (turned_may hm hgp) hr with ⟨m, d1, k1, k2, k3⟩ | ⟨k1, d1, k2, k3⟩
    · refine .inl ⟨m, d1, k1, ?_, k3⟩
      rw [k2, (put_gen _ _ _).1]
      exact if_neg (fun hh => hh rfl)
    · refine .inr ⟨k1, d1, ?_, k3⟩
      rw [k2]
      exact if_pos (by show (6 : Int) ≠ 0; decide)
end Go.Proofs.YtfikjheicjamhaaDoor
end
section
/- What law SlotsCrashes does. No program. -/
set_option linter.unusedVariables false
set_option linter.unusedSimpArgs false
namespace Go.Proofs.YtfikjheicjamhaaDoor
open Go.Eng Go.Hx
def Clean (d : RD) : Prop := d.lasts = d.seen ∧ d.waits = []
theorem sync_clean {d : RD} (h : d.syncE = 0) : Clean d.sync := by
  unfold RD.syncE at h
  split at h
  · exact absurd h (by decide)
  · rename_i h0
    rw [RD.sync, if_neg h0]
    exact ⟨rfl, rfl⟩
theorem saveS_clean {d d' : RD} {a c l : List UInt8} (h : d.saveS a c l = (d', 0)) : Clean d' := by
  unfold RD.saveS at h
  split at h
  · rename_i h1; exact absurd (congrArg Prod.snd h) h1
  · split at h
    · rename_i h1; exact absurd (congrArg Prod.snd h) h1
    · split at h
      · rename_i h1; exact absurd (congrArg Prod.snd h) h1
      · have h1 := congrArg Prod.fst h
        have h2 := congrArg Prod.snd h
        have h3 : (((d.write a l).sync.rename a c)).sync = d' := h1
        rw [← h3]
        exact sync_clean h2
theorem saveSup_clean {d d' : RD} {s : Sup} (h : d.saveSup s = (d', 0)) : Clean d' := by
  unfold RD.saveSup at h
  split at h
  · exact saveS_clean h
  · exact absurd (congrArg Prod.snd h) (by show ¬ (1 : Int) = 0; decide)
theorem turn_clean {d d' : RD} {s : Sup} {g : Int} (h : d.turnS s = (d', g, 0)) : Clean d' := by
  unfold RD.turnS at h
  split at h
  · exact absurd (congrArg (fun q => q.2.2) h) (by show ¬ (5 : Int) = 0; decide)
  · simp only at h
    split at h
    · rename_i h1; exact absurd (congrArg (fun q => q.2.2) h) h1
    · rename_i h1
      have h2 : (d.saveSup s.turned).1 = d' := congrArg (fun q => q.1) h
      exact saveSup_clean (s := s.turned) (by rw [← h2]; exact Prod.ext rfl (Decidable.not_not.1 h1))
theorem flip_clean {d d' : RD} {im : List UInt8} {g : Int} (h : d.flipS im = (d', g, 0)) : Clean d' := by
  unfold RD.flipS at h
  split at h
  · rename_i h1; exact absurd (congrArg (fun q => q.2.2) h) h1
  · simp only at h
    split at h
    · rename_i h1; exact absurd (congrArg (fun q => q.2.2) h) h1
    · split at h
      · exact absurd (congrArg (fun q => q.2.2) h) (by show ¬ (3 : Int) = 0; decide)
      · split at h
        · exact absurd (congrArg (fun q => q.2.2) h) (by show ¬ (7 : Int) = 0; decide)
        · exact turn_clean h
theorem Sst.power {d : RD} {s : Sup} {f : Nat → Option (List UInt8)} {T : Nat} {room : Int} (h : Sst d s f T room) (hc : Clean d) (n : Nat) : Ps (d.power (n : Int)) s f T room n := by
  obtain ⟨F, ha, h1, h2⟩ := h.at_
  exact ⟨⟨F, ⟨by show max (n : Int) (-1) = n; omega, ha.room, ha.look, hc.1, hc.2, ha.tot⟩, h1, h2⟩, h.wf, h.may⟩
theorem bytes_inj {s t : Sup} (hs : s.wf) (hs2 : s.may) (ht : t.wf) (ht2 : t.may) (h : s.bytes = t.bytes) : s = t := by
  have h1 := rdSup_bytes hs hs2
  rw [h, rdSup_bytes ht ht2] at h1
  exact (congrArg Prod.fst h1).symm
/-- behind a restart: one of the two superblocks, with the images there -/
theorem CrashS.found {d : RD} {s t : Sup} {P : (Nat → Option (List UInt8)) → Prop} {T : Nat} {room : Int} (h : CrashS d s t P T room) (hs : s.wf) (hs2 : s.may) (ht : t.wf) (ht2 : t.may) (keep : List Bool) :
    ∃ g, P g ∧ (Sst (d.restart keep) s g T room ∨ Sst (d.restart keep) t g T room) := by
  obtain ⟨F, h1, h2, h3⟩ := h.re keep
  refine ⟨_, h3, ?_⟩
  rcases h2 with k | k
  · exact .inl ⟨⟨F, h1, k, fun i _ => rfl⟩, hs, hs2⟩
  · exact .inr ⟨⟨F, h1, k, fun i _ => rfl⟩, ht, ht2⟩
theorem Whole.congr {s : Sup} {f g : Nat → Option (List UInt8)} {q : List UInt8} (h : Whole s f q) (hg : g s.active.toNat = f s.active.toNat) : Whole s g q := ⟨h.full, by rw [hg]; exact h.file, h.size, h.img⟩
/-- what holds ahead of the failure: an image x is active and whole -/
structure Ready (d : RD) (s : Sup) (f : Nat → Option (List UInt8)) (T : Nat) (x : List UInt8) : Prop where
  st : Sst d s f T 2000
  clean : Clean d
  whole : Whole s f x
  gen : s.gen ≤ 100
theorem ready_next {d : RD} {s : Sup} {f : Nat → Option (List UInt8)} {T : Nat} (h : Sst d s f T 2000) (hg : s.gen ≤ 100) {x : List UInt8} (hx : x.length ≤ 40) (hT : T ≤ 1500) :
    ∃ d1 d2 i, d.stageS x = (d1, i, 0) ∧ d1.flipS (shaL x) = (d2, s.gen + 1, 0) ∧ ∃ s' f', Sst d2 s' f' (T + 214) 2000 ∧ Whole s' f' x ∧ s'.gen = s.gen + 1 ∧ Clean d2 := by
  obtain ⟨d1, e1, h1⟩ := h.stage (bb := x) (by omega) (by omega)
  obtain ⟨f1, f2, f3, f4, f5, f6⟩ := freed_ok h.wf h.may
  have q1 : fset f s.other x (Sup.freed s).other = some x := by rw [freed_other]; exact fset_self _ _ _
  obtain ⟨d2, e2, h2⟩ := h1.flip (q := x) (im := shaL x) q1 (by omega) rfl (by omega) (by omega)
  rw [f3] at e2
  refine ⟨d1, d2, _, e1, e2, _, _, h2.le (by omega), whole_flipped h1.may q1 rfl, ?_, flip_clean e2⟩
  show ((Sup.freed s).put _ _).gen + 1 = _
  rw [(put_gen _ _ _).1, f3]
end Go.Proofs.YtfikjheicjamhaaDoor
end
section
/- Law SlotsCrashes: the failure. No program. -/
set_option linter.unusedVariables false
set_option linter.unusedSimpArgs false
namespace Go.Proofs.YtfikjheicjamhaaDoor
open Go.Eng Go.Hx
/-- what is found behind a restart: x or y is active and whole -/
structure Found (d : RD) (x y : List UInt8) (T : Nat) (code : Int) : Prop where
  nr : ∀ c ∈ d.waits, c.1 ≠ 2
  re : ∀ keep, ∃ s g q, Sst (d.restart keep) s g T 2000 ∧ Whole s g q ∧ (q = x ∨ q = y) ∧ (code = 0 → q = y) ∧ s.gen ≤ 101
theorem crash_main {d : RD} {s : Sup} {f : Nat → Option (List UInt8)} {T : Nat} {x y : List UInt8} (h : Sst d s f T 2000) (hc : Clean d) (w : Whole s f x) (hg : s.gen ≤ 100) (hy : y.length ≤ 40) (hT : T ≤ 1000) (n : Nat) :
    (∃ d1, (d.power (n : Int)).stageS y = (d1, 0, 6) ∧ n < stageCost s ∧ Found d1 x y (T + 214) 6) ∨
    (∃ d1 d2 i j e, (d.power (n : Int)).stageS y = (d1, i, 0) ∧ d1.flipS (shaL y) = (d2, j, e) ∧ ((e = 0 ∧ stageCost s + 4 ≤ n) ∨ (e = 6 ∧ n < stageCost s + 4)) ∧ Found d2 x y (T + 214) e) := by
  have hP := h.power hc n
  obtain ⟨ho, ho2, ha, ha2⟩ := Sup.may_other h.may
  obtain ⟨f1, f2, f3, f4, f5, f6⟩ := freed_ok h.wf h.may
  have wf' : ∀ g : Nat → Option (List UInt8), g s.active.toNat = f s.active.toNat → Whole (Sup.freed s) g x := fun g hgg => ⟨by rw [f4, f6]; exact w.full, by rw [f4, hgg]; exact w.file, by rw [f4, f6]; exact w.size, by rw [f4, f6]; exact w.img⟩
  rcases hP.stage (bb := y) (by omega) (by omega) with ⟨m, d1, hn, e1, h1⟩ | ⟨hn, d1, e1, h1⟩
  · have q1 : fset f s.other y (Sup.freed s).other = some y := by rw [freed_other]; exact fset_self _ _ _
    have hg1 : (Sup.freed s).gen < 2147483647 := by rw [f3]; omega
    have fa : fset f s.other y s.active.toNat = f s.active.toNat := by
      show (if s.active.toNat = s.other then _ else _) = _
      rw [if_neg (by omega)]
    have wy : Whole (Sup.flipped (Sup.freed s) (shaL y) y.length) (fset f s.other y) y := whole_flipped f2 q1 rfl
    have hgf : (Sup.flipped (Sup.freed s) (shaL y) y.length).gen ≤ 101 := by
      show ((Sup.freed s).put _ _).gen + 1 ≤ _
      rw [(put_gen _ _ _).1, f3]; omega
    have act2 : (Sup.flipped (Sup.freed s) (shaL y) y.length).active.toNat < 2 := by
      have e : (Sup.flipped (Sup.freed s) (shaL y) y.length).active = 1 - (Sup.freed s).active := by
        show 1 - ((Sup.freed s).put _ _).active = _
        rw [(put_gen _ _ _).2]
      rw [e, f4]; omega
    rcases h1.flip (q := y) (im := shaL y) q1 (by omega) rfl hg1 (by omega) with ⟨k, d2, hm, e2, h2⟩ | ⟨hm, d2, e2, h2⟩
    · refine .inr ⟨d1, d2, _, _, 0, e1, e2, .inl ⟨rfl, by omega⟩, h2.crash.nr, fun keep => ?_⟩
      obtain ⟨g, hgg, hh⟩ := h2.crash.found h2.wf h2.may h2.wf h2.may keep
      have hS := hh.elim id id
      exact ⟨_, g, y, hS.le (by omega), wy.congr (hgg _ act2), .inr rfl, fun _ => rfl, hgf⟩
    · obtain ⟨fw, fm⟩ : (Sup.flipped (Sup.freed s) (shaL y) y.length).wf ∧ (Sup.flipped (Sup.freed s) (shaL y) y.length).may := by
        have hw : ((Sup.freed s).put (Sup.freed s).other ⟨true, shaL y, (y.length : Int)⟩).wf := Sup.put_wf f1 ⟨shaL_length _, by show _ ≤ ((y.length : Nat) : Int); omega, by show ((y.length : Nat) : Int) ≤ _; omega⟩
        have hm : ((Sup.freed s).put (Sup.freed s).other ⟨true, shaL y, (y.length : Int)⟩).may := Sup.may_put f2 ⟨by show (0 : Int) ≤ ((y.length : Nat) : Int); omega, by show ((y.length : Nat) : Int) ≤ _; omega, fun h => by cases h⟩
        exact ⟨turned_wf0 hw hm (by rw [(put_gen _ _ _).1]; exact hg1), turned_may hm (by rw [(put_gen _ _ _).1]; exact hg1)⟩
      refine .inr ⟨d1, d2, _, _, 6, e1, e2, .inr ⟨rfl, by omega⟩, h2.nr, fun keep => ?_⟩
      obtain ⟨g, hgg, hh⟩ := h2.found f1 f2 fw fm keep
      rcases hh with hS | hS
      · exact ⟨_, g, x, hS.le (by omega), wf' g (by rw [hgg _ ha2, fa]), .inl rfl, fun k => absurd k (by decide), by rw [f3]; omega⟩
      · exact ⟨_, g, y, hS.le (by omega), wy.congr (hgg _ act2), .inr rfl, fun _ => rfl, hgf⟩
  · refine .inl ⟨d1, e1, hn, h1.nr, fun keep => ?_⟩
    obtain ⟨g, hgg, hh⟩ := h1.found h.wf h.may f1 f2 keep
    have hga := hgg s.active.toNat ha2 (by omega)
    rcases hh with hS | hS
    · exact ⟨_, g, x, hS.le (by omega), w.congr hga, .inl rfl, fun k => absurd k (by decide), by omega⟩
    · exact ⟨_, g, x, hS.le (by omega), wf' g hga, .inl rfl, fun k => absurd k (by decide), by rw [f3]; omega⟩
/-- behind it all, Stage and Flip do as ever -/
theorem crash_end {d : RD} {s : Sup} {g : Nat → Option (List UInt8)} {T : Nat} {y : List UInt8} (h : Sst d s g T 2000) (hg : s.gen ≤ 101) (hy : y.length ≤ 40) (hT : T ≤ 1500) :
    ∃ d1 d2 i j, d.stageS y = (d1, i, 0) ∧ d1.flipS (shaL y) = (d2, j, 0) ∧ d2.activeS = (y, 0) := by
  obtain ⟨d1, e1, h1⟩ := h.stage (bb := y) (by omega) (by omega)
  obtain ⟨f1, f2, f3, f4, f5, f6⟩ := freed_ok h.wf h.may
  have q1 : fset g s.other y (Sup.freed s).other = some y := by rw [freed_other]; exact fset_self _ _ _
  obtain ⟨d2, e2, h2⟩ := h1.flip (q := y) (im := shaL y) q1 (by omega) rfl (by rw [f3]; omega) (by omega)
  exact ⟨d1, d2, _, _, e1, e2, h2.whole (whole_flipped h1.may q1 rfl)⟩
end Go.Proofs.YtfikjheicjamhaaDoor
end
section
/- Law SlotsCrashes: ahead of the failure. No program. -/
set_option linter.unusedVariables false
set_option linter.unusedSimpArgs false
namespace Go.Proofs.YtfikjheicjamhaaDoor
open Go.Eng Go.Hx
/-- j times x was staged and flipped -/
def CJ (x : List UInt8) (d : RD) : Nat → Prop
  | 0 => Sst d Sup.zero (fun _ => none) 87 2000
  | 1 => Clean d ∧ Sst d ⟨1, 1, Sl.zero, slOf x⟩ (fset (fun _ => none) 1 x) 301 2000
  | _ => Clean d ∧ Sst d ⟨0, 2, slOf x, slOf x⟩ (fset (fset (fun _ => none) 1 x) 0 x) 515 2000
theorem cj_step {x : List UInt8} (hx : x.length ≤ 40) {d : RD} : ∀ {j : Nat}, j < 2 → CJ x d j → ∃ d1 d2 i k, d.stageS x = (d1, i, 0) ∧ d1.flipS (shaL x) = (d2, k, 0) ∧ CJ x d2 (j + 1)
  | 0, _, h => by
    have h0 : Sst d Sup.zero (fun _ => none) 87 2000 := h
    obtain ⟨d1, e1, h1⟩ := h0.stage (bb := x) (by omega) (by omega)
    rw [freed_zero] at h1
    have q1 : fset (fun _ => none) Sup.zero.other x Sup.zero.other = some x := fset_self _ _ _
    obtain ⟨d2, e2, h2⟩ := h1.flip (q := x) (im := shaL x) q1 (by omega) rfl (by decide) (by omega)
    have hs1 : Sup.flipped Sup.zero (shaL x) x.length = ⟨1, 1, Sl.zero, slOf x⟩ := rfl
    rw [hs1] at h2
    exact ⟨d1, d2, _, _, e1, e2, flip_clean e2, h2.le (by omega)⟩
  | 1, _, h => by
    obtain ⟨hc, h0⟩ := h
    obtain ⟨d1, e1, h1⟩ := h0.stage (bb := x) (by omega) (by omega)
    have hf : Sup.freed ⟨1, 1, Sl.zero, slOf x⟩ = ⟨1, 1, Sl.zero, slOf x⟩ := rfl
    rw [hf] at h1
    have q1 : fset (fset (fun _ => none) 1 x) 0 x (Sup.mk 1 1 Sl.zero (slOf x)).other = some x := rfl
    obtain ⟨d2, e2, h2⟩ := h1.flip (q := x) (im := shaL x) q1 (by omega) rfl (by show (1 : Int) < 2147483647; decide) (by omega)
    have hs2 : Sup.flipped ⟨1, 1, Sl.zero, slOf x⟩ (shaL x) x.length = ⟨0, 2, slOf x, slOf x⟩ := rfl
    rw [hs2] at h2
    exact ⟨d1, d2, _, _, e1, e2, flip_clean e2, h2.le (by omega)⟩
/-- the law's own failure: n operations' power, once or twice -/
theorem cj_crash {x y : List UInt8} (hx : x.length ≤ 40) (hy : y.length ≤ 40) {d : RD} {tw : Bool} (h : CJ x d (if tw then 2 else 1)) (n : Nat) :
    (∃ d1, (d.power (n : Int)).stageS y = (d1, 0, 6) ∧ n < (if tw then 10 else 6) ∧ Found d1 x y 800 6) ∨
    (∃ d1 d2 i j e, (d.power (n : Int)).stageS y = (d1, i, 0) ∧ d1.flipS (shaL y) = (d2, j, e) ∧ ((e = 0 ∧ (if tw then 10 else 6) ≤ n) ∨ (e = 6 ∧ n < (if tw then 10 else 6))) ∧ Found d2 x y 800 e) := by
  have up : ∀ {d : RD} {T : Nat} {e : Int}, T ≤ 800 → Found d x y T e → Found d x y 800 e := fun hT hF => ⟨hF.nr, fun keep => by
    obtain ⟨s, g, q, h1, h2, h3, h4, h5⟩ := hF.re keep
    exact ⟨s, g, q, h1.le hT, h2, h3, h4, h5⟩⟩
  cases tw with
  | false =>
    obtain ⟨hc, h0⟩ : Clean d ∧ Sst d ⟨1, 1, Sl.zero, slOf x⟩ (fset (fun _ => none) 1 x) 301 2000 := h
    have hk : stageCost ⟨1, 1, Sl.zero, slOf x⟩ = 2 := rfl
    have w : Whole ⟨1, 1, Sl.zero, slOf x⟩ (fset (fun _ => none) 1 x) x := ⟨rfl, rfl, rfl, rfl⟩
    rcases crash_main h0 hc w (by show (1 : Int) ≤ 100; decide) hy (by decide) n with ⟨d1, a1, a2, a3⟩ | ⟨d1, d2, i, j, e, a1, a2, a3, a4⟩
    · rw [hk] at a2
      exact .inl ⟨d1, a1, by show n < 6; omega, up (by decide) a3⟩
    · rw [hk] at a3
      exact .inr ⟨d1, d2, i, j, e, a1, a2, a3, up (by decide) a4⟩
  | true =>
    obtain ⟨hc, h0⟩ : Clean d ∧ Sst d ⟨0, 2, slOf x, slOf x⟩ (fset (fset (fun _ => none) 1 x) 0 x) 515 2000 := h
    have hk : stageCost ⟨0, 2, slOf x, slOf x⟩ = 6 := rfl
    have w : Whole ⟨0, 2, slOf x, slOf x⟩ (fset (fset (fun _ => none) 1 x) 0 x) x := ⟨rfl, rfl, rfl, rfl⟩
    rcases crash_main h0 hc w (by show (2 : Int) ≤ 100; decide) hy (by decide) n with ⟨d1, a1, a2, a3⟩ | ⟨d1, d2, i, j, e, a1, a2, a3, a4⟩
    · rw [hk] at a2
      exact .inl ⟨d1, a1, by show n < 10; omega, up (by decide) a3⟩
    · rw [hk] at a3
      exact .inr ⟨d1, d2, i, j, e, a1, a2, a3, up (by decide) a4⟩
end Go.Proofs.YtfikjheicjamhaaDoor
end
section
/- What the condition 'laid' gives: the program's table of words. -/
set_option linter.unusedVariables false
set_option linter.unusedSimpArgs false
set_option maxRecDepth 100000
namespace Go.Proofs.YtfikjheicjamhaaDoor
open Go.Eng Go.Hx Go.ChangeShapes Go.WideShapes Go.ChangeAt Go.WideMaps Go.WideElems Go.RowKit
theorem gRoots : Tryd.prog.globalNamed "lighterage/sha.roots" = some 0 := by kernel_rfl
theorem tRoots : (Tryd.prog.globals[0]?).map (·.type) = some 254 := by kernel_rfl
theorem roots_list : (Rows.laid_lighterage_sha_roots : DataW Unit) = .agg (rootsL.map fun x => .lit (.int .u32 (x.toNat : Int))) := by kernel_rfl
theorem door_met (os : Os) (args : Array Value) : laidMetH Tryd.prog [("lighterage/sha.roots", Rows.laid_lighterage_sha_roots)] ((World.doorLaid Tryd.prog 400 os).forCall (fun _ _ => 0) ⟨#[], args, []⟩).memory :=
  laidMetH_of_parts3 (fuel := 8) (laidMet_of_run' 8 (by kernel_rfl) (by kernel_rfl)) (by kernel_rfl) (by kernel_rfl)
theorem roots_of_laid {W : World} (h : laidMetH Tryd.prog [("lighterage/sha.roots", Rows.laid_lighterage_sha_roots)] W) : RRoots.holds W := by
  rw [MakeChecks.laidMetH_plain _ _ _ (by kernel_rfl)] at h
  obtain ⟨ps, ⟨g0, t0, cs0, f0, p0, q0, hg0, ht0, hv0, hd0, _, _⟩, _, _⟩ := h
  obtain rfl := Option.some.inj (gRoots.symm.trans hg0)
  obtain rfl := Option.some.inj (tRoots.symm.trans ht0)
  rw [roots_list] at hd0
  obtain ⟨xs, m1, rfl, hx1, hlen, hn, hel⟩ := DataW.trod_array Tryd.underlying254 hd0
  have c3 : Tryd.prog.cellsOf 120 = 1 := by kernel_rfl
  simp only [Prod.mk.injEq, DataW.agg.injEq] at hx1
  refine ⟨by rw [wds_length]; rfl, fun _ => by simp, fun j u hu => ?_⟩
  have hj : j < 64 := by
    obtain ⟨h1, _⟩ := List.getElem?_eq_some_iff.1 hu
    rw [wds_length] at h1
    exact h1
  have h0 := hel j hj
  have hxj : (xs.map (·.1))[j]? = (rootsL.map fun x => DataW.lit (Lit.int .u32 (x.toNat : Int)))[j]? := by rw [← hx1.1]
  obtain ⟨y, hy⟩ : ∃ y, xs[j]? = some y := ⟨_, List.getElem?_eq_getElem (by omega)⟩
  rw [hy] at h0
  obtain ⟨n, e1, e2, _⟩ := DataW.trod_int Tryd.underlying120 h0
  rw [List.getElem?_map, hy, List.getElem?_map] at hxj
  rw [wds, List.getElem?_map] at hu
  cases hr : rootsL[j]? with
  | none => rw [hr] at hu; cases hu
  | some r =>
    rw [hr] at hu hxj
    rw [e2] at hxj
    have hn2 : n = (r.toNat : Int) := by simpa using hxj
    have hu2 : u = .int .u32 (r.toNat : Int) := by simpa using hu.symm
    have h5 := World.var?_cell hg0 hv0 j
    rw [c3, Nat.mul_one] at e1
    have h6 : cs0[j]? = some (.int .u32 n) := by
      have h7 : (List.take 1 (List.drop j cs0.toList))[0]? = some (.int .u32 n) := by rw [e1]; rfl
      rw [List.getElem?_take, if_pos (by decide), List.getElem?_drop, Nat.add_zero] at h7
      simpa using h7
    show W.cell? ((Option.getD (some _) d0).add j) = some u
    rw [hu2, ← hn2, ← h6, ← h5]
    have e : (⟨0, 0, none⟩ : Addr).add j = ⟨0, j, none⟩ := by simp [Addr.add]; omega
    exact congrArg W.cell? e
end Go.Proofs.YtfikjheicjamhaaDoor
end
