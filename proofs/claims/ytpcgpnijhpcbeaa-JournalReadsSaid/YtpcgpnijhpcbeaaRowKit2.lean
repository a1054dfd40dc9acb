/- From a row's readings: structs with a row of digests. No statement is proved here. -/
import Derived.Test.YtpcgpnijhpcbeaaRowKit
import Derived.Test.YtpcgpnijhpcbeaaEng7
import Derived.ChangeSame
set_option linter.unusedVariables false
set_option linter.unusedSimpArgs false
namespace Go.Eng
open Go.RowKit Go.ChangeShapes Go.WideShapes
variable {H : Type} {enc : TypeId × Value → H} {P : Program} {w : World} {base : Nat} {spare : Nat → Bool} {held : Bool}
theorem trod_digest {t e : TypeId} {n fuel : Nat} {cs : List Value} {x : DataW H × List MemPlace} (ht : P.underlying t = some (.array n e)) (he : P.underlying e = some (.int .u8)) (hc : P.cellsOf e = 1) (hct : P.cellsOf t = n) (hf : DataW.trod enc P w base spare held fuel t cs = some x) :
    ∃ l : List UInt8, cs = b8s l ∧ l.length = n := by
  obtain ⟨xs, m, _, _, hlen, hxl, hel⟩ := DataW.trod_array ht hf
  rw [hct] at hlen
  have hcell : ∀ i, i < n → ∃ c : UInt8, cs[i]? = some (B8 c) := by
    intro i hi
    have h1 := hel i hi
    rw [List.getElem?_eq_getElem (by omega), hc, Nat.mul_one] at h1
    obtain ⟨z, hz, _, hw⟩ := DataW.trod_int he h1
    have hb := bounds_u8 hw
    refine ⟨UInt8.ofNat z.toNat, ?_⟩
    have h2 : ((cs.drop i).take 1)[0]? = some (.int .u8 z) := by rw [hz]; rfl
    rw [List.getElem?_take, if_pos (by omega), List.getElem?_drop, Nat.add_zero] at h2
    rw [h2, B8, UInt8.toNat_ofNat', Nat.mod_eq_of_lt (by omega)]
    congr 2
    omega
  refine ⟨cs.map fun v => match v with | .int _ z => UInt8.ofNat z.toNat | _ => 0, ?_, by simpa using hlen⟩
  apply List.ext_getElem?
  intro i
  simp only [b8s, List.map_map, List.getElem?_map]
  by_cases hi : i < n
  · obtain ⟨c, hc⟩ := hcell i hi
    rw [hc]
    simp [B8]
  · rw [List.getElem?_eq_none (by omega)]
    rfl
theorem cells_at {b : Nat} {a : Addr} {n : Nat} {cs : List Value} (h : w.cells? b a n = some cs) : ∀ j u, cs[j]? = some u → w.cell? (a.add j) = some u := by
  intro j u hu
  obtain ⟨hb, hl, hcell⟩ := World.cells?_some h
  have hj : j < n := by rw [← hl]; exact (List.getElem?_eq_some_iff.1 hu).1
  rw [hcell j hj, hu]
/-- a row of digests that came in -/
theorem open_digests {ts td e : TypeId} {n fuel : Nat} {cs : List Value} {x : DataW H × List MemPlace} (ht : P.underlying ts = some (.slice td)) (hd : P.underlying td = some (.array n e)) (he : P.underlying e = some (.int .u8)) (hc : P.cellsOf e = 1) (hct : P.cellsOf td = n)
    (h : DataW.trod enc P w base spare held fuel ts cs = some x) :
    ∃ (A : Option Addr) (len cap : Nat) (ds : List (List UInt8)), cs = [.slice A len cap] ∧ len ≤ cap ∧ Rd w n A len (dc ds) ∧ (∀ d ∈ ds, d.length = n) ∧ (x.1 = .nil ∧ len = 0 ∨ ∃ el sp : List (DataW H), x.1 = .slice el sp ∧ el.length = len) := by
  rcases DataW.trod_slice ht h with ⟨rfl, rfl⟩ | ⟨a, len, cap, elems, rest, m, _, rfl, rfl, hb, hl, hm, hlen, hel, _, _⟩
  · exact ⟨none, 0, 0, [], rfl, Nat.le_refl _, Rd.nil _ _ _, fun d hd => (by cases hd), .inl ⟨rfl, rfl⟩⟩
  · have hi : ∀ i, i < len → ∃ l : List UInt8, l.length = n ∧ ∀ j u, (b8s l)[j]? = some u → w.cell? (a.add (i * n + j)) = some u := by
      intro i hi
      have h1 := hel i hi
      rw [List.getElem?_eq_getElem (by omega), hct] at h1
      obtain ⟨c, hc1, hc2⟩ := Option.bind_eq_some_iff.1 h1
      obtain ⟨l, rfl, hl'⟩ := trod_digest hd he hc hct hc2
      refine ⟨l, hl', fun j u hu => ?_⟩
      have := cells_at hc1 j u hu
      rwa [add_add] at this
    have hall : ∀ k, k ≤ len → ∃ ds : List (List UInt8), ds.length = k ∧ (∀ d ∈ ds, d.length = n) ∧ ∀ q u, (dc ds)[q]? = some u → w.cell? (a.add q) = some u := by
      intro k
      induction k with
      | zero => intro _; exact ⟨[], rfl, fun d hd => (by cases hd), fun q u hu => by simp [dc] at hu⟩
      | succ k ih =>
        intro hk
        obtain ⟨ds, h1, h2, h3⟩ := ih (by omega)
        obtain ⟨l, h4, h5⟩ := hi k (by omega)
        refine ⟨ds ++ [l], by simp [h1], fun d hd => ?_, fun q u hu => ?_⟩
        · rcases List.mem_append.1 hd with h | h
          · exact h2 d h
          · have : d = l := by simpa using h
            rw [this]; exact h4
        · rw [dc_append, dc_one] at hu
          have hdl := dc_length h2
          rw [h1] at hdl
          rcases Nat.lt_or_ge q (k * n) with hq | hq
          · rw [List.getElem?_append_left (by omega)] at hu
            exact h3 q u hu
          · rw [List.getElem?_append_right (by omega), hdl] at hu
            have := h5 (q - k * n) u hu
            rwa [show k * n + (q - k * n) = q by omega] at this
    obtain ⟨ds, h1, h2, h3⟩ := hall len (Nat.le_refl _)
    exact ⟨some a, len, cap, ds, rfl, hl, ⟨by rw [dc_length h2, h1], fun _ e => (by cases e), h3⟩, h2, .inr ⟨_, _, rfl, by simpa using hlen⟩⟩
/-- a struct of 32 bytes and a row of digests -/
theorem open_jour {r : Reach} {b0 : Nat} {t ts td e : TypeId} {f0 f1 : Field} {v : Value} {d : DataW H} {ps : List MemPlace} {tss : List TypeId} {dss : List (DataW H)} {j : Nat} (ht : P.underlying t = some (.struct #[f0, f1])) (h0 : f0.type = td) (h1 : f1.type = ts) (o0 : f0.offset = 0) (o1 : f1.offset = 32) (hts : P.underlying ts = some (.slice td))
    (hd : P.underlying td = some (.array 32 e)) (he : P.underlying e = some (.int .u8)) (hc : P.cellsOf e = 1) (hcd : P.cellsOf td = 32) (hcs : P.cellsOf ts = 1) (hct : P.cellsOf t = 33) (hB : P.bytesOf td = 32)
    (hval : Value.okWide P w r b0 t v) (h : DataW.Trod enc P w base spare held t v d ps) (hsz : (DataW.weightsEach P tss dss).all (· ≤ reachBytes) = true) (hjt : tss[j]? = some t) (hjd : dss[j]? = some d) :
    ∃ (img : List UInt8) (A : Option Addr) (len cap : Nat) (ds : List (List UInt8)), v = .agg (b8s img ++ [Value.slice A len cap]).toArray ∧ img.length = 32 ∧ Rd w 32 A len (dc ds) ∧ len ≤ cap ∧ (∀ d ∈ ds, d.length = 32) ∧ len ≤ 140737488351232 := by
  simp only [Value.okWide, ht] at hval
  obtain ⟨cs, rfl, _, _⟩ := hval
  obtain ⟨fuel, hf⟩ := h
  obtain ⟨y0, y1, n, hx, hlen, e0, e1⟩ := trod_struct2 ht hf
  simp only [Value.cells] at hlen e0 e1
  rw [hct] at hlen
  rw [h0, o0, hcd, List.drop_zero] at e0
  rw [h1, o1, hcs] at e1
  obtain ⟨img, hi, hil⟩ := trod_digest hd he hc hcd e0
  obtain ⟨A, len, cap, ds, hs, hl, hr, hD, hx1⟩ := open_digests hts hd he hc hcd e1
  refine ⟨img, A, len, cap, ds, ?_, hil, hr, hl, hD, ?_⟩
  · congr 1
    apply Array.toList_inj.1
    have : cs.toList = cs.toList.take 32 ++ (cs.toList.drop 32).take 1 := by
      rw [List.take_of_length_le (l := cs.toList.drop 32) (by rw [List.length_drop]; omega), List.take_append_drop]
    rw [this, hi, hs]
  · rcases hx1 with ⟨_, h⟩ | ⟨el, sp, hxe, hel⟩
    · omega
    · obtain ⟨hx2, _⟩ := Prod.mk.inj hx
      have hw := List.all_eq_true.1 hsz _ (DataW.weights_mem_each hjt hjd ((el.length + sp.length) * P.bytesOf td) (by
        rw [hx2]
        show _ ∈ DataW.weights P t _
        simp [DataW.weights, DataW.weightsEach, ht, h1, hts, hxe]))
      have hw2 : (el.length + sp.length) * 32 ≤ reachBytes := by rw [hB] at hw; simpa using hw
      have hw3 : reachBytes = 140737488351232 := rfl
      omega
end Go.Eng
