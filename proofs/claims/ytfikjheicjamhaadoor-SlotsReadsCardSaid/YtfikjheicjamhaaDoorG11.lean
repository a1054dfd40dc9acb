import Derived.Test.YtfikjheicjamhaaDoorG10
import Derived.Test.YtfikjheicjamhaaDoorRows
import Derived.Test.YtfikjheicjamhaaDoorG4
import Derived.ProofKit
import Derived.LaidMore
import Derived.OpenShut
import Derived.MakeChecks
import Derived.LaidHandle
import Derived.LaidLaws
section
/- Law SlotsReads: the document reads a superblock that has the same bytes again: which is what the program tells. No program. -/
set_option linter.unusedVariables false
set_option linter.unusedSimpArgs false
namespace Go.Proofs.YtfikjheicjamhaaDoor
open Go.Eng Go.Hx
theorem le4_num4_take {l : List UInt8} (h : 4 ≤ l.length) : le4 (num4 l) = l.take 4 := by
  have e : num4 l = num4 (l.take 4) := by
    have e1 := num4_app (a := l.take 4) (by rw [List.length_take]; omega) (l.drop 4)
    rwa [List.take_append_drop] at e1
  rw [e, le4_num4 (by rw [List.length_take]; omega)]
theorem rdSl_back {l : List UInt8} (hl : 37 ≤ l.length) (h : (l.getD 0 0).toNat ≤ 1) : (rdSl l).by_ = l.take 37 := by
  match l, hl with
  | l0 :: r, hl =>
    have hr : 36 ≤ r.length := by simpa using hl
    have e1 : (if (rdSl (l0 :: r)).full then (1 : UInt8) else 0) = l0 := by
      have h' : l0.toNat ≤ 1 := h
      show (if decide (l0 = 1) = true then (1 : UInt8) else 0) = l0
      by_cases hl0 : l0 = 1
      · rw [if_pos (decide_eq_true hl0), hl0]
      · rw [if_neg (by simpa using hl0)]
        refine UInt8.toNat_inj.1 ?_
        have : l0.toNat ≠ 1 := fun hh => hl0 (UInt8.toNat_inj.1 hh)
        show 0 = l0.toNat
        omega
    have e2 : (rdSl (l0 :: r)).image = r.take 32 := rfl
    have e3 : (rdSl (l0 :: r)).size.toNat = num4 (r.drop 32) := Int.toNat_natCast _
    have e4 : r.take 36 = r.take 32 ++ (r.drop 32).take 4 := List.take_add (i := 32) (j := 4)
    rw [Sl.by_, e1, e2, e3, le4_num4_take (by rw [List.length_drop]; omega), List.take_succ_cons, e4]
theorem rdBody_back {B : List UInt8} (h : B.length = 83) (hp : B.take 4 = [76, 84, 83, 49]) (h9 : (B.getD 9 0).toNat ≤ 1) (h46 : (B.getD 46 0).toNat ≤ 1) : (rdBody B).body = B := by
  have g0 : ∀ k, (B.drop k).getD 0 0 = B.getD k 0 := fun k => by simp [List.getD]
  have e0 : (rdBody B).s0.by_ = (B.drop 9).take 37 := rdSl_back (by rw [List.length_drop]; omega) (by rw [g0]; exact h9)
  have e1 : (rdBody B).s1.by_ = (B.drop 46).take 37 := rdSl_back (by rw [List.length_drop]; omega) (by rw [g0]; exact h46)
  have e2 : le4 (rdBody B).gen.toNat = (B.drop 5).take 4 := by
    show le4 (((num4 (B.drop 5) : Nat) : Int).toNat) = _
    rw [Int.toNat_natCast]
    exact le4_num4_take (by rw [List.length_drop]; omega)
  have e3 : [UInt8.ofNat (rdBody B).active.toNat] = (B.drop 4).take 1 := by
    show [UInt8.ofNat ((((B.getD 4 0).toNat : Nat) : Int).toNat)] = _
    rw [Int.toNat_natCast, UInt8.ofNat_toNat, ← g0]
    cases hq : B.drop 4 with
    | nil => exact absurd (congrArg List.length hq) (by rw [List.length_drop, h]; decide)
    | cons q r => rfl
  have t1 : B.take 4 ++ (B.drop 4).take 1 = B.take 5 := (List.take_add (i := 4) (j := 1)).symm
  have t2 : B.take 5 ++ (B.drop 5).take 4 = B.take 9 := (List.take_add (i := 5) (j := 4)).symm
  have t3 : B.take 9 ++ (B.drop 9).take 37 = B.take 46 := (List.take_add (i := 9) (j := 37)).symm
  have t4 : B.take 46 ++ (B.drop 46).take 37 = B.take 83 := (List.take_add (i := 46) (j := 37)).symm
  rw [Sup.body, e0, e1, e2, e3, ← hp, t1, t2, t3, t4, List.take_of_length_le (by omega)]
theorem getD_app {a r : List UInt8} {n : Nat} (h : a.length = n) : (a ++ r).getD n 0 = r.getD 0 0 := by
  subst h
  simp [List.getD, List.getElem?_append_right]
theorem by_first (x : Sl) : (x.by_.getD 0 0).toNat ≤ 1 := by
  show (if x.full then (1 : UInt8) else 0).toNat ≤ 1
  cases x.full <;> decide
theorem rdOk_back {B : List UInt8} (h : B.length = 83) (hm : (rdBody B).may) : rdOk B ↔ (rdBody B).body = B := by
  constructor
  · rintro ⟨_, h1, h2, h3, _⟩
    exact rdBody_back h h1 h2 h3
  · intro hb
    have hw := rdBody_wf h
    have q0 : B.take 4 = [76, 84, 83, 49] := by
      rw [← hb]
      rfl
    have q1 : (B.getD 9 0).toNat ≤ 1 := by
      have e : (rdBody B).body.getD 9 0 = (rdBody B).s0.by_.getD 0 0 := by
        have : (rdBody B).body = ([76, 84, 83, 49] ++ [UInt8.ofNat (rdBody B).active.toNat] ++ le4 (rdBody B).gen.toNat) ++ ((rdBody B).s0.by_ ++ (rdBody B).s1.by_) := by simp [Sup.body]
        rw [this, getD_app (by simp [le4_length])]
        rfl
      rw [hb] at e
      rw [e]
      exact by_first _
    have q2 : (B.getD 46 0).toNat ≤ 1 := by
      have e : (rdBody B).body.getD 46 0 = (rdBody B).s1.by_.getD 0 0 := by
        rw [Sup.body, getD_app (by simp [le4_length, Sl.by_len hw.w0])]
      rw [hb] at e
      rw [e]
      exact by_first _
    exact ⟨h, q0, q1, q2, hm⟩
theorem putL_takeB {l : List UInt8} (h0 : takeE l = 0) : putL (l.take (l.length - 4)) = l := by
  unfold takeE at h0
  split at h0
  · exact absurd h0 (by decide)
  · split at h0
    · rename_i h1 h2
      exact h2
    · exact absurd h0 (by decide)
/-- the document's reading -/
theorem rdSup_ref {l : List UInt8} (h0 : takeE l = 0) (h83 : (l.take (l.length - 4)).length = 83) : rdOk (l.take (l.length - 4)) ↔ (rdBody (l.take (l.length - 4))).may ∧ (rdBody (l.take (l.length - 4))).bytes = l := by
  constructor
  · intro hk
    refine ⟨hk.2.2.2.2, ?_⟩
    rw [Sup.bytes, (rdOk_back h83 hk.2.2.2.2).1 hk, putL_takeB h0]
  · rintro ⟨hm, hb⟩
    refine (rdOk_back h83 hm).2 (putL_inj ?_)
    rw [putL_takeB h0]
    exact hb
end Go.Proofs.YtfikjheicjamhaaDoor
end
section
/- What the condition 'laid' gives: the program's table of words. -/
set_option linter.unusedVariables false
set_option linter.unusedSimpArgs false
set_option maxRecDepth 100000
namespace Go.Proofs.YtfikjheicjamhaaDoor
open Go.Eng Go.Hx Go.ChangeShapes Go.WideShapes Go.ChangeAt Go.WideMaps Go.WideElems Go.RowKit
theorem gRoots : Tryd.prog.globalNamed "lighterage/sha.roots" = some 0 := by kernel_rfl
theorem tRoots : (Tryd.prog.globals[0]?).map (·.type) = some 254 := by kernel_rfl
theorem roots_list : (Rows.laid_lighterage_sha_roots : DataW Unit) = .agg (rootsL.map fun x => .lit (.int .u32 (x.toNat : Int))) := by kernel_rfl
theorem door_met (os : Os) (args : Array Value) : laidMetH Tryd.prog [("lighterage/sha.roots", Rows.laid_lighterage_sha_roots)] ((World.doorLaid Tryd.prog 400 os).forCall (fun _ _ => 0) ⟨#[], args, []⟩).memory :=
  laidMetH_of_parts3 (fuel := 8) (laidMet_of_run' 8 (by kernel_rfl) (by kernel_rfl)) (by kernel_rfl) (by kernel_rfl)
theorem roots_of_laid {W : World} (h : laidMetH Tryd.prog [("lighterage/sha.roots", Rows.laid_lighterage_sha_roots)] W) : RRoots.holds W := by
  rw [MakeChecks.laidMetH_plain _ _ _ (by kernel_rfl)] at h
  obtain ⟨ps, ⟨g0, t0, cs0, f0, p0, q0, hg0, ht0, hv0, hd0, _, _⟩, _, _⟩ := h
  obtain rfl := Option.some.inj (gRoots.symm.trans hg0)
  obtain rfl := Option.some.inj (tRoots.symm.trans ht0)
  rw [roots_list] at hd0
  obtain ⟨xs, m1, rfl, hx1, hlen, hn, hel⟩ := DataW.trod_array Tryd.underlying254 hd0
  have c3 : Tryd.prog.cellsOf 120 = 1 := by kernel_rfl
  simp only [Prod.mk.injEq, DataW.agg.injEq] at hx1
  refine ⟨by rw [wds_length]; rfl, fun _ => by simp, fun j u hu => ?_⟩
  have hj : j < 64 := by
    obtain ⟨h1, _⟩ := List.getElem?_eq_some_iff.1 hu
    rw [wds_length] at h1
    exact h1
  have h0 := hel j hj
  have hxj : (xs.map (·.1))[j]? = (rootsL.map fun x => DataW.lit (Lit.int .u32 (x.toNat : Int)))[j]? := by rw [← hx1.1]
  obtain ⟨y, hy⟩ : ∃ y, xs[j]? = some y := ⟨_, List.getElem?_eq_getElem (by omega)⟩
  rw [hy] at h0
  obtain ⟨n, e1, e2, _⟩ := DataW.trod_int Tryd.underlying120 h0
  rw [List.getElem?_map, hy, List.getElem?_map] at hxj
  rw [wds, List.getElem?_map] at hu
  cases hr : rootsL[j]? with
  | none => rw [hr] at hu; cases hu
  | some r =>
    rw [hr] at hu hxj
    rw [e2] at hxj
    have hn2 : n = (r.toNat : Int) := by simpa using hxj
    have hu2 : u = .int .u32 (r.toNat : Int) := by simpa using hu.symm
    have h5 := World.var?_cell hg0 hv0 j
    rw [c3, Nat.mul_one] at e1
    have h6 : cs0[j]? = some (.int .u32 n) := by
      have h7 : (List.take 1 (List.drop j cs0.toList))[0]? = some (.int .u32 n) := by rw [e1]; rfl
      rw [List.getElem?_take, if_pos (by decide), List.getElem?_drop, Nat.add_zero] at h7
      simpa using h7
    show W.cell? ((Option.getD (some _) d0).add j) = some u
    rw [hu2, ← hn2, ← h6, ← h5]
    have e : (⟨0, 0, none⟩ : Addr).add j = ⟨0, j, none⟩ := by simp [Addr.add]; omega
    exact congrArg W.cell? e
end Go.Proofs.YtfikjheicjamhaaDoor
end
