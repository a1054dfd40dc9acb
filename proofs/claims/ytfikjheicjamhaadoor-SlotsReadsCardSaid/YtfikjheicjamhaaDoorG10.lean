import Derived.Test.YtfikjheicjamhaaDoorG8
import Derived.Test.YtfikjheicjamhaaDoorG9
section
/- Plain disks that hold superblocks and their images: what each function of layer 22 leaves. No program. -/
set_option linter.unusedVariables false
set_option linter.unusedSimpArgs false
namespace Go.Proofs.YtfikjheicjamhaaDoor
open Go.Eng Go.Hx
theorem totF_filter (q : FP → Bool) (l : List FP) : totF (l.filter q) ≤ totF l := by
  induction l with
  | nil => exact Nat.le_refl _
  | cons x r ih =>
    rw [List.filter_cons]
    have e : totF (x :: r) = x.2.length + totF r := by simp [totF]
    split
    · have e2 : totF (x :: r.filter q) = x.2.length + totF (r.filter q) := by simp [totF]
      omega
    · omega
theorem totF_filter_mem {q : FP → Bool} {l : List FP} {x : FP} (hx : x ∈ l) (hq : q x = false) : totF (l.filter q) + x.2.length ≤ totF l := by
  induction l with
  | nil => cases hx
  | cons y r ih =>
    rw [List.filter_cons]
    have e : totF (y :: r) = y.2.length + totF r := by simp [totF]
    rcases List.mem_cons.1 hx with rfl | hm
    · rw [hq]
      have := totF_filter q r
      simp only [Bool.false_eq_true, if_false]
      omega
    · have h1 := ih hm
      split
      · have e2 : totF (y :: r.filter q) = y.2.length + totF (r.filter q) := by simp [totF]
        omega
      · omega
theorem totF_ins (l : List FP) (f : FP) : totF (insF l f) ≤ totF l + f.2.length := by
  induction l with
  | nil => simp [insF, totF]
  | cons x r ih =>
    have e : totF (x :: r) = x.2.length + totF r := by simp [totF]
    rw [insF]
    split
    · have e2 : totF (x :: insF r f) = x.2.length + totF (insF r f) := by simp [totF]
      omega
    · have e2 : totF (f :: (x :: r).filter fun y => decide (y.1 ≠ f.1)) = f.2.length + totF ((x :: r).filter fun y => decide (y.1 ≠ f.1)) := by simp [totF]
      have := totF_filter (fun y => decide (y.1 ≠ f.1)) (x :: r)
      omega
/-- a disk that is up for good: what lies on it, how much, and its room -/
structure At (d : RD) (F : List UInt8 → Option (List UInt8)) (T : Nat) (room : Int) : Prop where
  pw : d.pw = -1
  room : d.room = room
  look : ∀ p, lk d.seen p = F p
  tot : totF d.seen ≤ T
def fup (F : List UInt8 → Option (List UInt8)) (p : List UInt8) (v : Option (List UInt8)) : List UInt8 → Option (List UInt8) := fun q => if q = p then v else F q
theorem At.readE {d : RD} {F : List UInt8 → Option (List UInt8)} {T : Nat} {room : Int} (h : At d F T room) (p : List UInt8) : d.readE p = if F p = none then 4 else 0 := by
  have h1 := h.look p
  rw [← lk_find] at h1
  rw [RD.readE, if_neg (by rw [h.pw]; decide)]
  cases hq : d.seen[findN d.seen p]? with
  | none => rw [hq] at h1; rw [if_pos rfl, if_pos (by rw [← h1]; rfl)]
  | some x => rw [hq] at h1; rw [if_neg (by simp), if_neg (by rw [← h1]; simp)]
theorem At.readB {d : RD} {F : List UInt8 → Option (List UInt8)} {T : Nat} {room : Int} (h : At d F T room) (p : List UInt8) : d.readB p = (F p).getD [] := by
  have h1 := h.look p
  rw [← lk_find] at h1
  rw [RD.readB, if_neg (by rw [h.pw]; decide), h1]
theorem At.writeE {d : RD} {F : List UInt8 → Option (List UInt8)} {T : Nat} {room : Int} (h : At d F T room) {p l : List UInt8} (hp : Named p) (hr : (T : Int) + (l.length : Nat) ≤ room) : d.writeE p l = 0 := by
  have h1 := h.tot
  have h2 := h.room
  rw [RD.writeE, if_neg (fun h => h hp), if_neg (by rw [h.pw]; decide), if_neg (by omega)]
theorem At.write {d : RD} {F : List UInt8 → Option (List UInt8)} {T : Nat} {room : Int} (h : At d F T room) {p l : List UInt8} (hp : Named p) (hr : (T : Int) + (l.length : Nat) ≤ room) : At (d.write p l) (fup F p (some l)) (T + l.length) room := by
  have hs : (d.write p l).seen = insF d.seen (p, l) := by
    rw [RD.write, if_pos (h.writeE hp hr)]
    show makeF d.seen 0 p [] l = _
    rw [makeF, if_pos rfl, withF_ins]
  refine ⟨?_, ?_, fun q => ?_, ?_⟩
  · rw [RD.write, if_pos (h.writeE hp hr)]
    show lessP d.pw = -1
    rw [h.pw]; rfl
  · rw [RD.write, if_pos (h.writeE hp hr)]; exact h.room
  · rw [hs, lk_ins]
    unfold fup
    split
    · rfl
    · exact h.look q
  · rw [hs]
    have := totF_ins d.seen (p, l)
    have := h.tot
    have e : (p, l).2.length = l.length := rfl
    omega
theorem At.syncE {d : RD} {F : List UInt8 → Option (List UInt8)} {T : Nat} {room : Int} (h : At d F T room) : d.syncE = 0 := by rw [RD.syncE, if_neg (by rw [h.pw]; decide)]
theorem At.sync {d : RD} {F : List UInt8 → Option (List UInt8)} {T : Nat} {room : Int} (h : At d F T room) : At d.sync F T room := by
  have e : d.sync = { d with lasts := d.seen, waits := [], pw := lessP d.pw } := by rw [RD.sync, if_neg (by rw [h.pw]; decide)]
  rw [e]
  exact ⟨by show lessP d.pw = -1; rw [h.pw]; rfl, h.room, h.look, h.tot⟩
theorem At.renameE {d : RD} {F : List UInt8 → Option (List UInt8)} {T : Nat} {room : Int} (h : At d F T room) {a c x : List UInt8} (hc : Named c) (hx : F a = some x) : d.renameE a c = 0 := by
  rw [RD.renameE, if_neg (fun h => h hc), h.readE, if_neg (by rw [hx]; simp)]
theorem At.rename {d : RD} {F : List UInt8 → Option (List UInt8)} {T : Nat} {room : Int} (h : At d F T room) {a c x : List UInt8} (hc : Named c) (hx : F a = some x) : At (d.rename a c) (fup (fup F a none) c (some x)) T room := by
  have h1 := h.look a
  rw [← lk_find, hx] at h1
  obtain ⟨y, hy, hyx⟩ : ∃ y, d.seen[findN d.seen a]? = some y ∧ y.2 = x := by
    cases hq : d.seen[findN d.seen a]? with
    | none => rw [hq] at h1; cases h1
    | some y => rw [hq] at h1; exact ⟨y, rfl, by simpa using h1⟩
  have hya : y.1 = a := by
    obtain ⟨hi, he⟩ := List.getElem?_eq_some_iff.1 hy
    have := List.findIdx_getElem (p := fun x : FP => decide (x.1 = a)) (xs := d.seen) (w := hi)
    rw [← he]
    exact of_decide_eq_true this
  have hs : (d.rename a c).seen = insF (withoutF d.seen a) (c, x) := by
    rw [RD.rename, if_pos (h.renameE hc hx)]
    show makeF d.seen 1 a c [] = _
    rw [makeF, if_neg (by decide), hy]
    show (if (1 : Int) = 2 then _ else _) = _
    rw [if_neg (by decide), withF_ins, hyx]
  refine ⟨?_, ?_, fun q => ?_, ?_⟩
  · rw [RD.rename, if_pos (h.renameE hc hx)]
    show lessP d.pw = -1
    rw [h.pw]; rfl
  · rw [RD.rename, if_pos (h.renameE hc hx)]; exact h.room
  · rw [hs, lk_ins]
    unfold fup withoutF
    split
    · rfl
    · rw [lk_filter]
      split
      · rfl
      · exact h.look q
  · rw [hs]
    have h2 := totF_ins (withoutF d.seen a) (c, x)
    have h3 : totF (withoutF d.seen a) + y.2.length ≤ totF d.seen := totF_filter_mem (List.mem_of_getElem? hy) (by simp [hya])
    have := h.tot
    have e : (c, x).2.length = x.length := rfl
    rw [hyx] at h3
    omega
theorem takeE_put (l : List UInt8) : takeE (putL l) = 0 := by
  have hl := putL_length l
  have e : (putL l).take ((putL l).length - 4) = l := by rw [hl, Nat.add_sub_cancel, putL, List.take_left]
  rw [takeE, if_neg (by omega), e, if_pos rfl]
theorem num4_app {a : List UInt8} (h : a.length = 4) (r : List UInt8) : num4 (a ++ r) = num4 a := by
  match a, h with
  | [a0, a1, a2, a3], _ => rfl
theorem rdSl_by {x : Sl} (h : x.wf) (hm : x.may) (r : List UInt8) : rdSl (x.by_ ++ r) = x := by
  have hz : x.size = (x.size.toNat : Int) ∧ x.size.toNat ≤ 65536 := by have := hm.1; have := hm.2.1; omega
  have e : x.by_ ++ r = (if x.full then 1 else 0) :: (x.image ++ (le4 x.size.toNat ++ r)) := by simp [Sl.by_]
  have e1 : ((x.by_ ++ r).drop 1).take 32 = x.image := by
    rw [e, List.drop_succ_cons, List.drop_zero, List.take_append_of_le_length (by rw [h.len]; exact Nat.le_refl _), List.take_of_length_le (by rw [h.len]; exact Nat.le_refl _)]
  have e2 : (x.by_ ++ r).drop 33 = le4 x.size.toNat ++ r := by
    rw [e, List.drop_succ_cons, ← h.len, List.drop_left]
  have e3 : decide ((x.by_ ++ r).getD 0 0 = 1) = x.full := by
    rw [e]
    cases x.full <;> rfl
  unfold rdSl
  rw [e1, e2, e3, num4_app (le4_length _), num4_le4 (by omega), ← hz.1]
theorem rdBody_body {s : Sup} (h : s.wf) (hm : s.may) : rdBody s.body = s := by
  obtain ⟨ha, ha1, hg, hg1⟩ : s.active = (s.active.toNat : Int) ∧ s.active.toNat ≤ 1 ∧ s.gen = (s.gen.toNat : Int) ∧ s.gen.toNat ≤ 2147483647 := by
    obtain ⟨h1, h2, h3, _⟩ := hm
    omega
  have l0 := Sl.by_len h.w0
  have l1 := Sl.by_len h.w1
  have d9 : s.body.drop 9 = s.s0.by_ ++ s.s1.by_ := rfl
  have d5 : s.body.drop 5 = le4 s.gen.toNat ++ (s.s0.by_ ++ s.s1.by_) := rfl
  have g4 : s.body.getD 4 0 = UInt8.ofNat s.active.toNat := rfl
  have d46 : s.body.drop 46 = s.s1.by_ ++ [] := by
    rw [show (46 : Nat) = 9 + 37 from rfl, ← List.drop_drop, d9, List.append_nil, ← l0, List.drop_left]
  have e4 : ((UInt8.ofNat s.active.toNat).toNat : Int) = s.active := by
    rw [UInt8.toNat_ofNat', Nat.mod_eq_of_lt (by omega), ← ha]
  unfold rdBody
  rw [g4, d5, d9, d46, rdSl_by h.w0 hm.2.2.2.1, rdSl_by h.w1 hm.2.2.2.2, num4_app (le4_length _), num4_le4 (by omega), ← hg, e4]
theorem rdSup_bytes {s : Sup} (h : s.wf) (hm : s.may) : rdSup s.bytes = (s, 0) := by
  have hl := Sup.body_len h
  have hb := rdBody_body h hm
  have e : s.bytes.take (s.bytes.length - 4) = s.body := by rw [Sup.bytes, putL_length, Nat.add_sub_cancel, putL, List.take_left]
  have bit : ∀ x : Sl, ((if x.full then 1 else 0 : UInt8)).toNat ≤ 1 := fun x => by cases x.full <;> decide
  have l0 := Sl.by_len h.w0
  have g46 : s.body.getD 46 0 = (if s.s1.full then 1 else 0) := by
    have : s.body.getD 46 0 = (s.body.drop 46).getD 0 0 := by simp [List.getD]
    rw [this, show (46 : Nat) = 9 + 37 from rfl, ← List.drop_drop, show s.body.drop 9 = s.s0.by_ ++ s.s1.by_ from rfl, ← l0, List.drop_left]
    rfl
  have hok : rdOk s.body := ⟨hl, rfl, bit s.s0, by rw [g46]; exact bit s.s1, by rw [hb]; exact hm⟩
  rw [rdSup, if_neg (by rw [Sup.bytes, takeE_put]; decide), e, if_pos hok, hb]
end Go.Proofs.YtfikjheicjamhaaDoor
end
section
/- Slots over plain disks that are up: Save, Stage, Flip, Back, Active do what they should. No program. -/
set_option linter.unusedVariables false
set_option linter.unusedSimpArgs false
namespace Go.Proofs.YtfikjheicjamhaaDoor
open Go.Eng Go.Hx
theorem nm_sup : Named nSup := by decide
theorem nm_new : Named nNew := by decide
theorem nm_slot (i : Nat) : Named (nSlot i) := by unfold nSlot; split <;> decide
theorem sup_ne_slot (i : Nat) : nSlot i ≠ nSup := by unfold nSlot; split <;> decide
theorem new_ne_slot (i : Nat) : nSlot i ≠ nNew := by unfold nSlot; split <;> decide
theorem slot_inj {i j : Nat} (hi : i < 2) (hj : j < 2) (h : nSlot i = nSlot j) : i = j := by
  match i, j, hi, hj with
  | 0, 0, _, _ => rfl
  | 1, 1, _, _ => rfl
  | 0, 1, _, _ => exact absurd h (by decide)
  | 1, 0, _, _ => exact absurd h (by decide)
/-- a superblock lies on a disk that is up, and files in the slots -/
structure Sst (d : RD) (s : Sup) (f : Nat → Option (List UInt8)) (T : Nat) (room : Int) : Prop where
  at_ : ∃ F, At d F T room ∧ F nSup = some s.bytes ∧ ∀ i, i < 2 → F (nSlot i) = f i
  wf : s.wf
  may : s.may
/-- Save, of bytes -/
theorem At.saveS {d : RD} {F : List UInt8 → Option (List UInt8)} {T : Nat} {room : Int} (h : At d F T room) {l : List UInt8} (hr : (T : Int) + (l.length : Nat) ≤ room) :
    ∃ d' F', d.saveS nNew nSup l = (d', 0) ∧ At d' F' (T + l.length) room ∧ F' nSup = some l ∧ ∀ i, F' (nSlot i) = F (nSlot i) := by
  have h1 := h.write nm_new hr
  have h2 := h1.sync
  have hx : fup F nNew (some l) nNew = some l := if_pos rfl
  have h3 := h2.rename nm_sup hx
  refine ⟨_, _, ?_, h3.sync, if_pos rfl, fun i => ?_⟩
  · rw [RD.saveS, if_neg (by rw [h.writeE nm_new hr]; decide), if_neg (by rw [h1.syncE]; decide), if_neg (by rw [h2.renameE nm_sup hx]; decide), h3.syncE]
  · show (if nSlot i = nSup then _ else if nSlot i = nNew then _ else if nSlot i = nNew then _ else F (nSlot i)) = _
    rw [if_neg (sup_ne_slot i), if_neg (new_ne_slot i), if_neg (new_ne_slot i)]
theorem Sst.save {d : RD} {s : Sup} {f : Nat → Option (List UInt8)} {T : Nat} {room : Int} (h : Sst d s f T room) {t : Sup} (hw : t.wf) (hm : t.may) (hr : (T : Int) + 87 ≤ room) :
    ∃ d', d.saveSup t = (d', 0) ∧ Sst d' t f (T + 87) room := by
  obtain ⟨F, ha, h1, h2⟩ := h.at_
  have hl := Sup.bytes_len hw
  obtain ⟨d', F', e1, e2, e3, e4⟩ := ha.saveS (l := t.bytes) (by omega)
  rw [hl] at e2
  exact ⟨d', by rw [RD.saveSup, if_pos hm, e1], ⟨F', e2, e3, fun i hi => by rw [e4, h2 i hi]⟩, hw, hm⟩
theorem Sst.le {d : RD} {s : Sup} {f : Nat → Option (List UInt8)} {T T' : Nat} {room : Int} (h : Sst d s f T room) (hT : T ≤ T') : Sst d s f T' room := by
  obtain ⟨F, ha, h1, h2⟩ := h.at_
  exact ⟨⟨F, ⟨ha.pw, ha.room, ha.look, Nat.le_trans ha.tot hT⟩, h1, h2⟩, h.wf, h.may⟩
theorem Sst.load {d : RD} {s : Sup} {f : Nat → Option (List UInt8)} {T : Nat} {room : Int} (h : Sst d s f T room) : d.loadS = (s, 0) := by
  obtain ⟨F, ha, h1, h2⟩ := h.at_
  rw [RD.loadS, if_neg (by rw [ha.readE, if_neg (by rw [h1]; simp)]; decide), ha.readB, h1]
  exact rdSup_bytes h.wf h.may
/-- a new disk, formatted -/
theorem Sst.fresh {room : Int} (hr : 87 ≤ room) : ∃ d', (RD.new room).saveSup Sup.zero = (d', 0) ∧ Sst d' Sup.zero (fun _ => none) 87 room := by
  have ha : At (RD.new room) (fun _ => none) 0 room := ⟨rfl, rfl, fun p => rfl, Nat.le_refl _⟩
  have hl := Sup.bytes_len Sup.zero_wf
  obtain ⟨d', F', e1, e2, e3, e4⟩ := ha.saveS (l := Sup.zero.bytes) (by rw [hl]; simpa using hr)
  rw [hl] at e2
  exact ⟨d', by rw [RD.saveSup, if_pos Sup.zero_may, e1], ⟨F', by simpa using e2, e3, fun i hi => e4 i⟩, Sup.zero_wf, Sup.zero_may⟩
theorem Sst.image {d : RD} {s : Sup} {f : Nat → Option (List UInt8)} {T : Nat} {room : Int} (h : Sst d s f T room) {i : Nat} (hi : i < 2) {q : List UInt8} (hf : (s.at i).full = true) (hq : f i = some q) (hz : (q.length : Int) = (s.at i).size) (hs : shaL q = (s.at i).image) : d.imageS s i = (q, 0) := by
  obtain ⟨F, ha, h1, h2⟩ := h.at_
  have e : d.readB (nSlot i) = q := by rw [ha.readB, h2 i hi, hq]; rfl
  rw [RD.imageS, if_neg (by rw [hf]; decide), if_neg (by rw [ha.readE, if_neg (by rw [h2 i hi, hq]; simp)]; decide), e, if_neg (fun hh => hh.elim (fun h => h hz) (fun h => h hs))]
theorem imageS_free (d : RD) {s : Sup} {i : Nat} (hf : (s.at i).full = false) : d.imageS s i = ([], 4) := by rw [RD.imageS, if_pos hf]
theorem Sst.active {d : RD} {s : Sup} {f : Nat → Option (List UInt8)} {T : Nat} {room : Int} (h : Sst d s f T room) : d.activeS = d.imageS s s.active.toNat := by
  rw [RD.activeS, h.load, if_neg (fun hh => hh rfl)]
theorem Sup.may_put {s : Sup} (hm : s.may) {i : Nat} {x : Sl} (hx : x.may) : (s.put i x).may := by
  obtain ⟨h1, h2, h3, h4, h5⟩ := hm
  unfold Sup.put
  split
  · exact ⟨h1, h2, h3, hx, h5⟩
  · exact ⟨h1, h2, h3, h4, hx⟩
theorem put_gen (s : Sup) (i : Nat) (x : Sl) : (s.put i x).gen = s.gen ∧ (s.put i x).active = s.active := by
  unfold Sup.put
  split <;> exact ⟨rfl, rfl⟩
theorem put_other (s : Sup) (i : Nat) (x : Sl) : (s.put i x).other = s.other := by
  unfold Sup.other
  rw [(put_gen s i x).2]
theorem put_at {s : Sup} {i j : Nat} (hi : i < 2) (hj : j < 2) (x : Sl) : (s.put i x).at j = if j = i then x else s.at j := by
  match i, j, hi, hj with
  | 0, 0, _, _ => rfl
  | 0, 1, _, _ => rfl
  | 1, 0, _, _ => rfl
  | 1, 1, _, _ => rfl
theorem turned_may {s : Sup} (hm : s.may) (hg : s.gen < 2147483647) : s.turned.may := by
  obtain ⟨h1, h2, h3, h4, h5⟩ := hm
  exact ⟨by show 1 - s.active = 0 ∨ 1 - s.active = 1; omega, by show 0 ≤ s.gen + 1; omega, by show s.gen + 1 ≤ _; omega, h4, h5⟩
theorem turned_wf0 {s : Sup} (h : s.wf) (hm : s.may) (hg : s.gen < 2147483647) : s.turned.wf := by
  have := h.g0
  have := hm.1
  exact ⟨by show _ ≤ 1 - s.active; omega, by show 1 - s.active ≤ _; omega, by show _ ≤ s.gen + 1; omega, by show s.gen + 1 ≤ _; omega, h.w0, h.w1⟩
theorem Sst.turn {d : RD} {s : Sup} {f : Nat → Option (List UInt8)} {T : Nat} {room : Int} (h : Sst d s f T room) {t : Sup} (hw : t.wf) (hm : t.may) (hg : t.gen < 2147483647) (hr : (T : Int) + 87 ≤ room) :
    ∃ d', d.turnS t = (d', t.gen + 1, 0) ∧ Sst d' t.turned f (T + 87) room := by
  obtain ⟨d', e1, e2⟩ := h.save (turned_wf0 hw hm hg) (turned_may hm hg) hr
  refine ⟨d', ?_, e2⟩
  rw [RD.turnS, if_neg (by omega), e1]
  exact if_neg (fun hh => hh rfl)
def fset (f : Nat → Option (List UInt8)) (i : Nat) (v : List UInt8) : Nat → Option (List UInt8) := fun j => if j = i then some v else f j
/-- Stage: what was in the other slot is given up, and the image lies there -/
def Sup.freed (s : Sup) : Sup := if (s.at s.other).full then s.put s.other Sl.zero else s
theorem freed_ok {s : Sup} (h : s.wf) (hm : s.may) : (Sup.freed s).wf ∧ (Sup.freed s).may ∧ (Sup.freed s).gen = s.gen ∧ (Sup.freed s).active = s.active ∧ ((Sup.freed s).at s.other).full = false ∧ (Sup.freed s).at s.active.toNat = s.at s.active.toNat := by
  obtain ⟨ho, ho2, ha, ha2⟩ := Sup.may_other hm
  unfold Sup.freed
  split
  · refine ⟨Sup.put_wf h Sl.zero_wf, Sup.may_put hm (by decide), (put_gen _ _ _).1, (put_gen _ _ _).2, ?_, ?_⟩
    · rw [put_at ho ho, if_pos rfl]; rfl
    · rw [put_at ho ha2, if_neg (by omega)]
  · rename_i hf
    exact ⟨h, hm, rfl, rfl, by simpa using hf, rfl⟩
theorem Sst.stage {d : RD} {s : Sup} {f : Nat → Option (List UInt8)} {T : Nat} {room : Int} (h : Sst d s f T room) {bb : List UInt8} (hb : bb.length ≤ 65536) (hr : (T : Int) + 87 + (bb.length : Nat) ≤ room) :
    ∃ d', d.stageS bb = (d', (s.other : Int), 0) ∧ Sst d' (Sup.freed s) (fset f s.other bb) (T + 87 + bb.length) room := by
  obtain ⟨ho, ho2, ha, ha2⟩ := Sup.may_other h.may
  have key : ∀ {d1 : RD} {t : Sup}, Sst d1 t f (T + 87) room → d1.writeE (nSlot s.other) bb = 0 ∧ (d1.write (nSlot s.other) bb).syncE = 0 ∧ Sst (d1.write (nSlot s.other) bb).sync t (fset f s.other bb) (T + 87 + bb.length) room := by
    intro d1 t h1
    obtain ⟨F, hF, e1, e2⟩ := h1.at_
    have hr' : ((T + 87 : Nat) : Int) + (bb.length : Nat) ≤ room := by omega
    have hW := hF.write (nm_slot s.other) (l := bb) hr'
    refine ⟨hF.writeE (nm_slot s.other) hr', hW.syncE, ⟨_, hW.sync, ?_, fun i hi => ?_⟩, h1.wf, h1.may⟩
    · show (if nSup = nSlot s.other then _ else F nSup) = _
      rw [if_neg (fun h => sup_ne_slot _ h.symm), e1]
    · show (if nSlot i = nSlot s.other then some bb else F (nSlot i)) = if i = s.other then some bb else f i
      by_cases hi2 : i = s.other
      · rw [if_pos (by rw [hi2]), if_pos hi2]
      · rw [if_neg (fun h => hi2 (slot_inj hi ho h)), if_neg hi2, e2 i hi]
  unfold RD.stageS
  rw [if_neg (by omega), h.load, if_neg (fun hh => hh rfl)]
  unfold Sup.freed
  by_cases hf : (s.at s.other).full = true
  · obtain ⟨d1, e1, e2⟩ := h.save (t := s.put s.other Sl.zero) (Sup.put_wf h.wf Sl.zero_wf) (Sup.may_put h.may (by decide)) (by omega)
    obtain ⟨k1, k2, k3⟩ := key e2
    refine ⟨_, ?_, by rw [if_pos hf]; exact k3⟩
    simp only [hf, if_true, e1]
    rw [if_neg (by decide), if_neg (by rw [k1]; decide), if_neg (by rw [k2]; decide)]
  · obtain ⟨k1, k2, k3⟩ := key (h.le (show T ≤ T + 87 by omega))
    refine ⟨_, ?_, by rw [if_neg hf]; exact k3⟩
    simp only [hf, Bool.false_eq_true, if_false]
    rw [if_neg (by decide), if_neg (by rw [k1]; decide), if_neg (by rw [k2]; decide)]
/-- the superblock behind a Flip -/
def Sup.flipped (s : Sup) (im : List UInt8) (n : Nat) : Sup := (s.put s.other ⟨true, im, (n : Int)⟩).turned
theorem Sst.flip {d : RD} {s : Sup} {f : Nat → Option (List UInt8)} {T : Nat} {room : Int} (h : Sst d s f T room) {q im : List UInt8} (hq : f s.other = some q) (hl : q.length ≤ 65536) (hs : shaL q = im) (hg : s.gen < 2147483647) (hr : (T : Int) + 87 ≤ room) :
    ∃ d', d.flipS im = (d', s.gen + 1, 0) ∧ Sst d' (Sup.flipped s im q.length) f (T + 87) room := by
  obtain ⟨ho, ho2, ha, ha2⟩ := Sup.may_other h.may
  obtain ⟨F, hF, e1, e2⟩ := h.at_
  have hi : im.length = 32 := by rw [← hs]; exact shaL_length _
  have hw : (s.put s.other ⟨true, im, (q.length : Int)⟩).wf := Sup.put_wf h.wf ⟨hi, by show _ ≤ ((q.length : Nat) : Int); omega, by show ((q.length : Nat) : Int) ≤ _; omega⟩
  have hm : (s.put s.other ⟨true, im, (q.length : Int)⟩).may := Sup.may_put h.may ⟨by show (0 : Int) ≤ ((q.length : Nat) : Int); omega, by show ((q.length : Nat) : Int) ≤ _; omega, fun h => by cases h⟩
  obtain ⟨d', k1, k2⟩ := h.turn hw hm (by rw [(put_gen _ _ _).1]; exact hg) hr
  have hE : d.readE (nSlot s.other) = 0 := by rw [hF.readE, if_neg (by rw [e2 _ ho, hq]; simp)]
  have hB : d.readB (nSlot s.other) = q := by rw [hF.readB, e2 _ ho, hq]; rfl
  refine ⟨d', ?_, k2⟩
  unfold RD.flipS
  rw [h.load, if_neg (fun hh => hh rfl)]
  simp only [hE, hB]
  rw [if_neg (by decide), if_neg (by omega), if_neg (by rw [hs]; simp), k1, (put_gen _ _ _).1]
theorem Sst.flipNo {d : RD} {s : Sup} {f : Nat → Option (List UInt8)} {T : Nat} {room : Int} (h : Sst d s f T room) {q im : List UInt8} (hq : f s.other = some q) (hl : q.length ≤ 65536) (hs : shaL q ≠ im) : d.flipS im = (d, 0, 7) := by
  obtain ⟨ho, ho2, ha, ha2⟩ := Sup.may_other h.may
  obtain ⟨F, hF, e1, e2⟩ := h.at_
  have hE : d.readE (nSlot s.other) = 0 := by rw [hF.readE, if_neg (by rw [e2 _ ho, hq]; simp)]
  have hB : d.readB (nSlot s.other) = q := by rw [hF.readB, e2 _ ho, hq]; rfl
  unfold RD.flipS
  rw [h.load, if_neg (fun hh => hh rfl)]
  simp only [hE, hB]
  rw [if_neg (by decide), if_neg (by omega), if_pos hs]
theorem Sst.back {d : RD} {s : Sup} {f : Nat → Option (List UInt8)} {T : Nat} {room : Int} (h : Sst d s f T room) {q : List UInt8} (hf : (s.at s.other).full = true) (hq : f s.other = some q) (hz : (q.length : Int) = (s.at s.other).size) (hs : shaL q = (s.at s.other).image) (hg : s.gen < 2147483647) (hr : (T : Int) + 87 ≤ room) :
    ∃ d', d.backS = (d', s.gen + 1, 0) ∧ Sst d' s.turned f (T + 87) room := by
  obtain ⟨ho, ho2, ha, ha2⟩ := Sup.may_other h.may
  obtain ⟨d', k1, k2⟩ := h.turn h.wf h.may hg hr
  refine ⟨d', ?_, k2⟩
  unfold RD.backS
  rw [h.load, if_neg (fun hh => hh rfl)]
  simp only [h.image ho hf hq hz hs]
  rw [if_neg (by decide), k1]
theorem Sst.backNo {d : RD} {s : Sup} {f : Nat → Option (List UInt8)} {T : Nat} {room : Int} (h : Sst d s f T room) (hf : (s.at s.other).full = false) : d.backS = (d, 0, 4) := by
  unfold RD.backS
  rw [h.load, if_neg (fun hh => hh rfl)]
  simp only [imageS_free d hf]
  rw [if_pos (by decide)]
end Go.Proofs.YtfikjheicjamhaaDoor
end
section
/- Contracts: law 22's begin and lives. -/
set_option linter.unusedVariables false
set_option linter.unusedSimpArgs false
set_option maxRecDepth 20000
namespace Go.Proofs.YtfikjheicjamhaaDoor
open Go.Eng Go.Hx
theorem bld_w {P : Program} {pl : Nat → Option (Nat × Nat)} {A : Option Addr} {x : RX} {zs : List Value} (hz : zs.length = 6) (p0 : pl 0 = some (0, 1)) (p1 : pl 1 = some (1, 5)) :
    Bld P pl zs [(0, .pointer A), (1, .agg x.cs.toArray)] (.pointer A :: x.cs) := by
  match zs, hz with
  | [_, _, _, _, _, _], _ => exact .cons (vs := [.pointer A]) p0 rfl rfl (by show 0 + 1 ≤ 6; decide) (.cons (vs := x.cs) p1 rfl rfl (by show 1 + 5 ≤ 6; decide) .nil)
theorem w_one {A : Option Addr} {x : RX} : ∀ u ∈ (Value.pointer A :: x.cs), u.oneCell' = true := by
  intro u hu
  rcases List.mem_cons.1 hu with rfl | hu
  · rfl
  · exact cs_one u hu
/-- the disk behind begin -/
def begun (room : Int) : RD := ((RD.new room).saveSup Sup.zero).1
theorem beginC {room : Int} (h1 : 87 ≤ room) (h2 : room ≤ 1048576) : Con Tryd.prog 26 [.int .i64 room] [] [] (fun v_ X_ S_ => ∃ gw gd st y, v_ = (.pointer (some ⟨gw, 0, none⟩)) ∧ X_ = [RBlk gw 64 (.pointer (some ⟨gd, 0, none⟩) :: y.cs), RDisk gd st] ∧ S_ = [RRef y] ∧ (DS st (begun room) 2 ∧ y.d = begun room)) := by
  obtain ⟨d', hS1, hS2⟩ := Sst.fresh h1
  have hB : begun room = d' := by rw [begun, hS1]
  have hS3 : (RD.new room).saveS nNew nSup Sup.zero.bytes = (d', 0) := by rw [← hS1, RD.saveSup, if_pos Sup.zero_may]
  refine henter (N := 32) Tryd.func26 rfl rfl (by simp) fun b => ?_
  refine hseq <| hreg <| hy (fun _ => y_assign rfl) <| hend <| hthen <| hseq <| hreg <| hy (fun _ => y_move rfl) <| ?_
  refine hx (xh_call rfl Tryd.call73 (newC (by omega) h2) [] rfl [] rfl ?_)
  rintro _ _ _ ⟨g, gs, gl, rfl, rfl, rfl⟩
  refine hy (fun _ => y_move rfl) <| hy (fun _ => y_extract rfl rfl) <| hy (fun _ => y_extract rfl rfl) <| hy (fun _ => y_assign rfl) <| hy (fun _ => y_assign rfl) <| hend <| hsub (ρ' := [(4, _), (3, _), (2, _), (0, _)]) ⟨rfl, rfl, rfl, rfl, trivial⟩ <| hmemQ (X' := [_]) (S' := []) (fun _ m => m) <| hthen <| hseq <| hseq <| hreg <| hy (fun _ => y_move rfl) <| hy (fun _ => y_eqPn rfl rfl (by kernel_rfl)) <| hy (fun _ => y_move rfl) <| ?_
  refine hyg (o := _) rfl rfl rfl (fun _ => y_move rfl) <| hyg (o := _) rfl rfl rfl (fun _ => y_neq rfl rfl) <| hy (fun _ => y_pickF rfl rfl) <| hend <| hsub (ρ' := [(17, _), (4, _), (3, _), (2, _), (0, _)]) ⟨rfl, rfl, rfl, rfl, rfl, trivial⟩ <| hthen <| ?_
  refine hiff rfl ((by decide)) ?_
  have hD0 : DS (dinit room gs gl) (RD.new room) 0 := DS.init h2
  refine hcskip <| hthen <| hseq <| hseq <| hreg <| hy (fun _ => y_move rfl) <| ?_
  refine hx (xh_call rfl Tryd.call74 (formatSC hD0 (by decide)) [0] rfl [] rfl ?_)
  rintro _ _ _ ⟨st1, rfl, rfl, rfl, hf⟩
  refine hy (fun _ => y_neq rfl rfl) <| hend <| hsub (ρ' := [(20, _), (17, _), (4, _), (3, _), (2, _), (0, _)]) ⟨rfl, rfl, rfl, rfl, rfl, rfl, trivial⟩ <| hmemQ (X' := [_]) (S' := []) (fun _ m => m) <| hthen <| ?_
  rw [hS1] at hf
  refine hiff rfl (decide_eq_false (by rw [hS1]; exact fun h => h rfl)) ?_
  have okn : (RD.new room).ok 0 := RD.ok.new h2
  refine hcskip <| hthen <| hseq <| hreg <| hy (fun _ => y_move rfl) <| ?_
  refine hx (xh_call rfl Tryd.call76 (rnewX) [] rfl [] rfl ?_)
  rintro _ _ _ ⟨y, rfl, rfl, rfl, hy1⟩
  refine hy (fun _ => yV (y_build0 ti27 rfl (by kernel_rfl)) ((rfl : _ = Value.agg Sup.zero.cs.toArray))) <| ?_
  refine hx (xh_call rfl Tryd.call75 (rsaveSC Sup.zero_wf Sup.zero_may (by rw [hy1]; exact okn) (by decide) (s := Sup.zero)) [] rfl [0] rfl ?_)
  rintro _ _ _ ⟨y2, rfl, rfl, rfl, hy2⟩
  refine hy (fun _ => y_move rfl) <| hy (fun _ => y_extract rfl rfl) <| hy (fun _ => y_extract rfl rfl) <| ?_
  refine hx (xh_alloc ti62 (fun g5 => ?_))
  rw [hy1, hS3] at hy2
  refine hx0 (xh_stA 0 rfl rfl rfl sz62 rfl cs_one rfl ?_)
  refine hy (fun _ => y_assign rfl) <| hend <| hsub (ρ' := [(5, _), (20, _), (17, _), (4, _), (3, _), (2, _), (0, _)]) ⟨rfl, rfl, rfl, rfl, rfl, rfl, rfl, trivial⟩ <| hmemQ (X' := [_, _]) (S' := [_, _]) (fun _ m => m) <| hthen <| hseq <| hreg <| hy (fun _ => y_move rfl) <| hy (fun m => yV (y_ldN rfl ag62 sz62 rfl ((m.blk 0 rfl).cells0)) ((rfl : _ = Value.agg y2.cs.toArray))) <| hy (fun _ => y_build ti64 rfl rfl (by kernel_rfl) (bld_w rfl pl64_0 pl64_1)) <| ?_
  refine hx (xh_box rfl (fun g31 => ?_))
  refine hmemL (fun w m => m.eqX 0 rfl (show _ = RBlk g31 64 (.pointer (some ⟨g, 0, none⟩) :: y2.cs) from congrArg (RBlk _ _) (cells_agg _))) ?_
  refine hy (fun _ => y_assign rfl) <| hend <| hsub (ρ' := [(2, _), (5, _), (20, _), (17, _), (4, _), (3, _), (0, _)]) ⟨rfl, rfl, rfl, rfl, rfl, rfl, rfl, trivial⟩ <| hmemQ (X' := [_, _, _]) (S' := [_, _]) (fun _ m => m) <| hthen <| hret <| ?_
  exact hret1 trivial rfl rfl [0, 1] rfl [0] rfl ⟨g31, g, st1, y2, rfl, rfl, rfl, ⟨by rw [hB]; exact hf, by rw [hB]; exact hy2⟩⟩
end Go.Proofs.YtfikjheicjamhaaDoor
end
section
/- What law 22's lives sees. No program. -/
set_option linter.unusedVariables false
set_option linter.unusedSimpArgs false
namespace Go.Proofs.YtfikjheicjamhaaDoor
open Go.Eng Go.Hx
def bnew : List UInt8 := [110, 101, 119]
theorem begun_sst {room : Int} (hr : 87 ≤ room) : Sst ((RD.new room).saveSup Sup.zero).1 Sup.zero (fun _ => none) 87 room := by
  obtain ⟨d', h1, h2⟩ := Sst.fresh hr
  rw [h1]; exact h2
theorem Sst.readSup {d : RD} {s : Sup} {f : Nat → Option (List UInt8)} {T : Nat} {room : Int} (h : Sst d s f T room) : d.readE nSup = 0 ∧ d.readB nSup = s.bytes := by
  obtain ⟨F, ha, h1, h2⟩ := h.at_
  exact ⟨by rw [ha.readE, if_neg (by rw [h1]; simp)], by rw [ha.readB, h1]; rfl⟩
theorem freed_zero : Sup.freed Sup.zero = Sup.zero := rfl
/-- behind a Stage and a Flip, Active gives what was staged -/
theorem flipped_active {d : RD} {s : Sup} {f : Nat → Option (List UInt8)} {T : Nat} {room : Int} {q im : List UInt8} (hm : s.may) (hq : f s.other = some q) (hs : shaL q = im) (h : Sst d (Sup.flipped s im q.length) f T room) : d.activeS = (q, 0) := by
  obtain ⟨ho, ho2, ha, ha2⟩ := Sup.may_other hm
  have e : (Sup.flipped s im q.length).active.toNat = s.other := by
    show (1 - (s.put s.other ⟨true, im, (q.length : Int)⟩).active).toNat = s.other
    rw [(put_gen _ _ _).2]; rfl
  have ea : (Sup.flipped s im q.length).at s.other = ⟨true, im, (q.length : Int)⟩ := by
    show (s.put s.other ⟨true, im, (q.length : Int)⟩).at s.other = _
    rw [put_at ho ho, if_pos rfl]
  rw [h.active, e]
  exact h.image ho (by rw [ea]) hq (by rw [ea]) (by rw [ea]; exact hs)
/-- what is active is whole -/
structure Whole (s : Sup) (f : Nat → Option (List UInt8)) (q : List UInt8) : Prop where
  full : (s.at s.active.toNat).full = true
  file : f s.active.toNat = some q
  size : (q.length : Int) = (s.at s.active.toNat).size
  img : shaL q = (s.at s.active.toNat).image
theorem Sst.whole {d : RD} {s : Sup} {f : Nat → Option (List UInt8)} {T : Nat} {room : Int} {q : List UInt8} (h : Sst d s f T room) (w : Whole s f q) : d.activeS = (q, 0) := by
  obtain ⟨ho, ho2, ha, ha2⟩ := Sup.may_other h.may
  rw [h.active]
  exact h.image ha2 w.full w.file w.size w.img
theorem whole_flipped {s : Sup} {f : Nat → Option (List UInt8)} {q im : List UInt8} (hm : s.may) (hq : f s.other = some q) (hs : shaL q = im) : Whole (Sup.flipped s im q.length) f q := by
  obtain ⟨ho, ho2, ha, ha2⟩ := Sup.may_other hm
  have e : (Sup.flipped s im q.length).active.toNat = s.other := by
    show (1 - (s.put s.other ⟨true, im, (q.length : Int)⟩).active).toNat = s.other
    rw [(put_gen _ _ _).2]; rfl
  have ea : (Sup.flipped s im q.length).at s.other = ⟨true, im, (q.length : Int)⟩ := by
    show (s.put s.other ⟨true, im, (q.length : Int)⟩).at s.other = _
    rw [put_at ho ho, if_pos rfl]
  exact ⟨by rw [e, ea], by rw [e]; exact hq, by rw [e, ea], by rw [e, ea]; exact hs⟩
theorem whole_staged {s : Sup} {f : Nat → Option (List UInt8)} {q bb : List UInt8} (h : s.wf) (hm : s.may) (w : Whole s f q) : Whole (Sup.freed s) (fset f s.other bb) q := by
  obtain ⟨ho, ho2, ha, ha2⟩ := Sup.may_other hm
  obtain ⟨f1, f2, f3, f4, f5, f6⟩ := freed_ok h hm
  refine ⟨by rw [f4, f6]; exact w.full, ?_, by rw [f4, f6]; exact w.size, by rw [f4, f6]; exact w.img⟩
  rw [f4]
  show (if s.active.toNat = s.other then some bb else f s.active.toNat) = _
  rw [if_neg (by omega)]
  exact w.file
theorem freed_other (s : Sup) : (Sup.freed s).other = s.other := by
  unfold Sup.freed
  split
  · exact put_other _ _ _
  · rfl
theorem fset_self (f : Nat → Option (List UInt8)) (i : Nat) (v : List UInt8) : fset f i v i = some v := if_pos rfl
/-- what law SlotsWrong does -/
theorem wrong_law {x y im : List UInt8} (hx : x.length ≤ 40) (hy : y.length ≤ 40) {d0 : RD} (h0 : Sst d0 Sup.zero (fun _ => none) 87 2000) :
    ∃ d1 d2 d3 i1 i2 i3, d0.stageS x = (d1, i1, 0) ∧ d1.flipS (shaL x) = (d2, i2, 0) ∧ d2.stageS y = (d3, i3, 0) ∧ d3.activeS = (x, 0) ∧ (shaL y = im → (d3.flipS im).2.2 = 0) ∧ (shaL y ≠ im → d3.flipS im = (d3, 0, 7)) := by
  obtain ⟨d1, e1, h1⟩ := h0.stage (bb := x) (by omega) (by omega)
  rw [freed_zero] at h1
  have q1 : fset (fun _ => none) Sup.zero.other x Sup.zero.other = some x := fset_self _ _ _
  obtain ⟨d2, e2, h2⟩ := h1.flip (q := x) (im := shaL x) q1 (by omega) rfl (by decide) (by omega)
  obtain ⟨d3, e3, h3⟩ := h2.stage (bb := y) (by omega) (by omega)
  have w := whole_staged (bb := y) h2.wf h2.may (whole_flipped h1.may q1 rfl)
  have q3 : fset (fset (fun _ => none) Sup.zero.other x) (Sup.flipped Sup.zero (shaL x) x.length).other y (Sup.freed (Sup.flipped Sup.zero (shaL x) x.length)).other = some y := by rw [freed_other]; exact fset_self _ _ _
  have hg : (Sup.freed (Sup.flipped Sup.zero (shaL x) x.length)).gen < 2147483647 := by
    rw [(freed_ok h2.wf h2.may).2.2.1]
    show (Sup.zero.put _ _).gen + 1 < _
    rw [(put_gen _ _ _).1]; decide
  refine ⟨d1, d2, d3, _, _, _, e1, e2, e3, h3.whole w, fun hs => ?_, fun hs => h3.flipNo q3 (by omega) hs⟩
  obtain ⟨d4, e4, h4⟩ := h3.flip q3 (by omega) hs hg (by omega)
  rw [e4]
end Go.Proofs.YtfikjheicjamhaaDoor
end
section
/- Contract: law 22's lives. -/
set_option linter.unusedVariables false
set_option linter.unusedSimpArgs false
set_option maxRecDepth 20000
namespace Go.Proofs.YtfikjheicjamhaaDoor
open Go.Eng Go.Hx
theorem lives22C  : Con Tryd.prog 20 [] [] [RRoots] (fun v_ X_ S_ => v_ = (.bool true) ∧ X_ = [] ∧ S_ = []) := by
  have hs0 := begun_sst (room := 1000) (by decide)
  obtain ⟨d1, e1, hs1⟩ := hs0.stage (bb := bnew) (by decide) (by decide)
  rw [freed_zero] at hs1
  have hq1 : fset (fun _ => none) Sup.zero.other bnew Sup.zero.other = some bnew := rfl
  obtain ⟨d2, e2, hs2⟩ := hs1.flip (q := bnew) (im := shaL bnew) hq1 (by decide) rfl (by decide) (by decide)
  have ha := flipped_active Sup.zero_may hq1 rfl hs2
  have hb0 : begun 1000 = ((RD.new 1000).saveSup Sup.zero).1 := rfl
  rw [← hb0] at hs0 e1
  obtain ⟨r1, r2⟩ := hs0.readSup
  generalize hbe : begun 1000 = d0 at hb0 hs0 e1 r1 r2
  refine henter (N := 82) Tryd.func20 rfl rfl (by simp) fun b => ?_
  refine hseq <| hreg <| hy (fun _ => y_assign rfl) <| hend <| hthen <| hseq <| hreg <| ?_
  refine hx (xh_call rfl Tryd.call26 (beginC (by decide) (by decide)) [] rfl [] rfl ?_)
  rintro _ _ _ ⟨gw, gd, st, y, rfl, rfl, rfl, hg⟩
  refine hy (fun _ => y_assign rfl) <| hend <| hsub (ρ' := [(1, _), (0, _)]) ⟨rfl, rfl, trivial⟩ <| hmemQ (X' := [_, _]) (S' := [_, _]) (fun _ m => m) <| hthen <| hseq <| hseq <| hreg <| hy (fun _ => y_move rfl) <| hy (fun _ => y_eqPn rfl rfl (by kernel_rfl)) <| hend <| hsub (ρ' := [(12, _), (1, _), (0, _)]) ⟨rfl, rfl, rfl, trivial⟩ <| hthen <| ?_
  refine hiff rfl (rfl) ?_
  obtain ⟨hD0, hy0⟩ := hg
  rw [hbe] at hD0
  refine hcskip <| hthen <| hseq <| hreg <| hy (fun _ => y_move rfl) <| hy (fun _ => y_nilp rfl) <| hy (fun _ => y_fld rfl fa64_0 (by decide)) <| hy (fun m => y_ld1 rfl ag58 (ld_blk (m.blk 0 rfl) (i := 0) rfl)) <| ?_
  refine hx (xh_call rfl Tryd.call65 (dreadC hD0 (p := nSup)) [1] rfl [] rfl ?_)
  rintro _ _ _ ⟨v, rfl, rfl, rfl⟩
  refine hfactL (fun m => (m.own 1 rfl).slice) ?_
  rintro ⟨A_x, c_x, rfl, hc_x⟩
  refine hfactL (fun m => (m.ord 1 rfl).2.1) fun hA_x => ?_
  refine hy (fun _ => y_move rfl) <| hy (fun _ => y_extract rfl rfl) <| hy (fun _ => y_extract rfl rfl) <| hy (fun _ => y_assign rfl) <| hy (fun _ => y_assign rfl) <| hend <| hsub (ρ' := [(3, _), (2, _), (12, _), (1, _), (0, _)]) ⟨rfl, rfl, rfl, rfl, rfl, trivial⟩ <| hmemQ (X' := [_, _, _]) (S' := [_, _]) (fun _ m => m) <| hthen <| hseq <| hreg <| hy (fun _ => y_move rfl) <| hy (fun _ => y_nilp rfl) <| hy (fun _ => y_fld rfl fa64_0 (by decide)) <| hy (fun m => y_ld1 rfl ag58 (ld_blk (m.blk 2 rfl) (i := 0) rfl)) <| ?_
  refine hx (xh_bsl Tryd.underlying32 ti5 rfl rfl rfl (by simp [Value.cells, B8]) (by decide) (by decide) (fun g26 => ?_))
  have hA_b26 : 0 < 3 → (some (⟨g26, 0, none⟩ : Addr)) ≠ none := fun _ h => by cases h
  refine hx (xh_cvS 0 rfl rfl Tryd.underlying32 Tryd.underlying5 ?_)
  rw [r2, Sup.bytes_len Sup.zero_wf]
  refine hmemL (fun w m => m.eqX 0 rfl (show _ = ROwn 5 1 (.slice (some ⟨g26, 0, none⟩) 3 3) 3 (b8s bnew) from rfl)) ?_
  refine hx (xh_calll rfl Tryd.call27 (stageSC rfl hD0 (by decide) (bb := bnew)) [1] rfl (.x 0 rfl .own .nil) ?_)
  rintro _ _ _ ⟨st1, rfl, rfl, rfl, hD1⟩
  refine ⟨rfl, ?_⟩
  refine hy (fun _ => y_move rfl) <| hy (fun _ => y_extract rfl rfl) <| hy (fun _ => y_extract rfl rfl) <| hy (fun _ => y_assign rfl) <| hy (fun _ => y_assign rfl) <| hend <| hsub (ρ' := [(5, _), (4, _), (3, _), (2, _), (12, _), (1, _), (0, _)]) ⟨rfl, rfl, rfl, rfl, rfl, rfl, rfl, trivial⟩ <| hmemQ (X' := [_, _, _, _]) (S' := [_, _]) (fun _ m => m) <| hthen <| hseq <| hdrwB [1, 1, 1] [0, 1] rfl rfl [4, 5, 6, 7] [(0, some 3), (1, some 3), (2, some 3), (3, some 3), (4, none), (5, none), (6, none), (7, none), (8, some 4), (9, some 4), (10, some 4), (11, some 4), (12, some 4)] (by kernel_rfl) (by kernel_rfl) rfl 99 <| htyU (y_move rfl) <| htyU (y_nilp rfl) <| htyU (y_fld rfl fa64_0 (by decide)) <| hty (fun m => y_ld1 rfl ag58 (ld_blk (m.blk 2 rfl) (i := 0) rfl)) <| ?_
  refine htx (xh_bsl Tryd.underlying32 ti5 rfl rfl rfl (by simp [Value.cells, B8]) (by decide) (by decide) (fun g36 => ⟨(fun _ => wk [2, 2, 2] [0, 1] rfl rfl), ?_⟩))
  have hA_b36 : 0 < 3 → (some (⟨g36, 0, none⟩ : Addr)) ≠ none := fun _ h => by cases h
  refine htx (xh_cvS 0 rfl rfl Tryd.underlying32 Tryd.underlying5 ⟨(fun _ => wk [2, 2, 2] [0, 1] rfl rfl), ?_⟩)
  refine htmem (fun w m => m.eqX 0 rfl (show _ = ROwn 5 1 (.slice (some ⟨g36, 0, none⟩) 3 3) 3 (b8s bnew) from rfl)) ?_
  rw [e1] at hD1
  refine htx (xh_calll rfl Tryd.call29 (rshaSumC (by omega)) [] rfl (.x 0 rfl .own .nil) ?_)
  rintro _ _ _ ⟨rfl, rfl, rfl⟩
  refine ⟨rfl, ?_⟩
  refine ⟨(fun _ => wk [2, 2, 2] [0, 1] rfl rfl), ?_⟩
  refine htx (xh_call rfl Tryd.call28 (flipSC (shaL_length _) hD1 (by decide)) [1] rfl [1] rfl ?_)
  rintro _ _ _ ⟨st12, rfl, rfl, rfl, hD2⟩
  refine ⟨(fun _ => wk [2, 2, 2] [0, 1] rfl rfl), ?_⟩
  refine htyU (y_move rfl) <| htyU (y_extract rfl rfl) <| htyU (y_extract rfl rfl) <| htyU (y_assign rfl) <| htyU (y_assign rfl) <| htend <| hsub (ρ' := [(7, _), (6, _), (5, _), (4, _), (3, _), (2, _), (12, _), (1, _), (0, _)]) ⟨rfl, rfl, rfl, rfl, rfl, rfl, rfl, rfl, rfl, trivial⟩ <| hmemQ (X' := [_, _, _, _, _]) (S' := [_, _]) (fun _ m => m) <| hthen <| hseq <| hreg <| hy (fun _ => y_move rfl) <| hy (fun _ => y_nilp rfl) <| hy (fun _ => y_fld rfl fa64_0 (by decide)) <| ?_
  rw [e2] at hD2
  refine hy (fun m => y_ld1 rfl ag58 (ld_blk (m.blk 4 rfl) (i := 0) rfl)) <| ?_
  refine hx (xh_call rfl Tryd.call30 (activeSC hD2) [0] rfl [1] rfl ?_)
  rintro _ _ _ ⟨v2, rfl, rfl, rfl⟩
  refine hfactL (fun m => (m.own 1 rfl).slice) ?_
  rintro ⟨A_x2, c_x2, rfl, hc_x2⟩
  refine hfactL (fun m => (m.ord 1 rfl).2.1) fun hA_x2 => ?_
  refine hy (fun _ => y_move rfl) <| hy (fun _ => y_extract rfl rfl) <| hy (fun _ => y_extract rfl rfl) <| hy (fun _ => y_assign rfl) <| hy (fun _ => y_assign rfl) <| hend <| hsub (ρ' := [(9, _), (8, _), (7, _), (6, _), (5, _), (4, _), (3, _), (2, _), (12, _), (1, _), (0, _)]) ⟨rfl, rfl, rfl, rfl, rfl, rfl, rfl, rfl, rfl, rfl, rfl, trivial⟩ <| hmemQ (X' := [_, _, _, _, _, _]) (S' := [_, _]) (fun _ m => m) <| hthen <| hseq <| hreg <| hy (fun _ => y_move rfl) <| ?_
  rw [e1, e2, ha, r1]
  refine hy (fun _ => y_eql rfl rfl) <| hy (fun _ => y_move rfl) <| hyg (o := _) rfl rfl rfl (fun _ => y_move rfl) <| hyg (o := _) rfl rfl rfl (fun _ => y_lenS rfl Tryd.underlying32) <| hyg (o := _) rfl rfl rfl (fun _ => y_eql rfl rfl) <| hy (fun _ => y_pickT rfl rfl) <| hy (fun _ => y_move rfl) <| hyg (o := _) rfl rfl rfl (fun _ => y_move rfl) <| hyg (o := _) rfl rfl rfl (fun _ => y_eql rfl rfl) <| hy (fun _ => y_pickT rfl rfl) <| hy (fun _ => y_move rfl) <| hyg (o := _) rfl rfl rfl (fun _ => y_move rfl) <| hyg (o := _) rfl rfl rfl (fun _ => y_eql rfl rfl) <| hy (fun _ => y_pickT rfl rfl) <| hy (fun _ => y_move rfl) <| hyg (o := _) rfl rfl rfl (fun _ => y_move rfl) <| hyg (o := _) rfl rfl rfl (fun _ => y_eql rfl rfl) <| hy (fun _ => y_pickT rfl rfl) <| hy (fun _ => y_move rfl) <| hyg (o := _) rfl rfl rfl (fun _ => y_move rfl) <| hyg (o := _) rfl rfl rfl (fun _ => y_eql rfl rfl) <| hy (fun _ => y_pickT rfl rfl) <| hy (fun _ => y_move rfl) <| hyg (o := _) rfl rfl rfl (fun _ => y_move rfl) <| hyg (o := _) rfl rfl rfl (fun _ => y_eql rfl rfl) <| hy (fun _ => y_pickT rfl rfl) <| hy (fun _ => y_move rfl) <| hyg (o := _) rfl rfl rfl (fun _ => y_move rfl) <| hyg (o := _) rfl rfl rfl (fun m => y_b2s rfl Tryd.underlying32 Tryd.underlying5 Tryd.underlying9 (m.ord 1 rfl)) <| hyg (o := _) rfl rfl rfl (fun _ => y_seq rfl rfl) <| hy (fun _ => y_pickT rfl rfl) <| hy (fun _ => y_assign rfl) <| hend <| hsub (ρ' := [(0, _), (9, _), (8, _), (7, _), (6, _), (5, _), (4, _), (3, _), (2, _), (12, _), (1, _)]) ⟨rfl, rfl, rfl, rfl, rfl, rfl, rfl, rfl, rfl, rfl, rfl, trivial⟩ <| hthen <| hret <| ?_
  exact hret1 trivial rfl rfl [] rfl [] rfl ⟨rfl, rfl, rfl⟩
end Go.Proofs.YtfikjheicjamhaaDoor
end
