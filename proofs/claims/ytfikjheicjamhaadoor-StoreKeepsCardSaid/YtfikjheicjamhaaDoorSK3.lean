/- What the claim leans on, part 3. -/
import Derived.Test.YtfikjheicjamhaaDoorSK2
import Derived.Laws.BitsAllLaws
import Derived.Recover
import Derived.WideKeyEntry
import Derived.OrdersIn
import Derived.RangeFuncNested
import Derived.RangeFuncLeaves
import Derived.RangeFuncCalls
import Derived.RangeFuncBox
import Derived.Shelf.Abstract
import Derived.WalkKit
import Derived.OwnWalkIn
import Derived.TacticsInMore
import Derived.LoopNIn
import Derived.LoopIn
import Derived.ScopeJumps
section
/- The document's files and a map's files, over plain lists. No program walked. -/
set_option linter.unusedVariables false
set_option linter.unusedSimpArgs false
namespace Go.Proofs.YtfikjheicjamhaaDoor
open Go.Eng Go.Hx
theorem bl_eq : ∀ (x y : List UInt8), Op.bytesLess x y = decide (x < y)
  | [], [] => by simp [Op.bytesLess]
  | _ :: _, [] => by simp [Op.bytesLess]
  | [], _ :: _ => by simp [Op.bytesLess]
  | a :: x, b :: y => by
    rw [Op.bytesLess, bl_eq x y]
    simp only [List.cons_lt_cons_iff]
    by_cases h1 : a < b <;> by_cases h2 : a = b <;> by_cases h3 : x < y <;> simp [h1, h2, h3]
theorem sless_iff {a b : List UInt8} : sless a b = decide (a < b) := by
  unfold sless
  rw [bl_eq, Lib.toList_data, Lib.toList_data]
  rfl
def insF : List FP → FP → List FP
  | [], f => [f]
  | x :: r, f => if x.1 < f.1 then x :: insF r f else f :: (x :: r).filter fun y => decide (y.1 ≠ f.1)
theorem fold_true (f : FP) : ∀ (l acc : List FP), l.foldl (wstep f) (acc, true) = (acc ++ l.filter (fun y => decide (y.1 ≠ f.1)), true)
  | [], acc => by simp
  | x :: r, acc => by
    rw [List.foldl_cons]
    by_cases h : x.1 = f.1
    · have : wstep f (acc, true) x = (acc, true) := by simp [wstep, h]
      rw [this, fold_true f r acc]; simp [h]
    · have : wstep f (acc, true) x = (acc ++ [x], true) := by simp [wstep, h]
      rw [this, fold_true f r (acc ++ [x])]; simp [h]
def wfin (f : FP) (st : List FP × Bool) : List FP := if st.2 then st.1 else st.1 ++ [f]
theorem fold_false (f : FP) : ∀ (l acc : List FP), wfin f (l.foldl (wstep f) (acc, false)) = acc ++ insF l f
  | [], acc => by simp [insF, wfin]
  | x :: r, acc => by
    rw [List.foldl_cons]
    by_cases h : x.1 < f.1
    · have hne : x.1 ≠ f.1 := fun e => by rw [e] at h; exact List.lt_irrefl _ h
      have : wstep f (acc, false) x = (acc ++ [x], false) := by simp [wstep, sless_iff, h, hne]
      rw [this, fold_false f r (acc ++ [x]), insF, if_pos h]; simp
    · have hs : sless x.1 f.1 = false := by rw [sless_iff]; simpa using h
      rw [insF, if_neg h]
      by_cases he : x.1 = f.1
      · have hs' : sless f.1 f.1 = false := he ▸ hs
        have : wstep f (acc, false) x = (acc ++ [f], true) := by simp [wstep, hs', he]
        rw [this, fold_true]; simp [he, wfin]
      · have : wstep f (acc, false) x = (acc ++ [f] ++ [x], true) := by simp [wstep, hs, he]
        rw [this, fold_true]; simp [he, wfin]
theorem withF_ins (l : List FP) (f : FP) : withF l f = insF l f := by
  have := fold_false f l []
  rw [List.nil_append] at this
  rw [← this]
  unfold withF wst wfin
  rw [List.take_of_length_le (Nat.le_refl _)]
/-- what stands under a name -/
def lk : List FP → List UInt8 → Option (List UInt8)
  | [], _ => none
  | x :: r, p => if x.1 = p then some x.2 else lk r p
theorem lk_find : ∀ (l : List FP) (p : List UInt8), (l[findN l p]?).map (·.2) = lk l p
  | [], p => rfl
  | x :: r, p => by
    have := lk_find r p
    unfold findN at this ⊢
    rw [List.findIdx_cons]
    by_cases h : x.1 = p
    · simp [h, lk]
    · simp [h, lk, this]
theorem lk_filter (q : List UInt8) : ∀ (l : List FP) (p : List UInt8), lk (l.filter fun y => decide (y.1 ≠ q)) p = if p = q then none else lk l p
  | [], p => by simp [lk]
  | x :: r, p => by
    have ih := lk_filter q r p
    by_cases h : x.1 = q
    · rw [List.filter_cons, if_neg (by simp [h]), ih]
      by_cases hp : p = q
      · simp [hp]
      · rw [if_neg hp, if_neg hp, lk, if_neg (fun e => hp (e.symm.trans h))]
    · rw [List.filter_cons, if_pos (by simp [h]), lk, ih]
      by_cases hp : p = q
      · rw [if_pos hp, if_pos hp, if_neg (fun e => h (e.trans hp))]
      · rw [if_neg hp, if_neg hp, lk]
theorem lk_ins : ∀ (l : List FP) (f : FP) (p : List UInt8), lk (insF l f) p = if p = f.1 then some f.2 else lk l p
  | [], f, p => by simp only [insF, lk, eq_comm]
  | x :: r, f, p => by
    unfold insF
    by_cases h : x.1 < f.1
    · rw [if_pos h, lk, lk_ins r f p, lk]
      have hne : x.1 ≠ f.1 := fun e => by rw [e] at h; exact List.lt_irrefl _ h
      by_cases hp : p = f.1
      · rw [if_pos hp, if_pos hp, if_neg (fun e => hne (e.trans hp))]
      · rw [if_neg hp, if_neg hp]
    · rw [if_neg h, lk, lk_filter]
      by_cases hp : p = f.1
      · rw [if_pos hp.symm, if_pos hp]
      · rw [if_neg (fun e => hp e.symm), if_neg hp, if_neg hp]
/-- in order, each name once -/
def Srtd (l : List FP) : Prop := (l.map (·.1)).Pairwise (· < ·)
theorem srtd_filter {l : List FP} (q : FP → Bool) (h : Srtd l) : Srtd (l.filter q) := List.Pairwise.sublist (List.Sublist.map _ List.filter_sublist) h
theorem mem_ins {l : List FP} {f y : FP} (h : y ∈ insF l f) : y = f ∨ y ∈ l := by
  induction l with
  | nil => exact .inl (by simpa [insF] using h)
  | cons x r ih =>
    unfold insF at h
    split at h
    · rcases List.mem_cons.1 h with h | h
      · exact .inr (by rw [h]; exact List.mem_cons_self ..)
      · rcases ih h with h | h
        · exact .inl h
        · exact .inr (List.mem_cons_of_mem _ h)
    · rcases List.mem_cons.1 h with h | h
      · exact .inl h
      · exact .inr ((List.mem_filter.1 h).1)
theorem srtd_ins {l : List FP} {f : FP} (h : Srtd l) : Srtd (insF l f) := by
  induction l with
  | nil => simp [Srtd, insF]
  | cons x r ih =>
    have hx : ∀ y ∈ r, x.1 < y.1 := by
      intro y hy
      exact (List.pairwise_cons.1 h).1 _ (List.mem_map.2 ⟨y, hy, rfl⟩)
    have hr : Srtd r := (List.pairwise_cons.1 h).2
    unfold insF
    by_cases hlt : x.1 < f.1
    · rw [if_pos hlt]
      refine List.pairwise_cons.2 ⟨?_, ih hr⟩
      intro a ha
      obtain ⟨y, hy, rfl⟩ := List.mem_map.1 ha
      rcases mem_ins hy with rfl | hy
      · exact hlt
      · exact hx y hy
    · rw [if_neg hlt]
      refine List.pairwise_cons.2 ⟨?_, srtd_filter _ h⟩
      intro a ha
      obtain ⟨y, hy, rfl⟩ := List.mem_map.1 ha
      have hy1 := (List.mem_filter.1 hy).1
      have hy2 : y.1 ≠ f.1 := by simpa using (List.mem_filter.1 hy).2
      have hge : ¬ y.1 < f.1 := by
        rcases List.mem_cons.1 hy1 with rfl | h1
        · exact hlt
        · exact fun e => hlt (List.lt_trans (hx y h1) e)
      exact Decidable.byContradiction fun hn => hy2 (List.le_antisymm (List.not_lt.1 hn) (List.not_lt.1 hge))
/-- a map's files are the document's -/
structure FSim (fs : Files) (l : List FP) : Prop where
  ord : Srtd l
  nd : (akeys fs).Nodup
  look : ∀ p, (aget fs p).map (·.l) = lk l p
  len : ∀ x ∈ fs, x.2.n = x.2.l.length
theorem FSim.nil : FSim [] [] := ⟨by simp [Srtd], by simp [akeys], fun p => rfl, fun x h => by cases h⟩
theorem lk_mem {l : List FP} {p : List UInt8} : lk l p ≠ none ↔ p ∈ l.map (·.1) := by
  induction l with
  | nil => simp [lk]
  | cons x r ih =>
    unfold lk
    by_cases h : x.1 = p
    · simp [h]
    · rw [if_neg h, ih]; simp [Ne.symm h]
theorem FSim.keys {fs : Files} {l : List FP} (h : FSim fs l) : (akeys fs).Perm (l.map (·.1)) := by
  have hn : (l.map (·.1)).Nodup := List.Pairwise.imp (fun hlt e => by rw [e] at hlt; exact List.lt_irrefl _ hlt) h.ord
  refine (List.perm_ext_iff_of_nodup h.nd hn).2 fun p => ?_
  rw [← lk_mem, ← h.look p]
  have := @aget_none (List UInt8) BRow _ fs p
  cases hq : aget fs p with
  | none => simp [this.1 hq]
  | some r => simp; exact Decidable.byContradiction fun hm => by rw [this.2 hm] at hq; cases hq
theorem FSim.put {fs : Files} {l : List FP} (h : FSim fs l) {p : List UInt8} {r : BRow} (hr : r.n = r.l.length) : FSim (aput fs p r) (withF l (p, r.l)) := by
  rw [withF_ins]
  refine ⟨srtd_ins h.ord, aput_nodup h.nd, fun q => ?_, fun x hx => ?_⟩
  · rw [aget_aput, lk_ins]
    by_cases hq : p = q
    · rw [if_pos hq, if_pos hq.symm]; rfl
    · rw [if_neg hq, if_neg (fun e => hq e.symm)]; exact h.look q
  · rcases aput_vals (List.mem_map.2 ⟨x, hx, rfl⟩) with h1 | h1
    · obtain ⟨y, hy, e⟩ := List.mem_map.1 h1
      rw [← e]; exact h.len y hy
    · rw [h1]; exact hr
theorem sum_perm {a b : List Nat} (h : a.Perm b) : a.sum = b.sum := by
  induction h with
  | nil => rfl
  | cons x _ ih => simp [ih]
  | swap x y l => simp; omega
  | trans _ _ h1 h2 => rw [h1, h2]
theorem lk_self {l : List FP} (h : Srtd l) {x : FP} (hx : x ∈ l) : lk l x.1 = some x.2 := by
  induction l with
  | nil => cases hx
  | cons y r ih =>
    unfold lk
    rcases List.mem_cons.1 hx with rfl | h1
    · rw [if_pos rfl]
    · have hlt : y.1 < x.1 := (List.pairwise_cons.1 h).1 _ (List.mem_map.2 ⟨x, h1, rfl⟩)
      rw [if_neg (fun e => by rw [e] at hlt; exact List.lt_irrefl _ hlt)]
      exact ih (List.pairwise_cons.1 h).2 h1
theorem FSim.tot {fs : Files} {l : List FP} (h : FSim fs l) : tot fs = totF l := by
  let g : List UInt8 → Nat := fun p => ((lk l p).getD []).length
  have h1 : fs.map (fun x => x.2.n) = (akeys fs).map g := by
    rw [akeys, List.map_map]
    refine List.map_congr_left fun x hx => ?_
    have := h.look x.1
    rw [aget_of_mem h.nd (show (x.1, x.2) ∈ fs from hx)] at this
    show x.2.n = ((lk l x.1).getD []).length
    rw [← this, h.len x hx]; rfl
  have h2 : l.map (fun x => x.2.length) = (l.map (·.1)).map g := by
    rw [List.map_map]
    refine List.map_congr_left fun x hx => ?_
    show x.2.length = ((lk l x.1).getD []).length
    rw [lk_self h.ord hx]; rfl
  show (fs.map fun x => x.2.n).sum = (l.map fun x => x.2.length).sum
  rw [h1, h2]
  exact sum_perm (h.keys.map g)
theorem FSim.len1 {fs : Files} {l : List FP} (h : FSim fs l) : fs.length = l.length := by
  have := h.keys.length_eq
  simpa [akeys] using this
theorem FSim.sz {fs : Files} {l : List FP} (h : FSim fs l) (p : List UInt8) : ((aget fs p).map (·.n)).getD 0 = ((l[findN l p]?).map (·.2.length)).getD 0 := by
  have h1 := h.look p
  rw [← lk_find] at h1
  cases hq : aget fs p with
  | none =>
    rw [hq] at h1
    cases hl : l[findN l p]? with
    | none => rfl
    | some x => rw [hl] at h1; cases h1
  | some r =>
    rw [hq] at h1
    cases hl : l[findN l p]? with
    | none => rw [hl] at h1; cases h1
    | some x =>
      rw [hl] at h1
      have e : r.l = x.2 := Option.some.inj h1
      have := h.len _ (aget_mem hq)
      simp only [Option.map_some, Option.getD_some]
      rw [← e]; exact this
/-- a disk is the document's -/
structure DSim (st : DSt) (d : RD) : Prop where
  room : st.room = d.room
  power : st.power = d.pw
  files : FSim st.seen d.seen
  waits : st.waits.length = d.waits.length
theorem DSim.writeE {st : DSt} {d : RD} (h : DSim st d) (p bb : List UInt8) : writeE st p bb.length = d.writeE p bb := by
  have h1 := h.files.sz p
  have h2 := h.files.tot
  unfold Go.Proofs.YtfikjheicjamhaaDoor.writeE RD.writeE RD.sz
  rw [h.power, h.room, h1, h2]
  by_cases hn : ¬ Named p
  · rw [if_pos hn, if_pos hn]
  · rw [if_neg hn, if_neg hn]
    by_cases h0 : d.pw = 0
    · rw [if_pos h0, if_pos h0]
    · rw [if_neg h0, if_neg h0]
      by_cases hr : d.room < (totF d.seen : Int) + (bb.length : Nat) - (((d.seen[findN d.seen p]?).map (·.2.length)).getD 0 : Nat)
      · rw [if_pos hr, if_pos (by omega)]
      · rw [if_neg hr, if_neg (by omega)]
theorem DSim.wrote {st : DSt} {d : RD} (h : DSim st d) {p : List UInt8} {r : BRow} (hr : r.n = r.l.length) {A : Option Addr} {c : Nat} : DSim (st.wrote p r A c) (d.did 0 p [] r.l) := by
  refine ⟨h.room, ?_, ?_, ?_⟩
  · show (if 0 < st.power then st.power - 1 else st.power) = lessP d.pw
    rw [h.power]; rfl
  · show FSim (aput st.seen p r) (makeF d.seen 0 p [] r.l)
    rw [makeF, if_pos rfl]; exact h.files.put hr
  · show (st.waits ++ [Chg.written p r]).length = (d.waits ++ [(0, p, [], r.l)]).length
    rw [List.length_append, List.length_append, h.waits]; rfl
theorem DSim.readE {st : DSt} {d : RD} (h : DSim st d) (p : List UInt8) : foundE st p = d.readE p := by
  have h1 := h.files.look p
  rw [← lk_find] at h1
  unfold foundE RD.readE
  rw [h.power]
  by_cases h0 : d.pw = 0
  · rw [if_pos h0, if_pos h0]
  · rw [if_neg h0, if_neg h0]
    cases ha : aget st.seen p with
    | none =>
      rw [ha] at h1
      cases hb : d.seen[findN d.seen p]? with
      | none => simp
      | some y => rw [hb] at h1; cases h1
    | some r =>
      rw [ha] at h1
      cases hb : d.seen[findN d.seen p]? with
      | none => rw [hb] at h1; cases h1
      | some y => simp
theorem DSim.readB {st : DSt} {d : RD} (h : DSim st d) (p : List UInt8) : readB st p = d.readB p := by
  have h1 := h.files.look p
  rw [← lk_find] at h1
  have h2 := h.readE p
  unfold Go.Proofs.YtfikjheicjamhaaDoor.readB RD.readB
  rw [h2, ← h1]
  unfold RD.readE
  by_cases h0 : d.pw = 0
  · rw [if_pos h0, if_pos h0, if_neg (by decide)]
  · rw [if_neg h0, if_neg h0]
    cases hb : d.seen[findN d.seen p]? with
    | none =>
      rw [hb] at h1
      cases ha : aget st.seen p with
      | none => simp
      | some r => rw [ha] at h1; cases h1
    | some y => simp
end Go.Proofs.YtfikjheicjamhaaDoor
end
section
/- Contracts: the document's disk (layer 12), as one thing: Read, Write, Rename, Remove, Sync, Power, Restart. -/
set_option linter.unusedVariables false
set_option linter.unusedSimpArgs false
set_option maxRecDepth 20000
namespace Go.Proofs.YtfikjheicjamhaaDoor
open Go.Eng Go.Hx
/-- a disk of the document, and where its lists lie -/
structure RX where
  d : RD
  A : Option Addr
  c : Nat
  Al : Option Addr
  cl : Nat
  A3 : Option Addr
  c3 : Nat
def RX.cs (x : RX) : List Value := rv x.d x.A x.d.seen.length x.c x.Al x.d.lasts.length x.cl x.A3 x.d.waits.length x.c3
abbrev RX.parts (x : RX) : List Res := [RRd 2 x.A x.d.seen.length (fc x.d.seen), RRd 2 x.Al x.d.lasts.length (fc x.d.lasts), RRd 4 x.A3 x.d.waits.length (wcs x.d.waits)]
def RRef (x : RX) : Res := RAll x.parts
def RD.new (room : Int) : RD := ⟨room, [], [], [], -1⟩
def RX.new (room : Int) : RX := ⟨RD.new room, none, 0, none, 0, none, 0⟩
theorem ref_new {room : Int} : Der [] [RRef (RX.new room)] := by
  intro s hs
  obtain rfl := List.mem_singleton.1 hs
  refine ⟨fun w _ x hx => ?_, fun k hk => ?_⟩
  · simp only [List.mem_cons, List.not_mem_nil, or_false] at hx
    rcases hx with rfl | rfl | rfl <;> exact Rd.nil _ _ _
  · obtain ⟨x, hx, hk⟩ := hk
    simp only [List.mem_cons, List.not_mem_nil, or_false] at hx
    rcases hx with rfl | rfl | rfl <;> exact absurd rfl hk.1
theorem inr {r a : Res} {S : List Res} (h : ∃ t ∈ S, View t r) : ∃ t ∈ a :: S, View t r := by
  obtain ⟨t, ht, hv⟩ := h
  exact ⟨t, List.mem_cons_of_mem _ ht, hv⟩
theorem rnewX {room : Int} : Con Tryd.prog 76 [.int .i64 room] [] [] (fun v_ X_ S_ => ∃ y, v_ = (.agg y.cs.toArray) ∧ X_ = [] ∧ S_ = [RRef y] ∧ (y.d = RD.new room)) := by
  exact Con.viaS rnewC (fun s hs => by cases hs) (fun v X S h => by
    obtain ⟨rfl, rfl, rfl⟩ := h
    exact ⟨_, ⟨RX.new room, rfl, rfl, rfl, rfl⟩, ref_new⟩)
/-- what is told of a Rename -/
def RD.renameE (d : RD) (a c : List UInt8) : Int := if ¬ Named c then 1 else d.readE a
def RD.rename (d : RD) (a c : List UInt8) : RD := if d.renameE a c = 0 then d.did 1 a c [] else d
def RD.syncE (d : RD) : Int := if d.pw = 0 then 6 else 0
def RD.sync (d : RD) : RD := if d.pw = 0 then d else { d with lasts := d.seen, waits := [], pw := lessP d.pw }
def RD.power (d : RD) (n : Int) : RD := { d with pw := max n (-1) }
end Go.Proofs.YtfikjheicjamhaaDoor
end
section
/- Contracts: the document's disk (layer 12): Restart, names of a small world. -/
set_option linter.unusedVariables false
set_option linter.unusedSimpArgs false
set_option maxRecDepth 20000
namespace Go.Proofs.YtfikjheicjamhaaDoor
open Go.Eng Go.Hx
/-- one change that waits, at a restart -/
def dstep (s : List Bool × List FP) (c : RC) : List Bool × List FP :=
  if s.1.headD false then
    if c.1 = 0 then (s.1.tail.tail, makeF s.2 c.1 c.2.1 c.2.2.1 (if s.1.tail.headD false then c.2.2.2 else c.2.2.2.take (c.2.2.2.length / 2)))
    else (s.1.tail, makeF s.2 c.1 c.2.1 c.2.2.1 c.2.2.2)
  else (s.1.tail, s.2)
def dfold (keep : List Bool) (d : RD) (i : Nat) : List Bool × List FP := (d.waits.take i).foldl dstep (keep, d.lasts)
def RD.restart (d : RD) (keep : List Bool) : RD := { d with seen := (dfold keep d d.waits.length).2, lasts := (dfold keep d d.waits.length).2, waits := [], pw := -1 }
end Go.Proofs.YtfikjheicjamhaaDoor
end
section
/- A disk that is the document's, in all: what is seen, what lasts, what waits; kept by all that is done. No program walked. -/
set_option linter.unusedVariables false
set_option linter.unusedSimpArgs false
namespace Go.Proofs.YtfikjheicjamhaaDoor
open Go.Eng Go.Hx
theorem FSim.del {fs : Files} {l : List FP} (h : FSim fs l) (p : List UInt8) : FSim (adel fs p) (withoutF l p) := by
  refine ⟨srtd_filter _ h.ord, adel_nodup h.nd, fun q => ?_, fun x hx => ?_⟩
  · rw [aget_adel h.nd]
    have := lk_filter p l q
    unfold withoutF
    rw [this]
    by_cases hq : p = q
    · rw [if_pos hq, if_pos hq.symm]; rfl
    · rw [if_neg hq, if_neg (fun e => hq e.symm)]; exact h.look q
  · have h1 := adel_vals (List.mem_map.2 ⟨x, hx, rfl⟩)
    obtain ⟨y, hy, e⟩ := List.mem_map.1 h1
    rw [← e]; exact h.len y hy
theorem FSim.at {fs : Files} {l : List FP} (h : FSim fs l) (p : List UInt8) : (aget fs p = none ∧ l[findN l p]? = none) ∨ ∃ r x, aget fs p = some r ∧ l[findN l p]? = some x ∧ r.l = x.2 ∧ r.n = r.l.length := by
  have h1 := h.look p
  rw [← lk_find] at h1
  cases ha : aget fs p with
  | none =>
    rw [ha] at h1
    cases hb : l[findN l p]? with
    | none => exact .inl ⟨rfl, rfl⟩
    | some y => rw [hb] at h1; cases h1
  | some r =>
    rw [ha] at h1
    cases hb : l[findN l p]? with
    | none => rw [hb] at h1; cases h1
    | some y =>
      rw [hb] at h1
      exact .inr ⟨r, y, rfl, rfl, Option.some.inj h1, h.len _ (aget_mem ha)⟩
/-- a change, as the document has it -/
def Chg.rc : Chg → RC
  | .written p r => (0, p, [], r.l)
  | .renamed a c => (1, a, c, [])
  | .removed p => (2, p, [], [])
def Chg.wl (c : Chg) : Prop := ∀ r, c.row = some r → r.n = r.l.length
theorem FSim.apl {fs : Files} {l : List FP} (h : FSim fs l) {c : Chg} (hc : c.wl) : FSim (apl fs c) (makeF l c.rc.1 c.rc.2.1 c.rc.2.2.1 c.rc.2.2.2) := by
  cases c with
  | written p r =>
    rw [makeF]
    exact h.put (hc r rfl)
  | renamed a b =>
    rw [makeF]
    simp only [Chg.rc, Go.Proofs.YtfikjheicjamhaaDoor.apl]
    rcases h.at a with ⟨h1, h2⟩ | ⟨r, x, h1, h2, h3, h4⟩
    · simp only [h1, h2]; exact h
    · simp only [h1, h2]
      rw [← h3]
      exact (h.del a).put h4
  | removed p =>
    rw [makeF]
    simp only [Chg.rc, Go.Proofs.YtfikjheicjamhaaDoor.apl]
    rcases h.at p with ⟨h1, h2⟩ | ⟨r, x, h1, h2, h3, h4⟩
    · simp only [h2]
      have e : adel fs p = fs := by
        have hk : ¬ p ∈ akeys fs := aget_none.1 h1
        clear h h2 h1
        induction fs with
        | nil => rfl
        | cons a q ih =>
          obtain ⟨k, u⟩ := a
          simp only [akeys, List.map_cons, List.mem_cons, not_or] at hk
          simp only [adel]
          rw [if_neg (fun e => hk.1 e.symm), ih hk.2]
      rw [if_neg (by decide), e]; exact h
    · simp only [h2]
      rw [if_neg (by decide)]
      exact h.del p
/-- a disk is the document's -/
structure DS (st : DSt) (d : RD) (k : Nat) : Prop where
  sim : DSim st d
  ok : DOk st k
  low : -1 ≤ d.pw
  lasts : FSim st.lasts d.lasts
  waits : st.waits.map Chg.rc = d.waits
  wlen : ∀ c ∈ st.waits, c.wl
theorem DS.le {st : DSt} {d : RD} {k k' : Nat} (h : DS st d k) (hk : k ≤ k') : DS st d k' := ⟨h.sim, h.ok.le hk, h.low, h.lasts, h.waits, h.wlen⟩
theorem DS.init {n : Int} {gs gl : Nat} (h : n ≤ 1048576) : DS (dinit n gs gl) (RD.new n) 0 :=
  ⟨⟨rfl, rfl, FSim.nil, rfl⟩, DOk.init h, Int.le_refl _, FSim.nil, rfl, fun c hc => by cases hc⟩
theorem lessP_low {p : Int} (h : -1 ≤ p) : -1 ≤ lessP p := by
  unfold lessP
  split <;> omega
theorem DS.did {st : DSt} {d : RD} {k : Nat} (h : DS st d k) {c : Chg} (hc : c.wl) {st1 : DSt} (hs : st1.room = st.room ∧ st1.lasts = st.lasts ∧ st1.power = st.spent.power ∧ st1.seen = apl st.seen c ∧ st1.waits = st.waits ++ [c]) (ok : DOk st1 (k + 1)) :
    DS st1 (d.did c.rc.1 c.rc.2.1 c.rc.2.2.1 c.rc.2.2.2) (k + 1) := by
  obtain ⟨h1, h2, h3, h4, h5⟩ := hs
  refine ⟨⟨h1.trans h.sim.room, ?_, ?_, ?_⟩, ok, lessP_low h.low, ?_, ?_, fun x hx => ?_⟩
  · rw [h3]
    show (if 0 < st.power then st.power - 1 else st.power) = lessP d.pw
    rw [h.sim.power]; rfl
  · rw [h4]; exact h.sim.files.apl hc
  · rw [h5, List.length_append, h.sim.waits]
    show _ = (d.waits ++ [_]).length
    rw [List.length_append]; rfl
  · rw [h2]; exact h.lasts
  · rw [h5, List.map_append, h.waits]; rfl
  · rw [h5] at hx
    rcases List.mem_append.1 hx with hx | hx
    · exact h.wlen x hx
    · rw [List.mem_singleton.1 hx]; exact hc
/-- behind a Write, of both -/
theorem DS.write {st st1 : DSt} {d : RD} {k n : Nat} (h : DS st d k) {p l : List UInt8} {B A : Option Addr} {c1 c2 : Nat} (hl : l.length = n) (hn : n ≤ 1048576)
    (hw : (writeE st p n ≠ 0 ∧ st1 = st) ∨ (writeE st p n = 0 ∧ st1 = st.wrote p ⟨B, n, c1, l⟩ A c2)) : DS st1 (d.write p l) (k + 1) ∧ d.writeE p l = writeE st p n := by
  subst hl
  have e := h.sim.writeE p l
  refine ⟨?_, e.symm⟩
  unfold RD.write
  rw [← e]
  rcases hw with ⟨h1, rfl⟩ | ⟨h1, rfl⟩
  · rw [if_neg h1]; exact h.le (Nat.le_succ _)
  · rw [if_pos h1]
    exact h.did (c := .written p ⟨B, l.length, c1, l⟩) (fun r hr => by cases hr; rfl) ⟨rfl, rfl, rfl, rfl, rfl⟩ (h.ok.wrote hn A c2)
theorem DS.readE {st : DSt} {d : RD} {k : Nat} (h : DS st d k) (p : List UInt8) : d.readE p = foundE st p := (h.sim.readE p).symm
theorem DS.readB {st : DSt} {d : RD} {k : Nat} (h : DS st d k) (p : List UInt8) : d.readB p = readB st p := (h.sim.readB p).symm
theorem DS.rename {st st1 : DSt} {d : RD} {k : Nat} (h : DS st d k) {a c : List UInt8} {A : Option Addr} {j : Nat}
    (hw : (renameE st a c ≠ 0 ∧ st1 = st) ∨ (renameE st a c = 0 ∧ st1 = st.did (.renamed a c) A j)) : DS st1 (d.rename a c) (k + 1) ∧ d.renameE a c = renameE st a c := by
  have e : d.renameE a c = renameE st a c := by
    unfold RD.renameE Go.Proofs.YtfikjheicjamhaaDoor.renameE
    rw [h.readE]
  refine ⟨?_, e⟩
  unfold RD.rename
  rw [e]
  rcases hw with ⟨h1, rfl⟩ | ⟨h1, rfl⟩
  · rw [if_neg h1]; exact h.le (Nat.le_succ _)
  · rw [if_pos h1]
    exact h.did (c := .renamed a c) (fun r hr => by cases hr) ⟨rfl, rfl, rfl, rfl, rfl⟩ (h.ok.did rfl A j)
theorem DS.sync {st st1 : DSt} {d : RD} {k gl : Nat} (h : DS st d k) (hw : (st.power = 0 ∧ st1 = st) ∨ (st.power ≠ 0 ∧ st1 = st.synced gl)) : DS st1 d.sync k ∧ d.syncE = syncE st := by
  have e : d.syncE = syncE st := by unfold RD.syncE Go.Proofs.YtfikjheicjamhaaDoor.syncE; rw [h.sim.power]
  refine ⟨?_, e⟩
  unfold RD.sync
  rw [← h.sim.power]
  rcases hw with ⟨h1, rfl⟩ | ⟨h1, rfl⟩
  · rw [if_pos h1]; exact h
  · rw [if_neg h1]
    refine ⟨⟨h.sim.room, ?_, h.sim.files, rfl⟩, h.ok.synced gl, ?_, h.sim.files, rfl, fun c hc => by cases hc⟩
    · rfl
    · rw [h.sim.power]; exact lessP_low h.low
theorem DS.power {st : DSt} {d : RD} {k : Nat} (h : DS st d k) {n : Int} (hn : n ≤ 1000000000000) : DS (st.powered n) (d.power n) k := by
  refine ⟨⟨h.sim.room, rfl, h.sim.files, h.sim.waits⟩, ⟨?_, h.ok.room, h.ok.seen, h.ok.rest, h.ok.small⟩, ?_, h.lasts, h.waits, h.wlen⟩
  · show max n (-1) ≤ _; omega
  · show -1 ≤ max n (-1); omega
theorem rstep_sim {ks : List Bool} {L : Files} {l : List FP} {c : Chg} (h : FSim L l) (hc : c.wl) : (rstep (ks, L) c).1 = (dstep (ks, l) c.rc).1 ∧ FSim (rstep (ks, L) c).2 (dstep (ks, l) c.rc).2 := by
  unfold rstep dstep
  by_cases hb : ks.headD false = true
  · rw [if_pos hb, if_pos hb]
    cases c with
    | written p r =>
      rw [if_pos (show (Chg.rc (.written p r)).1 = 0 from rfl)]
      refine ⟨rfl, ?_⟩
      have hr := hc r rfl
      by_cases hb2 : ks.tail.headD false = true
      · simp only [hb2, if_true]
        exact h.apl hc
      · simp only [hb2, if_false]
        have e : (Chg.written p r.half).rc = (0, p, [], r.l.take (r.l.length / 2)) := by simp [Chg.rc, BRow.half, hr]
        have := h.apl (c := .written p r.half) (fun x hx => by cases hx; simp [BRow.half]; omega)
        rw [e] at this
        exact this
    | renamed a b => exact ⟨rfl, h.apl hc⟩
    | removed p => exact ⟨rfl, h.apl hc⟩
  · rw [if_neg hb, if_neg hb]
    exact ⟨rfl, h⟩
theorem fold_sim : ∀ (cs : List Chg) {ks : List Bool} {L : Files} {l : List FP}, FSim L l → (∀ c ∈ cs, c.wl) → (cs.foldl rstep (ks, L)).1 = ((cs.map Chg.rc).foldl dstep (ks, l)).1 ∧ FSim (cs.foldl rstep (ks, L)).2 ((cs.map Chg.rc).foldl dstep (ks, l)).2
  | [], ks, L, l, h, hc => ⟨rfl, h⟩
  | c :: r, ks, L, l, h, hc => by
    obtain ⟨h1, h2⟩ := rstep_sim (ks := ks) h (hc c (List.mem_cons_self ..))
    have e : dstep (ks, l) c.rc = ((rstep (ks, L) c).1, (dstep (ks, l) c.rc).2) := by rw [h1]
    rw [List.map_cons, List.foldl_cons, List.foldl_cons, e]
    exact fold_sim r h2 (fun x hx => hc x (List.mem_cons_of_mem _ hx))
theorem DS.restart {st : DSt} {d : RD} {k : Nat} (h : DS st d k) (keep : List Bool) (gs : Nat) : DS (st.started keep gs) (d.restart keep) k := by
  have hf := (fold_sim st.waits (ks := keep) h.lasts h.wlen).2
  rw [h.waits] at hf
  have e1 : rfold keep st st.waits.length = st.waits.foldl rstep (keep, st.lasts) := by rw [rfold, List.take_of_length_le (Nat.le_refl _)]
  have e2 : dfold keep d d.waits.length = d.waits.foldl dstep (keep, d.lasts) := by rw [dfold, List.take_of_length_le (Nat.le_refl _)]
  rw [← e1, ← e2] at hf
  exact ⟨⟨h.sim.room, rfl, hf, rfl⟩, h.ok.started keep gs, by show -1 ≤ (-1 : Int); omega, hf, rfl, fun c hc => by cases hc⟩
/-- a disk of the document that some disk of the program could be -/
def RD.ok (d : RD) (k : Nat) : Prop := ∃ st, DS st d k
theorem RD.ok.le {d : RD} {k k' : Nat} (h : d.ok k) (hk : k ≤ k') : d.ok k' := by obtain ⟨st, h⟩ := h; exact ⟨st, h.le hk⟩
theorem RD.ok.new {n : Int} (h : n ≤ 1048576) : (RD.new n).ok 0 := ⟨dinit n 0 0, DS.init h⟩
theorem RD.ok.write {d : RD} {k : Nat} (h : d.ok k) {p l : List UInt8} (hl : l.length ≤ 1048576) : (d.write p l).ok (k + 1) := by
  obtain ⟨st, h⟩ := h
  by_cases he : Go.Proofs.YtfikjheicjamhaaDoor.writeE st p l.length = 0
  · exact ⟨_, (h.write (st1 := st.wrote p ⟨none, l.length, 0, l⟩ none 0) rfl hl (.inr ⟨he, rfl⟩)).1⟩
  · exact ⟨_, (h.write (B := none) (A := none) (c1 := 0) (c2 := 0) (st1 := st) rfl hl (.inl ⟨he, rfl⟩)).1⟩
theorem RD.ok.rename {d : RD} {k : Nat} (h : d.ok k) {a c : List UInt8} : (d.rename a c).ok (k + 1) := by
  obtain ⟨st, h⟩ := h
  by_cases he : Go.Proofs.YtfikjheicjamhaaDoor.renameE st a c = 0
  · exact ⟨_, (h.rename (st1 := st.did (.renamed a c) none 0) (.inr ⟨he, rfl⟩)).1⟩
  · exact ⟨_, (h.rename (A := none) (j := 0) (st1 := st) (.inl ⟨he, rfl⟩)).1⟩
theorem RD.ok.sync {d : RD} {k : Nat} (h : d.ok k) : d.sync.ok k := by
  obtain ⟨st, h⟩ := h
  by_cases he : st.power = 0
  · exact ⟨_, (h.sync (gl := 0) (st1 := st) (.inl ⟨he, rfl⟩)).1⟩
  · exact ⟨_, (h.sync (st1 := st.synced 0) (.inr ⟨he, rfl⟩)).1⟩
theorem RD.ok.power {d : RD} {k : Nat} (h : d.ok k) {n : Int} (hn : n ≤ 1000000000000) : (d.power n).ok k := by
  obtain ⟨st, h⟩ := h
  exact ⟨_, h.power hn⟩
theorem RD.ok.restart {d : RD} {k : Nat} (h : d.ok k) (keep : List Bool) : (d.restart keep).ok k := by
  obtain ⟨st, h⟩ := h
  exact ⟨_, h.restart keep 0⟩
end Go.Proofs.YtfikjheicjamhaaDoor
end
section
/- A journal's bytes, read: plain lists. No program. -/
set_option linter.unusedVariables false
set_option linter.unusedSimpArgs false
namespace Go.Hx
open Go.Eng
def chunks (k : Nat) (l : List UInt8) : List (List UInt8) := (List.range k).map fun i => (l.drop (32 * i)).take 32
/-- the number of four bytes, the lowest one first -/
def num4 (l : List UInt8) : Nat := (l.getD 0 0).toNat + 256 * (l.getD 1 0).toNat + 65536 * (l.getD 2 0).toNat + 16777216 * (l.getD 3 0).toNat
theorem num4_lt (l : List UInt8) : num4 l < 4294967296 := by
  have h0 := (l.getD 0 0).toNat_lt
  have h1 := (l.getD 1 0).toNat_lt
  have h2 := (l.getD 2 0).toNat_lt
  have h3 := (l.getD 3 0).toNat_lt
  unfold num4
  omega
theorem num4_le4 {n : Nat} (h : n < 4294967296) : num4 (le4 n) = n := by
  simp only [le4, num4, List.getD_cons_zero, List.getD_cons_succ, UInt8.toNat_ofNat']
  omega
end Go.Hx
end
section
/- The number of four bytes, read from the highest one down. No program. -/
set_option linter.unusedVariables false
namespace Go.Hx
open Go.Eng
/-- what is read of j bytes, the highest one first -/
def acc (l : List UInt8) : Nat → Nat
  | 0 => 0
  | j + 1 => acc l j * 256 + (l.getD (3 - j) 0).toNat
theorem acc_lt (l : List UInt8) : ∀ j, acc l j < 256 ^ j
  | 0 => by simp [acc]
  | j + 1 => by
    have h1 := acc_lt l j
    have h2 := (l.getD (3 - j) 0).toNat_lt
    rw [acc, Nat.pow_succ]
    omega
theorem acc_le (l : List UInt8) {j : Nat} (h : j ≤ 4) : acc l j < 4294967296 := by
  have h1 := acc_lt l j
  have h2 : 256 ^ j ≤ 256 ^ 4 := Nat.pow_le_pow_right (by decide) h
  have h3 : 256 ^ 4 = 4294967296 := by decide
  omega
theorem acc4 (l : List UInt8) : acc l 4 = num4 l := by
  have e : (3 - 0 = 3) ∧ (3 - 1 = 2) ∧ (3 - 2 = 1) ∧ (3 - 3 = 0) := by decide
  simp only [acc, num4, e.1, e.2.1, e.2.2.1, e.2.2.2]
  omega
theorem or_byte (a b : Nat) (ha : a < 4294967296) (hb : b < 256) : bits .or .i64 (a * 256 : Int) (b : Int) = ((a * 256 + b : Nat) : Int) := by
  have h1 : (a * 256 : Int) = ((a * 256 : Nat) : Int) := by simp
  have h2 : a * 256 ||| b = a * 256 + b := by rw [Nat.mul_comm a 256, show 256 = 2 ^ 8 from rfl, Nat.two_pow_add_eq_or_of_lt (by simpa using hb)]
  have e0 : ∀ n : Nat, n < 18446744073709551616 → (BitVec.ofInt 64 (n : Int)).toNat = n := fun n hn => by
    rw [BitVec.toNat_ofInt]
    simp
    omega
  rw [h1]
  show IntKind.i64.wrap ((BitVec.ofInt 64 ((a * 256 : Nat) : Int) ||| BitVec.ofInt 64 (b : Int)).toNat : Int) = _
  rw [BitVec.toNat_or, e0 _ (by omega), e0 _ (by omega), h2]
  exact w64 (by omega) (by omega)
end Go.Hx
end
section
/- Bytes in fewer (layer 5), over plain lists: tokens, what they make. No program. -/
set_option linter.unusedVariables false
set_option linter.unusedSimpArgs false
namespace Go.Hx
open Go.Eng
/-- the first token: how many bytes it has, how many it makes, its distance (0: literal ones); false: it ends too soon -/
def tokL (l : List UInt8) : Nat × Nat × Nat × Bool :=
  if (l.getD 0 0).toNat < 128 then ((l.getD 0 0).toNat + 2, (l.getD 0 0).toNat + 1, 0, decide ((l.getD 0 0).toNat + 2 ≤ l.length))
  else if l.length < 3 then (0, 0, 0, false) else (3, (l.getD 0 0).toNat - 124, 1 + (l.getD 1 0).toNat + 256 * (l.getD 2 0).toNat, true)
/-- bytes once more -/
def again (d : Nat) : Nat → List UInt8 → List UInt8
  | 0, o => o
  | k + 1, o => again d k (o ++ [o.getD (o.length - d) 0])
theorem again_length (d : Nat) : ∀ (k : Nat) (o : List UInt8), (again d k o).length = o.length + k
  | 0, o => rfl
  | k + 1, o => by rw [again, again_length d k]; simp; omega
theorem tokL_size {l : List UInt8} (h : (tokL l).2.2.2 = true) : 2 ≤ (tokL l).1 ∧ (tokL l).1 ≤ l.length := by
  unfold tokL at h ⊢
  split at h
  · rename_i h1
    rw [if_pos h1]
    have := of_decide_eq_true h
    exact ⟨by show 2 ≤ _ + 2; omega, this⟩
  · rename_i h1
    rw [if_neg h1]
    split at h
    · cases h
    · rename_i h2
      rw [if_neg h2]
      exact ⟨by show 2 ≤ 3; decide, by show 3 ≤ _; omega⟩
theorem tokL_n (l : List UInt8) : (tokL l).2.1 ≤ 131 ∧ (tokL l).2.2.1 ≤ 65536 := by
  have h0 := (l.getD 0 0).toNat_lt
  have h1 := (l.getD 1 0).toNat_lt
  have h2 := (l.getD 2 0).toNat_lt
  unfold tokL
  split
  · exact ⟨by show _ + 1 ≤ _; omega, by show 0 ≤ _; omega⟩
  · split
    · exact ⟨by show 0 ≤ _; omega, by show 0 ≤ _; omega⟩
    · exact ⟨by show _ - 124 ≤ _; omega, by show 1 + _ + 256 * _ ≤ _; omega⟩
/-- what a token makes -/
def made (l o : List UInt8) : List UInt8 := if (tokL l).2.2.1 = 0 then o ++ (l.drop 1).take ((tokL l).1 - 1) else again (tokL l).2.2.1 (tokL l).2.1 o
/-- bytes as they were, or why not -/
def unp (most : Int) (l o : List UInt8) : List UInt8 × Int :=
  if h0 : l = [] then (o, 0)
  else if h1 : (tokL l).2.2.2 = true then
    if o.length < (tokL l).2.2.1 then ([], 2) else if most < (o.length : Int) + ((tokL l).2.1 : Nat) then ([], 3) else unp most (l.drop (tokL l).1) (made l o)
  else ([], 2)
termination_by l.length
decreasing_by
  obtain ⟨h2, h3⟩ := tokL_size h1
  rw [List.length_drop]
  omega
theorem unp_nil (most : Int) (o : List UInt8) : unp most [] o = (o, 0) := by
  rw [unp]
  rfl
theorem unp_bad {most : Int} {l o : List UInt8} (h0 : l ≠ []) (h : ¬ ((tokL l).2.2.2 = true ∧ (tokL l).2.2.1 ≤ o.length)) : unp most l o = ([], 2) := by
  rw [unp, dif_neg h0]
  split
  · rename_i h1
    rw [if_pos (Nat.lt_of_not_le fun h2 => h ⟨h1, h2⟩)]
  · rfl
theorem unp_far {most : Int} {l o : List UInt8} (h0 : l ≠ []) (h1 : (tokL l).2.2.2 = true) (h2 : (tokL l).2.2.1 ≤ o.length) (h3 : most < (o.length : Int) + ((tokL l).2.1 : Nat)) : unp most l o = ([], 3) := by
  rw [unp, dif_neg h0, dif_pos h1, if_neg (by omega), if_pos h3]
theorem unp_go {most : Int} {l o : List UInt8} (h0 : l ≠ []) (h1 : (tokL l).2.2.2 = true) (h2 : (tokL l).2.2.1 ≤ o.length) (h3 : ¬ most < (o.length : Int) + ((tokL l).2.1 : Nat)) : unp most l o = unp most (l.drop (tokL l).1) (made l o) := by
  rw [unp, dif_neg h0, dif_pos h1, if_neg (by omega), if_neg h3]
theorem made_length {l o : List UInt8} (h1 : (tokL l).2.2.2 = true) : (made l o).length = o.length + (tokL l).2.1 := by
  unfold made
  split
  · rename_i h0
    obtain ⟨h2, h3⟩ := tokL_size h1
    have e : (tokL l).1 - 1 = (tokL l).2.1 := by
      unfold tokL at h0 h1 ⊢
      split
      · show _ + 2 - 1 = _ + 1; omega
      · split
        · rename_i a1 a2; rw [if_neg a1, if_pos a2] at h1; cases h1
        · rename_i a1 a2; rw [if_neg a1, if_neg a2] at h0; simp at h0
    rw [List.length_append, List.length_take, List.length_drop, e]
    omega
  · exact again_length _ _ _
end Go.Hx
end
section
/- Bytes in fewer (layer 5), over plain lists: matches, packing, and back. No program. -/
set_option linter.unusedVariables false
set_option linter.unusedSimpArgs false
namespace Go.Hx
open Go.Eng
/-- how many bytes from i on are those from k on, 131 at most -/
def lngF (b : List UInt8) (i k : Nat) : Nat → Nat → Nat
  | 0, n => n
  | f + 1, n => if i + n < b.length ∧ b.getD (i + n) 0 = b.getD (k + n) 0 then lngF b i k f (n + 1) else n
def lng (b : List UInt8) (i k : Nat) : Nat := lngF b i k 131 0
theorem lngF_bounds (b : List UInt8) (i k : Nat) : ∀ f n, n ≤ lngF b i k f n ∧ lngF b i k f n ≤ n + f ∧ (i + n ≤ b.length → i + lngF b i k f n ≤ b.length) ∧ ∀ j, n ≤ j → j < lngF b i k f n → b.getD (i + j) 0 = b.getD (k + j) 0
  | 0, n => ⟨Nat.le_refl _, Nat.le_refl _, fun h => h, fun j h1 h2 => by simp only [lngF] at h2; omega⟩
  | f + 1, n => by
    unfold lngF
    split
    · rename_i h
      obtain ⟨h1, h2, h3, h4⟩ := lngF_bounds b i k f (n + 1)
      refine ⟨by omega, by omega, fun _ => h3 (by omega), fun j hj hj2 => ?_⟩
      rcases Nat.eq_or_lt_of_le hj with e | e
      · rw [← e]; exact h.2
      · exact h4 j e hj2
    · exact ⟨Nat.le_refl _, by omega, fun h => h, fun j h1 h2 => by omega⟩
theorem lng_le (b : List UInt8) (i k : Nat) : lng b i k ≤ 131 := by have := (lngF_bounds b i k 131 0).2.1; unfold lng; omega
theorem lng_in {b : List UInt8} {i : Nat} (k : Nat) (h : i ≤ b.length) : i + lng b i k ≤ b.length := (lngF_bounds b i k 131 0).2.2.1 (by omega)
theorem lng_eq {b : List UInt8} {i k j : Nat} (h : j < lng b i k) : b.getD (i + j) 0 = b.getD (k + j) 0 := (lngF_bounds b i k 131 0).2.2.2 j (Nat.zero_le _) h
theorem lngF_stop {b : List UInt8} {i k f n : Nat} (h : ¬ (i + n < b.length ∧ b.getD (i + n) 0 = b.getD (k + n) 0)) : lngF b i k f n = n := by
  cases f with
  | zero => rfl
  | succ f => rw [lngF, if_neg h]
theorem lngF_more {b : List UInt8} {i k f n : Nat} (hf : 0 < f) (h : i + n < b.length ∧ b.getD (i + n) 0 = b.getD (k + n) 0) : lngF b i k f n = lngF b i k (f - 1) (n + 1) := by
  cases f with
  | zero => omega
  | succ f => rw [lngF, if_pos h]; rfl
/-- four bytes -/
def key4 (b : List UInt8) (p : Nat) : List UInt8 := (b.drop p).take 4
theorem key4_length {b : List UInt8} {p : Nat} (h : p + 4 ≤ b.length) : (key4 b p).length = 4 := by unfold key4; rw [List.length_take, List.length_drop]; omega
theorem key4_eq {b : List UInt8} {i p : Nat} (hi : i + 4 ≤ b.length) (hp : p < i) : key4 b p = key4 b i ↔ 3 < lng b i p := by
  have e : ∀ q, q + 4 ≤ b.length → key4 b q = [b.getD (q + 0) 0, b.getD (q + 1) 0, b.getD (q + 2) 0, b.getD (q + 3) 0] := by
    intro q hq
    apply List.ext_getElem?
    intro j
    unfold key4
    rw [List.getElem?_take, List.getElem?_drop]
    rcases j with _ | _ | _ | _ | j
    all_goals simp
    all_goals (try (rw [List.getElem?_eq_getElem (by omega)]; rfl))
    all_goals (try (intro h; omega))
  rw [e p (by omega), e i hi]
  constructor
  · intro h
    simp only [List.cons.injEq, and_true] at h
    have e0 : lng b i p = lngF b i p 127 4 := by
      unfold lng
      rw [lngF_more (by decide) ⟨by omega, h.1.symm⟩, lngF_more (by decide) ⟨by omega, h.2.1.symm⟩, lngF_more (by decide) ⟨by omega, h.2.2.1.symm⟩, lngF_more (by decide) ⟨by omega, h.2.2.2.symm⟩]
    rw [e0]
    exact (lngF_bounds b i p 127 4).1
  · intro h
    simp only [List.cons.injEq, and_true]
    exact ⟨(lng_eq (by omega)).symm, (lng_eq (by omega)).symm, (lng_eq (by omega)).symm, (lng_eq (by omega)).symm⟩
/-- one distance more -/
def mstep (b : List UInt8) (i : Nat) (s : Nat × Nat) (d : Nat) : Nat × Nat := if 3 < lng b i (i - d) ∧ s.1 < lng b i (i - d) then (lng b i (i - d), d) else s
def matchK (b : List UInt8) (i k : Nat) : Nat × Nat := (List.range' 1 k).foldl (mstep b i) (0, 0)
theorem matchK_succ (b : List UInt8) (i k : Nat) : matchK b i (k + 1) = mstep b i (matchK b i k) (k + 1) := by
  unfold matchK
  rw [List.range'_concat, List.foldl_append]
  simp [Nat.add_comm]
/-- the match at a place: its length, its distance -/
def matchL (b : List UInt8) (i : Nat) : Nat × Nat := matchK b i (min i 1024)
/-- one place more, from behind -/
def pstep (b : List UInt8) (i : Nat) (s : Nat × Nat) (p : Nat) : Nat × Nat := if 1024 < i - p then s else if s.1 < lng b i p then (lng b i p, i - p) else s
/-- the places ahead that have these four bytes -/
def posL (b : List UInt8) (n : Nat) (k : List UInt8) : List Nat := (List.range n).filter fun p => decide (key4 b p = k)
theorem posL_succ (b : List UInt8) (n : Nat) (k : List UInt8) : posL b (n + 1) k = posL b n k ++ if key4 b n = k then [n] else [] := by
  unfold posL
  rw [List.range_succ, List.filter_append]
  congr 1
  by_cases h : key4 b n = k <;> simp [h]
theorem posL_lt {b : List UInt8} {n p : Nat} {k : List UInt8} (h : p ∈ posL b n k) : p < n ∧ key4 b p = k := by
  unfold posL at h
  simpa using h
theorem posL_length (b : List UInt8) (n : Nat) (k : List UInt8) : (posL b n k).length ≤ n := by
  unfold posL
  exact Nat.le_trans (List.length_filter_le _ _) (by simp)
theorem rev_range (i : Nat) : (List.range i).reverse = (List.range' 1 i).map fun d => i - d := by
  apply List.ext_getElem
  · simp
  · intro j h1 h2
    simp
    omega
theorem foldl_skip {α β : Type} (f : β → α → β) (s : β) : ∀ (l : List α), (∀ x ∈ l, ∀ t, f t x = t) → l.foldl f s = s
  | [], _ => rfl
  | x :: l, h => by
    rw [List.foldl_cons, h x (by simp) s]
    exact foldl_skip f s l (fun y hy => h y (List.mem_cons_of_mem _ hy))
theorem match_eq {b : List UInt8} {i : Nat} (hi : i + 4 ≤ b.length) : (posL b i (key4 b i)).reverse.foldl (pstep b i) (0, 0) = matchL b i := by
  unfold posL matchL
  rw [← List.filter_reverse, rev_range, List.filter_map, List.foldl_map, List.foldl_filter]
  have h1 : ∀ (l : List Nat) (s : Nat × Nat), (∀ d ∈ l, 1 ≤ d ∧ d ≤ i) → l.foldl (fun s d => if ((fun p => decide (key4 b p = key4 b i)) ∘ fun d => i - d) d = true then pstep b i s (i - d) else s) s = l.foldl (fun s d => if 1024 < d then s else mstep b i s d) s := by
    intro l
    induction l with
    | nil => intro s _; rfl
    | cons d l ih =>
      intro s hd
      simp only [List.foldl_cons]
      rw [ih _ (fun x hx => hd x (List.mem_cons_of_mem _ hx))]
      congr 1
      obtain ⟨hd1, hd2⟩ := hd d (by simp)
      have e := key4_eq (p := i - d) hi (by omega)
      simp only [Function.comp_apply, decide_eq_true_eq]
      unfold pstep mstep
      rw [show i - (i - d) = d by omega]
      by_cases hk : key4 b (i - d) = key4 b i
      · rw [if_pos hk]
        have := e.1 hk
        split
        · rfl
        · by_cases h : s.1 < lng b i (i - d)
          · rw [if_pos h, if_pos ⟨this, h⟩]
          · rw [if_neg h, if_neg (fun q => h q.2)]
      · rw [if_neg hk]
        split
        · rfl
        · rw [if_neg (fun q => hk (e.2 q.1))]
  rw [h1 _ _ (fun d hd => by simp at hd; omega)]
  have h2 : List.range' 1 i = List.range' 1 (min i 1024) ++ List.range' (1 + min i 1024) (i - min i 1024) := by
    rw [List.range'_append_1]
    congr 1
    omega
  rw [h2, List.foldl_append, foldl_skip _ _ (List.range' (1 + min i 1024) (i - min i 1024))]
  · unfold matchK
    have h3 : ∀ (l : List Nat) (s : Nat × Nat), (∀ d ∈ l, d ≤ 1024) → l.foldl (fun s d => if 1024 < d then s else mstep b i s d) s = l.foldl (mstep b i) s := by
      intro l
      induction l with
      | nil => intro s _; rfl
      | cons d l ih =>
        intro s hd
        simp only [List.foldl_cons]
        rw [if_neg (by have := hd d (by simp); omega)]
        exact ih _ (fun x hx => hd x (List.mem_cons_of_mem _ hx))
    exact h3 _ _ (fun d hd => by simp at hd; omega)
  · intro d hd t
    simp at hd
    rw [if_pos (by omega)]
theorem posL_sorted (b : List UInt8) (n : Nat) (k : List UInt8) : (posL b n k).Pairwise (· < ·) := (List.pairwise_lt_range).filter _
theorem match_brk {b : List UInt8} {i n x : Nat} {k : List UInt8} {pre rest : List Nat} {s : Nat × Nat} (h : (posL b n k).reverse = pre ++ x :: rest) (hx : 1024 < i - x) : (posL b n k).reverse.foldl (pstep b i) s = pre.foldl (pstep b i) s := by
  have hs : (pre ++ x :: rest).Pairwise (· > ·) := by
    rw [← h, List.pairwise_reverse]
    exact posL_sorted b n k
  rw [h, List.foldl_append]
  refine foldl_skip _ _ _ fun y hy t => ?_
  have h1 := (List.pairwise_cons.1 (List.pairwise_append.1 hs).2.1).1
  unfold pstep
  rw [if_pos]
  rcases List.mem_cons.1 hy with rfl | hy
  · exact hx
  · have := h1 y hy
    omega
theorem match_short {b : List UInt8} {i : Nat} (hi : i ≤ b.length) (h : b.length < i + 4) : matchL b i = (0, 0) := by
  unfold matchL matchK
  refine foldl_skip _ _ _ fun d hd t => ?_
  unfold mstep
  rw [if_neg]
  intro q
  have := lng_in (i - d) hi
  omega
/-- what a match tells -/
theorem matchK_ok (b : List UInt8) (i : Nat) (hi : i ≤ b.length) : ∀ k, k ≤ i → (matchK b i k = (0, 0)) ∨ (4 ≤ (matchK b i k).1 ∧ (matchK b i k).1 ≤ 131 ∧ 1 ≤ (matchK b i k).2 ∧ (matchK b i k).2 ≤ k ∧ i + (matchK b i k).1 ≤ b.length ∧ (matchK b i k).1 = lng b i (i - (matchK b i k).2))
  | 0, _ => .inl rfl
  | k + 1, hk => by
    rw [matchK_succ]
    unfold mstep
    split
    · rename_i h
      exact .inr ⟨by show 4 ≤ lng _ _ _; omega, lng_le _ _ _, by show 1 ≤ k + 1; omega, Nat.le_refl _, lng_in _ hi, rfl⟩
    · rcases matchK_ok b i hi k (by omega) with h | h
      · exact .inl h
      · exact .inr ⟨h.1, h.2.1, h.2.2.1, by omega, h.2.2.2.2.1, h.2.2.2.2.2⟩
theorem matchL_ok {b : List UInt8} {i : Nat} (hi : i ≤ b.length) : (matchL b i = (0, 0)) ∨ (4 ≤ (matchL b i).1 ∧ (matchL b i).1 ≤ 131 ∧ 1 ≤ (matchL b i).2 ∧ (matchL b i).2 ≤ min i 1024 ∧ i + (matchL b i).1 ≤ b.length ∧ (matchL b i).1 = lng b i (i - (matchL b i).2)) := matchK_ok b i hi _ (by omega)
/-- literal bytes as tokens -/
def litL (l : List UInt8) : List UInt8 := if h : l = [] then [] else UInt8.ofNat (min l.length 128 - 1) :: l.take 128 ++ litL (l.drop 128)
termination_by l.length
decreasing_by
  have := List.length_pos_iff.2 h
  rw [List.length_drop]
  omega
theorem litL_nil : litL [] = [] := by rw [litL]; rfl
theorem litL_cons {l : List UInt8} (h : l ≠ []) : litL l = UInt8.ofNat (min l.length 128 - 1) :: l.take 128 ++ litL (l.drop 128) := by rw [litL, dif_neg h]
theorem litL_length (l : List UInt8) : (litL l).length ≤ 2 * l.length := by
  by_cases h : l = []
  · subst h; rw [litL_nil]; simp
  · have hp := List.length_pos_iff.2 h
    have hd : (l.drop 128).length = l.length - 128 := List.length_drop
    have := litL_length (l.drop 128)
    rw [litL_cons h]
    simp only [List.length_append, List.length_cons, List.length_take]
    omega
termination_by l.length
decreasing_by
  rw [List.length_drop]
  have := List.length_pos_iff.2 h
  omega
/-- a match as a token -/
def tokM (m : Nat × Nat) : List UInt8 := [UInt8.ofNat (124 + m.1), UInt8.ofNat (m.2 - 1), UInt8.ofNat ((m.2 - 1) / 256)]
def packF (b : List UInt8) (i : Nat) (own out : List UInt8) : List UInt8 :=
  if h : i < b.length then
    if h0 : (matchL b i).1 = 0 then packF b (i + 1) (own ++ [b.getD i 0]) out
    else packF b (i + (matchL b i).1) [] (out ++ litL own ++ tokM (matchL b i))
  else out ++ litL own
termination_by b.length - i
def packL (b : List UInt8) : List UInt8 := packF b 0 [] []
theorem packF_end {b own out : List UInt8} {i : Nat} (h : ¬ i < b.length) : packF b i own out = out ++ litL own := by rw [packF, dif_neg h]
theorem packF_own {b own out : List UInt8} {i : Nat} (h : i < b.length) (h0 : (matchL b i).1 = 0) : packF b i own out = packF b (i + 1) (own ++ [b.getD i 0]) out := by rw [packF, dif_pos h, dif_pos h0]
theorem packF_match {b own out : List UInt8} {i : Nat} (h : i < b.length) (h0 : (matchL b i).1 ≠ 0) : packF b i own out = packF b (i + (matchL b i).1) [] (out ++ litL own ++ tokM (matchL b i)) := by rw [packF, dif_pos h, dif_neg h0]
theorem packF_length : ∀ (b : List UInt8) (i : Nat) (own out : List UInt8), i ≤ b.length → out.length + 2 * own.length ≤ 2 * i → (packF b i own out).length ≤ 2 * b.length
  | b, i, own, out, hi, h => by
    by_cases hlt : i < b.length
    · by_cases h0 : (matchL b i).1 = 0
      · rw [packF_own hlt h0]
        exact packF_length b (i + 1) _ _ (by omega) (by simp; omega)
      · rw [packF_match hlt h0]
        rcases matchL_ok hi with hm | hm
        · rw [hm] at h0; exact absurd rfl h0
        · have := litL_length own
          exact packF_length b _ _ _ (by omega) (by simp [tokM]; omega)
    · rw [packF_end hlt, List.length_append]
      have := litL_length own
      omega
termination_by b i => b.length - i
theorem packL_length (b : List UInt8) : (packL b).length ≤ 2 * b.length := packF_length b 0 [] [] (Nat.zero_le _) (by simp)
/-! ### back -/
theorem tok_lit {k : Nat} {l r : List UInt8} (hk : k < 128) (hl : l.length = k + 1) : tokL (UInt8.ofNat k :: (l ++ r)) = (k + 2, k + 1, 0, true) := by
  have e : (UInt8.ofNat k).toNat = k := by rw [UInt8.toNat_ofNat', Nat.mod_eq_of_lt (by omega)]
  unfold tokL
  rw [List.getD_cons_zero, e, if_pos hk]
  simp only [List.length_cons, List.length_append, hl]
  congr 3
  exact decide_eq_true (by omega)
theorem unp_lits {most : Int} (l r o : List UInt8) (hm : (o.length : Int) + l.length ≤ most) : unp most (litL l ++ r) o = unp most r (o ++ l) := by
  by_cases h : l = []
  · subst h; rw [litL_nil]; simp
  · have hp := List.length_pos_iff.2 h
    have hk : min l.length 128 - 1 < 128 := by omega
    have htl : (l.take 128).length = (min l.length 128 - 1) + 1 := by rw [List.length_take]; omega
    have hsp : l.take 128 ++ l.drop 128 = l := List.take_append_drop 128 l
    have hlen : l.length = (l.take 128).length + (l.drop 128).length := by rw [← List.length_append, hsp]
    rw [litL_cons h, List.append_assoc, List.cons_append]
    have ht := tok_lit (r := litL (l.drop 128) ++ r) hk htl
    rw [unp_go (by simp) (by rw [ht]) (by rw [ht]; exact Nat.zero_le _) (by rw [ht]; simp only; omega)]
    have hmd : made (UInt8.ofNat (min l.length 128 - 1) :: (l.take 128 ++ (litL (l.drop 128) ++ r))) o = o ++ l.take 128 := by
      unfold made
      rw [ht, if_pos rfl]
      simp only [List.drop_succ_cons, List.drop_zero]
      rw [List.take_append_of_le_length (by omega), List.take_of_length_le (by omega)]
    rw [hmd, ht]
    have hdr : (UInt8.ofNat (min l.length 128 - 1) :: (l.take 128 ++ (litL (l.drop 128) ++ r))).drop (min l.length 128 - 1 + 2) = litL (l.drop 128) ++ r := by
      rw [show min l.length 128 - 1 + 2 = (l.take 128).length + 1 by omega, List.drop_succ_cons, List.drop_left]
    simp only
    rw [hdr, unp_lits (l.drop 128) r (o ++ l.take 128) (by rw [List.length_append]; omega), List.append_assoc, hsp]
termination_by l.length
decreasing_by
  rw [List.length_drop]
  have := List.length_pos_iff.2 h
  omega
theorem again_match {b : List UInt8} {i d : Nat} (hd : 1 ≤ d) (hdi : d ≤ i) : ∀ (n k : Nat), i + k + n ≤ b.length → (∀ j, k ≤ j → j < k + n → b.getD (i + j) 0 = b.getD (i - d + j) 0) → again d n (b.take (i + k)) = b.take (i + k + n)
  | 0, k, _, _ => rfl
  | n + 1, k, hb, h => by
    have hl : (b.take (i + k)).length = i + k := by rw [List.length_take]; omega
    rw [again, hl]
    have e : (b.take (i + k)).getD (i + k - d) 0 = b.getD (i + k) 0 := by
      rw [h k (Nat.le_refl _) (by omega)]
      rw [List.getD_eq_getElem?_getD, List.getElem?_take, if_pos (by omega), ← List.getD_eq_getElem?_getD]
      congr 1
      omega
    rw [e]
    have e2 : b.take (i + k) ++ [b.getD (i + k) 0] = b.take (i + (k + 1)) := by
      rw [show i + (k + 1) = (i + k) + 1 by omega, take_snoc (by omega)]
    rw [e2, again_match hd hdi n (k + 1) (by omega) (fun j h1 h2 => h j (by omega) (by omega))]
    congr 1
    omega
theorem tok_match {m : Nat × Nat} {r : List UInt8} (h1 : 4 ≤ m.1) (h2 : m.1 ≤ 131) (h3 : 1 ≤ m.2) (h4 : m.2 ≤ 1024) : tokL (tokM m ++ r) = (3, m.1, m.2, true) := by
  have e0 : (UInt8.ofNat (124 + m.1)).toNat = 124 + m.1 := by rw [UInt8.toNat_ofNat', Nat.mod_eq_of_lt (by omega)]
  have e1 : (UInt8.ofNat (m.2 - 1)).toNat = (m.2 - 1) % 256 := UInt8.toNat_ofNat'
  have e2 : (UInt8.ofNat ((m.2 - 1) / 256)).toNat = (m.2 - 1) / 256 := by rw [UInt8.toNat_ofNat', Nat.mod_eq_of_lt (by omega)]
  unfold tokL tokM
  simp only [List.cons_append, List.nil_append, List.getD_cons_zero, List.getD_cons_succ, List.length_cons, e0, e1, e2]
  rw [if_neg (by omega), if_neg (by omega)]
  simp only [Prod.mk.injEq, true_and, and_true]
  omega
theorem unp_packF {most : Int} : ∀ (b : List UInt8) (i : Nat) (own out o : List UInt8), (b.length : Int) ≤ most → i ≤ b.length → o ++ own = b.take i → (∀ r, unp most (out ++ r) [] = unp most r o) → unp most (packF b i own out) [] = (b, 0)
  | b, i, own, out, o, hm, hi, hown, hout => by
    have hol : o.length + own.length = i := by
      have := congrArg List.length hown
      rw [List.length_append, List.length_take] at this
      omega
    by_cases hlt : i < b.length
    · by_cases h0 : (matchL b i).1 = 0
      · rw [packF_own hlt h0]
        refine unp_packF b (i + 1) _ _ o hm (by omega) ?_ hout
        rw [← List.append_assoc, hown, take_snoc hlt]
      · rw [packF_match hlt h0]
        rcases matchL_ok hi with hk | ⟨m1, m2, m3, m4, m5, m6⟩
        · rw [hk] at h0; exact absurd rfl h0
        · have hd1 : (matchL b i).2 ≤ i := by omega
          have hd2 : (matchL b i).2 ≤ 1024 := by omega
          refine unp_packF b _ _ _ (b.take (i + (matchL b i).1)) hm m5 (by simp) fun r => ?_
          rw [List.append_assoc, List.append_assoc, hout, unp_lits _ _ _ (by omega), hown]
          have ht := tok_match (r := r) m1 m2 m3 hd2
          have hl : (b.take i).length = i := by rw [List.length_take]; omega
          rw [unp_go (by simp [tokM]) (by rw [ht]) (by rw [ht, hl]; exact hd1) (by rw [ht, hl]; simp only; omega)]
          rw [ht]
          have hdr : (tokM (matchL b i) ++ r).drop 3 = r := rfl
          simp only
          rw [hdr]
          congr 1
          unfold made
          rw [ht, if_neg (by simp only; omega)]
          have := again_match (b := b) (i := i) m3 hd1 (matchL b i).1 0 (by omega) (fun j _ hj => lng_eq (by omega))
          exact this
    · rw [packF_end hlt, hout]
      have := unp_lits (most := most) own [] o (by omega)
      rw [List.append_nil] at this
      rw [this, unp_nil, hown, List.take_of_length_le (by omega)]
termination_by b i => b.length - i
theorem unp_packL {b : List UInt8} {most : Int} (h : (b.length : Int) ≤ most) : unp most (packL b) [] = (b, 0) := unp_packF b 0 [] [] [] h (Nat.zero_le _) rfl (fun r => rfl)
/-! ### as the document says -/
end Go.Hx
end
section
/- Frames (layer 6), over plain lists. No program. -/
set_option linter.unusedVariables false
set_option linter.unusedSimpArgs false
namespace Go.Hx
open Go.Eng
/-- is it packed? -/
def pkd (b : List UInt8) : Bool := decide ((packL b).length < b.length)
def fbody (b : List UInt8) : List UInt8 := if pkd b then packL b else b
/-- bytes' frame -/
def sealL (b : List UInt8) : List UInt8 := [76, if pkd b then 1 else 0] ++ le4 b.length ++ fbody b ++ le4 (crcSum b)
theorem fbody_length (b : List UInt8) : (fbody b).length ≤ b.length := by
  unfold fbody pkd
  split
  · rename_i h; have := of_decide_eq_true h; omega
  · exact Nat.le_refl _
theorem sealL_length (b : List UInt8) : (sealL b).length = (fbody b).length + 10 := by simp [sealL, le4_length]; omega
theorem sealL_le (b : List UInt8) : 10 ≤ (sealL b).length ∧ (sealL b).length ≤ b.length + 10 := by
  have := fbody_length b
  rw [sealL_length]
  omega
/-- how many bytes a frame tells -/
def lenF (f : List UInt8) : Option Nat := if f.length < 10 ∨ f.getD 0 0 ≠ 76 ∨ 1 < (f.getD 1 0).toNat then none else some (num4 (f.drop 2))
def bodyF (f : List UInt8) : List UInt8 := (f.drop 6).take (f.length - 10)
/-- what is unpacked -/
def unF (f : List UInt8) (n : Nat) : List UInt8 × Int := if f.getD 1 0 = 1 then unp n (bodyF f) [] else (bodyF f, 0)
def openN (f : List UInt8) (n : Nat) : List UInt8 × Int :=
  if (unF f n).2 ≠ 0 then ([], 2) else if (unF f n).1.length ≠ n then ([], 2) else if le4 (crcSum (unF f n).1) ≠ f.drop (f.length - 4) then ([], 7) else ((unF f n).1, 0)
/-- a frame's bytes, or why not -/
def openL (f : List UInt8) (most : Int) : List UInt8 × Int :=
  match lenF f with
  | none => ([], 2)
  | some n => if most < n then ([], 3) else openN f n
theorem unp_length {most : Int} : ∀ (l o : List UInt8), (o.length : Int) ≤ most → (((unp most l o).1.length : Int) ≤ most ∨ (unp most l o).1 = []) ∧ ((unp most l o).2 = 0 ∨ (unp most l o).2 = 2 ∨ (unp most l o).2 = 3) ∧ ((unp most l o).2 ≠ 0 → (unp most l o).1 = [])
  | l, o, hm => by
    by_cases h0 : l = []
    · subst h0; rw [unp_nil]; exact ⟨.inl hm, .inl rfl, fun h => absurd rfl h⟩
    · by_cases h1 : (tokL l).2.2.2 = true ∧ (tokL l).2.2.1 ≤ o.length
      · by_cases h2 : most < (o.length : Int) + ((tokL l).2.1 : Nat)
        · rw [unp_far h0 h1.1 h1.2 h2]; exact ⟨.inr rfl, .inr (.inr rfl), fun _ => rfl⟩
        · rw [unp_go h0 h1.1 h1.2 h2]
          exact unp_length _ _ (by rw [made_length h1.1]; omega)
      · rw [unp_bad h0 h1]; exact ⟨.inr rfl, .inr (.inl rfl), fun _ => rfl⟩
termination_by l => l.length
decreasing_by
  obtain ⟨h2, h3⟩ := tokL_size h1.1
  rw [List.length_drop]
  omega
theorem openN_ok {f : List UInt8} {n : Nat} (h : (openN f n).2 = 0) : (openN f n).1.length = n := by
  unfold openN at h ⊢
  split at h
  · cases h
  · rename_i h1
    rw [if_neg h1]
    split at h
    · cases h
    · rename_i h2
      rw [if_neg h2]
      split at h
      · cases h
      · rename_i h3
        rw [if_neg h3]
        exact Decidable.not_not.1 h2
theorem openN_bad {f : List UInt8} {n : Nat} (h : (openN f n).2 ≠ 0) : (openN f n).1 = [] := by
  unfold openN at h ⊢
  split at h
  · rename_i h1; rw [if_pos h1]
  · rename_i h1
    rw [if_neg h1]
    split at h
    · rename_i h2; rw [if_pos h2]
    · rename_i h2
      rw [if_neg h2]
      split at h
      · rename_i h3; rw [if_pos h3]
      · exact absurd rfl h
theorem openL_bad {f : List UInt8} {most : Int} (h : (openL f most).2 ≠ 0) : (openL f most).1 = [] := by
  unfold openL at h ⊢
  split at h
  · rfl
  · rename_i n hn
    split at h
    · rename_i h1; rw [if_pos h1]
    · rename_i h1; rw [if_neg h1]; exact openN_bad h
theorem openL_ok {f : List UInt8} {most : Int} (h : (openL f most).2 = 0) : ((openL f most).1.length : Int) ≤ most := by
  unfold openL at h ⊢
  split at h
  · cases h
  · rename_i n hn
    split at h
    · cases h
    · rename_i h1; rw [if_neg h1, openN_ok h]; omega
theorem openL_len {f : List UInt8} {most : Int} (hm : 0 ≤ most) : ((openL f most).1.length : Int) ≤ most := by
  by_cases h : (openL f most).2 = 0
  · exact openL_ok h
  · rw [openL_bad h]; simpa using hm
theorem seal_parts (b : List UInt8) : (sealL b).getD 0 0 = 76 ∧ (sealL b).getD 1 0 = (if pkd b then 1 else 0) ∧ (sealL b).drop 2 = le4 b.length ++ (fbody b ++ le4 (crcSum b)) ∧ bodyF (sealL b) = fbody b ∧ (sealL b).drop ((sealL b).length - 4) = le4 (crcSum b) := by
  refine ⟨by simp [sealL], by simp [sealL], by simp [sealL], ?_, ?_⟩
  · unfold bodyF
    have h6 : (sealL b).drop 6 = fbody b ++ le4 (crcSum b) := by simp [sealL, le4]
    rw [h6, sealL_length, Nat.add_sub_cancel]
    exact List.take_left
  · rw [sealL_length]
    have : sealL b = ([76, if pkd b then 1 else 0] ++ le4 b.length ++ fbody b) ++ le4 (crcSum b) := rfl
    rw [this, List.drop_append_of_le_length (by simp [le4_length]; omega), List.drop_of_length_le (by simp [le4_length]; omega)]
    rfl
theorem lenF_seal {b : List UInt8} (h : b.length < 4294967296) : lenF (sealL b) = some b.length := by
  obtain ⟨h0, h1, h2, _, _⟩ := seal_parts b
  have hl := sealL_le b
  unfold lenF
  rw [if_neg, h2]
  · congr 1
    have : num4 (le4 b.length ++ (fbody b ++ le4 (crcSum b))) = num4 (le4 b.length) := by simp [num4, le4]
    rw [this, num4_le4 h]
  · rw [h0, h1]
    rintro (q | q | q)
    · omega
    · exact q rfl
    · cases hp : pkd b <;> rw [hp] at q <;> exact absurd q (by decide)
theorem unF_seal (b : List UInt8) : unF (sealL b) b.length = (b, 0) := by
  obtain ⟨_, h1, _, h3, _⟩ := seal_parts b
  unfold unF
  rw [h1, h3]
  cases hp : pkd b with
  | true =>
    rw [if_pos rfl]
    unfold fbody
    rw [hp, if_pos rfl]
    exact unp_packL (Int.le_refl _)
  | false =>
    rw [if_neg (by decide)]
    unfold fbody
    rw [hp]
    rfl
theorem open_seal {b : List UInt8} {most : Int} (h : b.length < 4294967296) (hm : (b.length : Int) ≤ most) : openL (sealL b) most = (b, 0) := by
  unfold openL
  rw [lenF_seal h]
  simp only
  rw [if_neg (by omega)]
  unfold openN
  rw [unF_seal, (seal_parts b).2.2.2.2, if_neg (by simp), if_neg (by simp), if_neg (by simp)]
end Go.Hx
end
section
/- Chunks by their names (layer 13), over plain disks. No program. -/
set_option linter.unusedVariables false
set_option linter.unusedSimpArgs false
namespace Go.Proofs.YtfikjheicjamhaaDoor
open Go.Eng Go.Hx
/-- where a chunk is -/
def placeL (nm : List UInt8) : List UInt8 := [99, 47] ++ (hexs nm).take 2 ++ [47] ++ hexs nm
/-- the place ahead -/
def aheadL (nm : List UInt8) : List UInt8 := [116, 47] ++ hexs nm
theorem placeL_length {nm : List UInt8} (h : nm.length = 32) : (placeL nm).length = 69 := by simp [placeL, hexs_length, h]
theorem aheadL_length {nm : List UInt8} (h : nm.length = 32) : (aheadL nm).length = 66 := by simp [aheadL, hexs_length, h]
/-- a chunk: why it is not there -/
def RD.opn (d : RD) (nm : List UInt8) : List UInt8 × Int := openL (d.readB (placeL nm)) 4096
def RD.getE (d : RD) (nm : List UInt8) : Int := if d.readE (placeL nm) ≠ 0 then d.readE (placeL nm) else if (d.opn nm).2 ≠ 0 ∨ shaL (d.opn nm).1 ≠ nm then 7 else 0
def RD.getB (d : RD) (nm : List UInt8) : List UInt8 := if d.getE nm = 0 then (d.opn nm).1 else []
theorem getE_read {d : RD} {nm : List UInt8} (h : d.readE (placeL nm) ≠ 0) : d.getE nm = d.readE (placeL nm) := by unfold RD.getE; rw [if_pos h]
theorem getE_bad {d : RD} {nm : List UInt8} (h : d.readE (placeL nm) = 0) (h2 : (d.opn nm).2 ≠ 0 ∨ shaL (d.opn nm).1 ≠ nm) : d.getE nm = 7 := by unfold RD.getE; rw [if_neg (fun q => q h), if_pos h2]
theorem getE_ok {d : RD} {nm : List UInt8} (h : d.readE (placeL nm) = 0) (h2 : ¬ ((d.opn nm).2 ≠ 0 ∨ shaL (d.opn nm).1 ≠ nm)) : d.getE nm = 0 := by unfold RD.getE; rw [if_neg (fun q => q h), if_neg h2]
theorem getB_no {d : RD} {nm : List UInt8} (h : d.getE nm ≠ 0) : d.getB nm = [] := by unfold RD.getB; rw [if_neg h]
theorem getB_ok {d : RD} {nm : List UInt8} (h : d.getE nm = 0) : d.getB nm = (d.opn nm).1 := by unfold RD.getB; rw [if_pos h]
/-- steps, one behind the other, until there is an error -/
def runF : List (RD → RD × Int) → RD → RD × Int
  | [], d => (d, 0)
  | f :: r, d => if (f d).2 ≠ 0 then f d else runF r (f d).1
def wstepF (p b : List UInt8) (d : RD) : RD × Int := (d.write p b, d.writeE p b)
def sstepF (d : RD) : RD × Int := (d.sync, d.syncE)
def nstepF (a c : List UInt8) (d : RD) : RD × Int := (d.rename a c, d.renameE a c)
/-- a chunk is put -/
def zerosL : List UInt8 := List.replicate 32 0
def RD.putR (d : RD) (b : List UInt8) : RD × Int := runF [wstepF (aheadL (shaL b)) (sealL b), sstepF, nstepF (aheadL (shaL b)) (placeL (shaL b)), sstepF] d
def RD.put (d : RD) (b : List UInt8) : RD × List UInt8 × Int :=
  if 4096 < b.length then (d, zerosL, 3)
  else if d.getE (shaL b) = 6 then (d, zerosL, 6)
  else if d.getE (shaL b) = 0 then (d, shaL b, 0)
  else ((d.putR b).1, if (d.putR b).2 = 0 then shaL b else zerosL, (d.putR b).2)
end Go.Proofs.YtfikjheicjamhaaDoor
end
section
/- Contracts: chunks by their names (layer 13): places. -/
set_option linter.unusedVariables false
set_option linter.unusedSimpArgs false
set_option maxRecDepth 20000
set_option maxHeartbeats 2000000
namespace Go.Proofs.YtfikjheicjamhaaDoor
open Go.Eng Go.Hx
theorem str_sum {a b : List UInt8} (h : a.length + b.length ≤ 1000000) : (strOf a).size + (strOf b).size ≤ 9223372036854775807 := by rw [strOf_size, strOf_size]; omega
theorem placeC {nm : List UInt8} (hm : nm.length = 32) : Con Tryd.prog 34 [.agg (b8s nm).toArray] [] [] (fun v_ X_ S_ => v_ = (.string (strOf (placeL nm))) ∧ X_ = [] ∧ S_ = []) := by
  have hhl : (hexs nm).length = 64 := by rw [hexs_length, hm]
  have h2 : ((hexs nm).take 2).length = 2 := by rw [List.length_take, hhl]; rfl
  refine henter (N := 12) Tryd.func34 rfl rfl (by simp) fun b => ?_
  refine hseq <| hreg <| ?_
  refine hx (xh_box rfl (fun g1 => ?_))
  refine hmemL (fun w m => m.eqX 0 rfl (show _ = RBlk g1 23 (b8s nm) from congrArg (RBlk _ _) (cells_agg _))) ?_
  refine hy (fun _ => y_assign rfl) <| hend <| hmemQ (X' := [_]) (S' := []) (fun _ m => m) <| hthen <| hseq <| hreg <| hy (fun m => y_ldN rfl ag23 sz23 (by rw [b8s_length]; exact hm) ((m.blk 0 rfl).cells0)) <| ?_
  refine hx (xh_call rfl Tryd.call90 (hnameC hm) [] rfl [] rfl ?_)
  rintro _ _ _ ⟨rfl, rfl, rfl⟩
  refine hy (fun _ => y_assign rfl) <| hend <| hsub (ρ' := [(3, _), (2, _), (1, _), (0, _)]) ⟨rfl, rfl, rfl, rfl, trivial⟩ <| hmemQ (X' := [_]) (S' := []) (fun _ m => m) <| hthen <| hseq <| hreg <| hy (fun _ => y_move rfl) <| hy (fun _ => yV (y_strTo rfl rfl Tryd.underlying9 (show ((2 : Nat) : Int) = 2 from rfl) (show 2 ≤ (hexs nm).length by omega)) ((rfl : _ = Value.string (strOf ((hexs nm).take 2))))) <| hy (fun _ => yV (y_sadd rfl rfl (str_sum (a := [99, 47]) (b := (hexs nm).take 2) (by simp [h2]))) ((show Value.string (strOf [99, 47] ++ strOf ((hexs nm).take 2)) = .string (strOf ([99, 47] ++ (hexs nm).take 2)) from congrArg Value.string (strOf_append _ _)))) <| hy (fun _ => yV (y_sadd rfl rfl (str_sum (a := [99, 47] ++ (hexs nm).take 2) (b := [47]) (by simp [h2]))) ((show Value.string (strOf ([99, 47] ++ (hexs nm).take 2) ++ strOf [47]) = .string (strOf ([99, 47] ++ (hexs nm).take 2 ++ [47])) from congrArg Value.string (strOf_append _ _)))) <| hy (fun _ => y_move rfl) <| hy (fun _ => yV (y_sadd rfl rfl (str_sum (a := [99, 47] ++ (hexs nm).take 2 ++ [47]) (b := hexs nm) (by simp [h2, hhl]))) ((show Value.string (strOf ([99, 47] ++ (hexs nm).take 2 ++ [47]) ++ strOf (hexs nm)) = .string (strOf (placeL nm)) from congrArg Value.string (strOf_append _ _)))) <| hy (fun _ => y_assign rfl) <| hend <| hsub (ρ' := [(2, _), (3, _), (1, _), (0, _)]) ⟨rfl, rfl, rfl, rfl, trivial⟩ <| hthen <| hret <| ?_
  exact hret1 trivial rfl rfl [] rfl [] rfl ⟨rfl, rfl, rfl⟩
end Go.Proofs.YtfikjheicjamhaaDoor
end
section
/- Contract: a disk's Restart where no removal waits. -/
set_option linter.unusedVariables false
set_option linter.unusedSimpArgs false
set_option maxRecDepth 20000
namespace Go.Proofs.YtfikjheicjamhaaDoor
open Go.Eng Go.Hx
/-- a restart, where no removal waits -/
theorem restartNC {g : Nat} {st : DSt} {A : Option Addr} {n c : Nat} {bs : List Bool} (hc : n ≤ c) (hR : ∀ c ∈ st.waits, ∀ p, c ≠ .removed p) (hs : Small st) (hw : st.waits.length ≤ 1000000) : Con Tryd.prog 33 [.pointer (some ⟨g, 0, none⟩), .slice A n c] [RDisk g st] [RRd 1 A n (bools bs)] (fun v_ X_ S_ => ∃ gs, v_ = (.tuple #[]) ∧ X_ = [RDisk g (st.started bs gs)] ∧ S_ = []) := by
  refine henter (N := 67) Tryd.func33 rfl rfl (by simp) fun b => ?_
  refine hfactC (fun m => rdX (m.rd 0 rfl)) ?_
  rintro ⟨hl_r, hA_r⟩
  refine hmemC (fun w m => (m.perm (takeR_perm [0] _ [_] _ rfl)).unpack) ?_
  refine hfactC (fun m => (m.ord 3 rfl).2.1) fun hwA => ?_
  refine hseq <| hreg <| ?_
  refine hx (xh_box rfl (fun g3 => ?_))
  refine hend <| hmemQ (X' := [_, _, _, _, _, _]) (S' := [_]) (fun _ m => m) <| hthen <| hseq <| hreg <| hy (fun _ => y_mkf rfl rfl) <| hy (fun _ => y_assign rfl) <| hend <| hsub (ρ' := [(4, _), (3, _), (0, _), (1, _)]) ⟨rfl, rfl, rfl, rfl, trivial⟩ <| hthen <| hseq <| hseq <| hreg <| hy (fun _ => y_move rfl) <| hy (fun _ => y_nilp rfl) <| hy (fun _ => y_fld rfl fa146_3 (by decide)) <| hy (fun m => y_ld1 rfl ag144 (ld_blk (m.blk 1 rfl) rfl)) <| hy (fun _ => y_lenS rfl Tryd.underlying144) <| hy (fun _ => y_move rfl) <| hend <| hsub (ρ' := [(15, _), (14, _), (13, _), (4, _), (3, _), (0, _), (1, _)]) ⟨rfl, rfl, rfl, rfl, rfl, rfl, rfl, trivial⟩ <| hthen <| hblock <| ?_
  refine hloop6 (fun i ks L A1 n1 c1 => st.waits.length - i) (fun i ks L A1 n1 c1 => [(15, .int .i64 (i : Nat))]) (fun i ks L A1 n1 c1 => [RBlk g3 72 [.slice A1 n1 c1], RMap SV st.gl (vals L)]) (fun i ks L A1 n1 c1 => [RRd 1 A1 n1 (bools ks)]) (fun i ks L A1 n1 c1 => n1 ≤ c1 ∧ i ≤ st.waits.length ∧ (ks, L) = rfold bs st i) 0 bs st.lasts A n c [(14, _), (13, _), (4, _), (3, _), (0, _), (1, _)] ⟨rfl, rfl, rfl, rfl, rfl, rfl, trivial⟩ [0, 2] rfl [0] rfl (⟨hc, Nat.zero_le _, by simp [rfold]⟩) ⟨rfl, trivial⟩ (fun i ks L A1 n1 c1 ⟨hc1, hi, hf⟩ => ?_)
  refine hseq <| hreg <| hy (fun _ => y_lss rfl rfl) <| hend <| hthen <| hseq <| ?_
  refine hif rfl (fun hlt => ?_) (fun hlt => ?_)
  · obtain ⟨cg, hcg⟩ : ∃ cg, st.waits[i]? = some cg := ⟨_, List.getElem?_eq_getElem (by omega)⟩
    have hfs := rfold_succ (keep := bs) hcg
    rw [← hf] at hfs
    refine hcskip <| hthen <| hseq <| hblock <| hseq <| hreg <| hy (fun _ => y_idxS1 rfl rfl Tryd.underlying144 sz148 hwA rfl (by omega)) <| hy (fun m => y_ld1 rfl ag148 ((m.ord 4 rfl).cell (j := i) (by rw [List.getElem?_map, hcg]; rfl))) <| hy (fun _ => y_assign rfl) <| hend <| hsub (ρ' := [(6, _), (16, _), (15, _), (14, _), (13, _), (4, _), (3, _), (0, _), (1, _)]) ⟨rfl, rfl, rfl, rfl, rfl, rfl, rfl, rfl, rfl, trivial⟩ <| hthen <| hseq <| hseq <| hreg <| hy (fun _ => y_move rfl) <| ?_
    refine hx (xh_callv rfl rfl Tryd.call87 (nextBitC (by omega)) [0] rfl [0] rfl ?_)
    rintro _ _ _ ⟨A12, n12, c12, rfl, rfl, rfl, hp⟩
    refine hfactL (fun m => rdX (m.rd 0 rfl)) ?_
    rintro ⟨hl_q, hA_q⟩
    refine hy (fun _ => (y_not rfl)) <| hend <| hsub (ρ' := [(21, _), (6, _), (16, _), (15, _), (14, _), (13, _), (4, _), (3, _), (0, _), (1, _)]) ⟨rfl, rfl, rfl, rfl, rfl, rfl, rfl, rfl, rfl, rfl, trivial⟩ <| hmemQ (X' := [_, _, _, _, _, _]) (S' := [_, _, _]) (fun _ m => m) <| hthen <| ?_
    refine hifb rfl (fun hb => ?_) (fun hb => ?_)
    · have hb' : ks.headD false = false := by simpa using hb
      refine hexit <| hthen_exit <| hqblock_exit <| hthen <| hreg <| hy (fun _ => y_add rfl rfl (w64 (by omega) (by omega))) <| hy (fun _ => y_move rfl) <| hend <| hsub (ρ' := [(15, _), (21, _), (6, _), (16, _), (14, _), (13, _), (4, _), (3, _), (0, _), (1, _)]) ⟨rfl, rfl, rfl, rfl, rfl, rfl, rfl, rfl, rfl, rfl, trivial⟩ <| ?_
      refine hnext6 (i + 1) ks.tail L A12 n12 c12 ⟨rfl, rfl, rfl, rfl, rfl, rfl, rfl, trivial⟩ [0, 0, 0, 0, 0, 0] rfl [0, 2] rfl (⟨hp, by omega, by rw [hfs]; unfold rstep; rw [if_neg (by rw [hb']; decide)]⟩) (by omega)
    · have hb' : ks.headD false = true := by simpa using hb
      rcases cg with ⟨p, r⟩ | ⟨a, c9⟩ | ⟨p⟩
      · have hrm : r ∈ rowsOf st := by
          unfold rowsOf
          exact List.mem_append_right _ (List.mem_filterMap.2 ⟨_, List.mem_of_getElem? hcg, rfl⟩)
        have hsr := hs r hrm
        obtain ⟨ri, hri⟩ := List.mem_iff_getElem?.1 hrm
        refine hfactC (fun m => rows_le (m.xres 5 rfl) hri) fun hrc => ?_
        refine hcskip <| hthen <| hseq <| hreg <| hy (fun _ => y_move rfl) <| hend <| hthen <| hblock <| hseq <| hreg <| hy (fun _ => y_tas rfl (show _ = Result.ok (Value.tuple #[.agg [SV p, r.val].toArray, .bool true]) _ by kernel_rfl)) <| hy (fun _ => y_extract rfl rfl) <| hy (fun _ => y_extract rfl rfl) <| hend <| hsub (ρ' := [(34, _), (33, _), (22, _), (21, _), (6, _), (16, _), (15, _), (14, _), (13, _), (4, _), (3, _), (0, _), (1, _)]) ⟨rfl, rfl, rfl, rfl, rfl, rfl, rfl, rfl, rfl, rfl, rfl, rfl, rfl, trivial⟩ <| hthen <| ?_
        refine hift rfl (rfl) ?_
        refine hseq <| hreg <| ?_
        refine hx (xh_alloc ti150 (fun g7 => ?_))
        refine hx0 (xh_stA 0 rfl rfl rfl sz150 rfl (by simp [SV, BRow.val, Value.oneCell']) rfl ?_)
        refine hend <| hmemQ (X' := [_, _, _, _, _, _, _]) (S' := [_, _, _]) (fun _ m => m) <| hthen <| hseq <| hseq <| hreg <| hy (fun _ => y_move rfl) <| ?_
        refine hx (xh_callv rfl rfl Tryd.call87 (nextBitC (by omega)) [1] rfl [0] rfl ?_)
        rintro _ _ _ ⟨A13, n13, c13, rfl, rfl, rfl, hp2⟩
        refine hfactL (fun m => rdX (m.rd 0 rfl)) ?_
        rintro ⟨hl_q2, hA_q2⟩
        refine hy (fun _ => (y_not rfl)) <| hend <| hsub (ρ' := [(37, _), (7, _), (34, _), (33, _), (22, _), (21, _), (6, _), (16, _), (15, _), (14, _), (13, _), (4, _), (3, _), (0, _), (1, _)]) ⟨rfl, rfl, rfl, rfl, rfl, rfl, rfl, rfl, rfl, rfl, rfl, rfl, rfl, rfl, rfl, trivial⟩ <| hmemQ (X' := [_, _, _, _, _, _, _]) (S' := [_, _, _, _]) (fun _ m => m) <| hthen <| ?_
        refine hifb rfl (fun hb2 => ?_) (fun hb2 => ?_)
        · have hb2' : ks.tail.headD false = false := by simpa using hb2
          refine hreg <| hy (fun _ => y_fld rfl fa150_1 (by decide)) <| hy (fun m => y_ld1 rfl ag32 (ld_blk (m.blk 1 rfl) rfl)) <| hy (fun _ => y_fld rfl fa150_1 (by decide)) <| hy (fun m => y_ld1 rfl ag32 (ld_blk (m.blk 1 rfl) rfl)) <| hy (fun _ => y_lenS rfl Tryd.underlying32) <| hy (fun _ => y_quo rfl rfl (by omega) (by omega) (w64 (by omega) (by omega))) <| hy (fun _ => y_slTo rfl rfl Tryd.underlying32 sz5 (show ((r.n / 2 : Nat) : Int) = _ by omega) (by omega)) <| hy (fun _ => y_fld rfl fa150_1 (by decide)) <| ?_
          refine hx0 (xh_st1a 1 rfl rfl rfl sz32 rfl (by first | exact Nat.le_of_ble_eq_true rfl | simp) ?_)
          refine hmemL (fun w m => m.eqX 0 rfl (show _ = RBlk g7 150 [SV p, r.half.val] from rfl)) ?_
          refine hend <| hsub (ρ' := [(37, _), (7, _), (34, _), (33, _), (22, _), (21, _), (6, _), (16, _), (15, _), (14, _), (13, _), (4, _), (3, _), (0, _), (1, _)]) ⟨rfl, rfl, rfl, rfl, rfl, rfl, rfl, rfl, rfl, rfl, rfl, rfl, rfl, rfl, rfl, trivial⟩ <| hmemQ (X' := [_, _, _, _, _, _, _]) (S' := [_, _, _, _]) (fun _ m => m) <| hthen <| hdrw [5] [(0, some 0), (1, some 0), (2, some 0), (3, some 0), (4, some 0), (5, none)] (by kernel_rfl) (by kernel_rfl) rfl 0 <| hty (fun m => y_ldN rfl ag150 sz150 (by simp) (m.blk 0 rfl).cells0) <| htyU (y_move rfl) <| htyU (y_nilp rfl) <| htyU (y_fld rfl fa146_2 (by decide)) <| hty (fun m => y_ld1 rfl ag143 (ld_blk (m.blk 3 rfl) rfl)) <| ?_
          refine htx (xh_call rfl Tryd.call88 (wmakeC) [2] rfl [] rfl ?_)
          rintro _ _ _ ⟨rfl, rfl, rfl⟩
          refine ⟨(fun h => absurd h (by decide)), ?_⟩
          refine htend <| hsub (ρ' := [(37, _), (7, _), (34, _), (33, _), (22, _), (21, _), (6, _), (16, _), (15, _), (14, _), (13, _), (4, _), (3, _), (0, _), (1, _)]) ⟨rfl, rfl, rfl, rfl, rfl, rfl, rfl, rfl, rfl, rfl, rfl, rfl, rfl, rfl, rfl, trivial⟩ <| hmemQ (X' := [_, _, _, _, _, _, _]) (S' := [_, _, _, _]) (fun _ m => m) <| hqblock <| hqblock <| hthen <| hreg <| hy (fun _ => y_add rfl rfl (w64 (by omega) (by omega))) <| hy (fun _ => y_move rfl) <| hend <| hsub (ρ' := [(15, _), (37, _), (7, _), (34, _), (33, _), (22, _), (21, _), (6, _), (16, _), (14, _), (13, _), (4, _), (3, _), (0, _), (1, _)]) ⟨rfl, rfl, rfl, rfl, rfl, rfl, rfl, rfl, rfl, rfl, rfl, rfl, rfl, rfl, rfl, trivial⟩ <| ?_
          refine hmemQ (fun w m => m.eqX 0 rfl (show _ = RMap SV st.gl (vals (aput L p r.half)) from congrArg (RMap SV st.gl) (vals_put _ _ _))) ?_
          refine hnext6 (i + 1) ks.tail.tail (aput L p r.half) A13 n13 c13 ⟨rfl, rfl, rfl, rfl, rfl, rfl, rfl, trivial⟩ [2, 0, 1, 1, 1, 1] rfl [0, 3] rfl (⟨hp2, by omega, by rw [hfs, rstep, if_pos hb', hb2']; rfl⟩) (by omega)
        · have hb2' : ks.tail.headD false = true := by simpa using hb2
          refine hcskip <| hthen <| hdrw [5] [(0, some 0), (1, some 0), (2, some 0), (3, some 0), (4, some 0), (5, none)] (by kernel_rfl) (by kernel_rfl) rfl 0 <| hty (fun m => y_ldN rfl ag150 sz150 (by simp) (m.blk 1 rfl).cells0) <| htyU (y_move rfl) <| htyU (y_nilp rfl) <| htyU (y_fld rfl fa146_2 (by decide)) <| hty (fun m => y_ld1 rfl ag143 (ld_blk (m.blk 3 rfl) rfl)) <| ?_
          refine htx (xh_call rfl Tryd.call88 (wmakeC) [2] rfl [] rfl ?_)
          rintro _ _ _ ⟨rfl, rfl, rfl⟩
          refine ⟨(fun h => absurd h (by decide)), ?_⟩
          refine htend <| hsub (ρ' := [(37, _), (7, _), (34, _), (33, _), (22, _), (21, _), (6, _), (16, _), (15, _), (14, _), (13, _), (4, _), (3, _), (0, _), (1, _)]) ⟨rfl, rfl, rfl, rfl, rfl, rfl, rfl, rfl, rfl, rfl, rfl, rfl, rfl, rfl, rfl, trivial⟩ <| hmemQ (X' := [_, _, _, _, _, _, _]) (S' := [_, _, _, _]) (fun _ m => m) <| hqblock <| hqblock <| hthen <| hreg <| hy (fun _ => y_add rfl rfl (w64 (by omega) (by omega))) <| hy (fun _ => y_move rfl) <| hend <| hsub (ρ' := [(15, _), (37, _), (7, _), (34, _), (33, _), (22, _), (21, _), (6, _), (16, _), (14, _), (13, _), (4, _), (3, _), (0, _), (1, _)]) ⟨rfl, rfl, rfl, rfl, rfl, rfl, rfl, rfl, rfl, rfl, rfl, rfl, rfl, rfl, rfl, trivial⟩ <| ?_
          refine hmemQ (fun w m => m.eqX 0 rfl (show _ = RMap SV st.gl (vals (aput L p r)) from congrArg (RMap SV st.gl) (vals_put _ _ _))) ?_
          refine hnext6 (i + 1) ks.tail.tail (aput L p r) A13 n13 c13 ⟨rfl, rfl, rfl, rfl, rfl, rfl, rfl, trivial⟩ [1, 0, 1, 1, 1, 1] rfl [0, 3] rfl (⟨hp2, by omega, by rw [hfs, rstep, if_pos hb', hb2']; rfl⟩) (by omega)
      · refine hcskip <| hthen <| hseq <| hreg <| hy (fun _ => y_move rfl) <| hend <| hthen <| hblock <| hseq <| hreg <| hy (fun _ => y_tas rfl (show _ = Result.ok (Value.tuple #[.agg [SV [], .slice none 0 0].toArray, .bool false]) _ by kernel_rfl)) <| hy (fun _ => y_extract rfl rfl) <| hy (fun _ => y_extract rfl rfl) <| hend <| hsub (ρ' := [(34, _), (33, _), (22, _), (21, _), (6, _), (16, _), (15, _), (14, _), (13, _), (4, _), (3, _), (0, _), (1, _)]) ⟨rfl, rfl, rfl, rfl, rfl, rfl, rfl, rfl, rfl, rfl, rfl, rfl, rfl, trivial⟩ <| hthen <| ?_
        refine hiff rfl (rfl) ?_
        refine hseq <| hreg <| hy (fun _ => y_assign rfl) <| hend <| hsub (ρ' := [(34, _), (33, _), (22, _), (21, _), (6, _), (16, _), (15, _), (14, _), (13, _), (4, _), (3, _), (0, _), (1, _)]) ⟨rfl, rfl, rfl, rfl, rfl, rfl, rfl, rfl, rfl, rfl, rfl, rfl, rfl, trivial⟩ <| hthen <| hdrw [8] [(0, some 0), (1, some 0), (2, some 0), (3, some 0), (4, some 0), (5, some 0), (6, some 0), (7, some 0), (8, none)] (by kernel_rfl) (by kernel_rfl) rfl 0 <| htyU (y_move rfl) <| htyU (y_move rfl) <| htyU (y_nilp rfl) <| htyU (y_fld rfl fa146_2 (by decide)) <| hty (fun m => y_ld1 rfl ag143 (ld_blk (m.blk 2 rfl) rfl)) <| htyU (y_mkf rfl rfl) <| htyU (y_nilm rfl (by kernel_rfl)) <| htyU (y_move rfl) <| ?_
        refine htx (xh_inv rfl rfl (fun w => by kernel_rfl) Tryd.call215 (nmakeC) [1] rfl [] rfl ?_)
        rintro _ _ _ ⟨rfl, rfl, rfl⟩
        refine ⟨(fun h => absurd h (by decide)), ?_⟩
        refine htend <| hsub (ρ' := [(34, _), (33, _), (22, _), (21, _), (6, _), (16, _), (15, _), (14, _), (13, _), (4, _), (3, _), (0, _), (1, _)]) ⟨rfl, rfl, rfl, rfl, rfl, rfl, rfl, rfl, rfl, rfl, rfl, rfl, rfl, trivial⟩ <| hmemQ (X' := [_, _, _, _, _, _]) (S' := [_, _, _]) (fun _ m => m) <| hqblock <| hqblock <| hthen <| hreg <| hy (fun _ => y_add rfl rfl (w64 (by omega) (by omega))) <| hy (fun _ => y_move rfl) <| hend <| hsub (ρ' := [(15, _), (34, _), (33, _), (22, _), (21, _), (6, _), (16, _), (14, _), (13, _), (4, _), (3, _), (0, _), (1, _)]) ⟨rfl, rfl, rfl, rfl, rfl, rfl, rfl, rfl, rfl, rfl, rfl, rfl, rfl, trivial⟩ <| ?_
        refine hnext6 (i + 1) ks.tail (apl L (.renamed a c9)) A12 n12 c12 ⟨rfl, rfl, rfl, rfl, rfl, rfl, rfl, trivial⟩ [1, 0, 0, 0, 0, 0] rfl [0, 2] rfl (⟨hp, by omega, by rw [hfs]; unfold rstep; rw [if_pos hb']; rfl⟩) (by omega)
      · exact absurd rfl (hR _ (List.mem_of_getElem? hcg) _)
  · obtain rfl : i = st.waits.length := by omega
    have hL : L = (rfold bs st st.waits.length).2 := by rw [← hf]
    refine hexit <| hthen_exit <| hthen_exit <| hqblock_exit <| hthen <| hreg <| hy (fun _ => y_move rfl) <| hy (fun _ => y_move rfl) <| hy (fun _ => y_move rfl) <| hy (fun _ => y_move rfl) <| hy (fun _ => y_nilp rfl) <| hy (fun _ => y_fld rfl fa146_2 (by decide)) <| hy (fun m => y_ld1 rfl ag143 (ld_blk (m.blk 2 rfl) rfl)) <| ?_
    refine hx (xh_call rfl Tryd.call89 (mcloneC) [1] rfl [] rfl ?_)
    rintro _ _ _ ⟨g1, rfl, rfl, rfl⟩
    refine hy (fun _ => y_nilp rfl) <| hy (fun _ => y_fld rfl fa146_1 (by decide)) <| ?_
    refine hx0 (xh_st1a 3 rfl rfl rfl sz143 rfl (by first | exact Nat.le_of_ble_eq_true rfl | simp) ?_)
    refine hy (fun _ => y_nilp rfl) <| hy (fun _ => y_fld rfl fa146_3 (by decide)) <| ?_
    refine hx0 (xh_st1a 0 rfl rfl rfl sz144 rfl (by first | exact Nat.le_of_ble_eq_true rfl | simp) ?_)
    refine hy (fun _ => y_nilp rfl) <| hy (fun _ => y_fld rfl fa146_4 (by decide)) <| ?_
    refine hx0 (xh_st1a 0 rfl rfl rfl sz3 rfl (by first | exact Nat.le_of_ble_eq_true rfl | simp) ?_)
    refine hend <| hsub (ρ' := [(16, _), (15, _), (14, _), (13, _), (4, _), (3, _), (0, _), (1, _)]) ⟨rfl, rfl, rfl, rfl, rfl, rfl, rfl, rfl, trivial⟩ <| hmemQ (X' := [_, _, _, _, _, _, _]) (S' := [_, _]) (fun _ m => m) <| ?_
    refine hmemQ (fun w m => m.addX (r' := ROwn 148 1 (.slice none 0 0) 0 []) (.refl _ _) (Own.nil _ _ _ _) (fun k hk => hk.elim)) ?_
    have e : ∀ gs, st.started bs gs = { st with gs := gs, seen := L, lasts := L, waits := [], wA := none, wc := 0, power := -1 } := fun gs => by rw [hL]; rfl
    refine hmemQ (fun w m => m.eqX 1 rfl (show _ = RBlk g 146 (dcells (st.started bs g1)) from rfl)) ?_
    refine hmemQ (fun w m => m.eqX 3 rfl (show _ = RMap SV g1 (vals (st.started bs g1).seen) from by rw [hL]; rfl)) ?_
    refine hmemQ (fun w m => m.eqX 3 rfl (show _ = RMap SV st.gl (vals (st.started bs g1).lasts) from by rw [hL]; rfl)) ?_
    refine hmemQ (X' := RRows (rowsOf (st.started bs g1)) :: _) (fun w m => (m.perm (takeR_perm [7] _ [_] _ rfl)).rowHalf (rows_started g1)) ?_
    refine hmemQ (X' := RDisk g (st.started bs g1) :: _) (fun w m => (m.perm (takeR_perm [3, 2, 1, 1, 0] _ [_, _, _, _, _] _ rfl)).pack) ?_
    exact hret0 trivial rfl [0] rfl [] rfl ⟨_, rfl, rfl, rfl⟩
end Go.Proofs.YtfikjheicjamhaaDoor
end
section
/- Contracts: disks of the program as the document's (for seats without slots: Slots7 has them too). -/
set_option linter.unusedVariables false
set_option linter.unusedSimpArgs false
set_option maxRecDepth 20000
namespace Go.Proofs.YtfikjheicjamhaaDoor
open Go.Eng Go.Hx
theorem dreadC {g : Nat} {st : DSt} {d : RD} {kk : Nat} {p : List UInt8} (hD : DS st d kk) : Con Tryd.prog 65 [.pointer (some ⟨g, 0, none⟩), .string (strOf p)] [RDisk g st] [] (fun v_ X_ S_ => ∃ v, v_ = (.tuple #[v, .int .i64 (d.readE p)]) ∧ X_ = [RDisk g st, ROwn 5 1 v (d.readB p).length (b8s (d.readB p))] ∧ S_ = []) := by
  rw [hD.readE, hD.readB]
  exact readC hD.ok.sm
theorem dwriteC {g : Nat} {st : DSt} {d : RD} {kk : Nat} {p : List UInt8} {A : Option Addr} {n c : Nat} {l : List UInt8} (hD : DS st d kk) (hkk : kk ≤ 99000) (hl : l.length = n) (hn : n ≤ 1048576) : Con Tryd.prog 79 [.pointer (some ⟨g, 0, none⟩), .string (strOf p), .slice A n c] [RDisk g st] [RRd 1 A n (b8s l)] (fun v_ X_ S_ => ∃ st1, v_ = (.int .i64 (d.writeE p l)) ∧ X_ = [RDisk g st1] ∧ S_ = [] ∧ (DS st1 (d.write p l) (kk + 1))) := by
  exact Con.mono (writeC hD.ok (by omega) hn) (fun v X S h => by
    obtain ⟨st1, B, c1, A1, c2, h1, h2, h3, hw⟩ := h
    have hW := hD.write hl hn hw
    exact ⟨st1, by rw [hW.2]; exact h1, h2, h3, hW.1⟩)
theorem dsyncC {g : Nat} {st : DSt} {d : RD} {kk : Nat} (hD : DS st d kk) : Con Tryd.prog 81 [.pointer (some ⟨g, 0, none⟩)] [RDisk g st] [] (fun v_ X_ S_ => ∃ st1, v_ = (.int .i64 d.syncE) ∧ X_ = [RDisk g st1] ∧ S_ = [] ∧ (DS st1 d.sync kk)) := by
  exact Con.mono (syncC hD.ok) (fun v X S h => by
    obtain ⟨st1, gl, h1, h2, h3, hw⟩ := h
    have hW := hD.sync hw
    exact ⟨st1, by rw [hW.2]; exact h1, h2, h3, hW.1⟩)
theorem drenameC {g : Nat} {st : DSt} {d : RD} {kk : Nat} {a c : List UInt8} (hD : DS st d kk) (hkk : kk ≤ 99000) : Con Tryd.prog 97 [.pointer (some ⟨g, 0, none⟩), .string (strOf a), .string (strOf c)] [RDisk g st] [] (fun v_ X_ S_ => ∃ st1, v_ = (.int .i64 (d.renameE a c)) ∧ X_ = [RDisk g st1] ∧ S_ = [] ∧ (DS st1 (d.rename a c) (kk + 1))) := by
  exact Con.mono (renameC hD.ok (by omega)) (fun v X S h => by
    obtain ⟨st1, A, j, h1, h2, h3, hw⟩ := h
    have hW := hD.rename hw
    exact ⟨st1, by rw [hW.2]; exact h1, h2, h3, hW.1⟩)
theorem DS.rd_len {st : DSt} {d : RD} {kk : Nat} (h : DS st d kk) (p : List UInt8) : (d.readB p).length ≤ 1048576 := by
  rw [h.readB]
  by_cases he : foundE st p = 0
  · obtain ⟨r, hr⟩ := found_ok he
    rw [readB_ok he hr]
    have h1 := h.ok.small r (List.mem_append_left _ (List.mem_append_left _ (List.mem_map.2 ⟨_, aget_mem hr, rfl⟩)))
    have h2 : r.n = r.l.length := h.sim.files.len _ (aget_mem hr)
    omega
  · rw [readB_no he]; exact Nat.zero_le _
theorem drestartC {g : Nat} {st : DSt} {d : RD} {kk : Nat} {A : Option Addr} {n c : Nat} {bs : List Bool} (hD : DS st d kk) (hkk : kk ≤ 99000) (hnr : ∀ c ∈ d.waits, c.1 ≠ 2) (hc : n ≤ c) : Con Tryd.prog 33 [.pointer (some ⟨g, 0, none⟩), .slice A n c] [RDisk g st] [RRd 1 A n (bools bs)] (fun v_ X_ S_ => ∃ st1, v_ = (.tuple #[]) ∧ X_ = [RDisk g st1] ∧ S_ = [] ∧ (DS st1 (d.restart bs) kk)) := by
  have hR : ∀ c ∈ st.waits, ∀ p, c ≠ .removed p := by
    rintro c hc p rfl
    have h1 : Chg.rc (.removed p) ∈ d.waits := by rw [← hD.waits]; exact List.mem_map.2 ⟨_, hc, rfl⟩
    exact hnr _ h1 rfl
  have hw : st.waits.length ≤ 1000000 := by have := hD.ok.rest; omega
  exact Con.mono (restartNC hc hR hD.ok.sm hw) (fun v X S h => by
    obtain ⟨gs, h1, h2, h3⟩ := h
    exact ⟨_, h1, h2, h3, hD.restart bs gs⟩)
end Go.Proofs.YtfikjheicjamhaaDoor
end
section
/- Contracts: what is said (wire, and the document's). -/
set_option linter.unusedVariables false
set_option linter.unusedSimpArgs false
set_option maxRecDepth 20000
namespace Go.Proofs.YtfikjheicjamhaaDoor
open Go.Eng Go.Hx
@[reducible] def mc (k s : Int) (nm : List UInt8) (v : Value) : List Value := .int .i64 k :: .int .i64 s :: (b8s nm ++ [v])
/-- which messages may be -/
def WMay (k s : Int) (n : Nat) : Prop := (1 ≤ k ∧ k ≤ 3 ∧ 0 ≤ s ∧ s ≤ 4294967295) ∧ (n = 0 ∨ (k = 2 ∧ n ≤ 4106))
instance (k s : Int) (n : Nat) : Decidable (WMay k s n) := by unfold WMay; infer_instance
theorem Rd.part {w : World} {a : Addr} {n k m : Nat} {B : List UInt8} (h : Rd w 1 (some a) n (b8s B)) : ∀ (j : Nat) (u : Value), (b8s ((B.drop k).take m))[j]? = some u → w.cell? ((a.add k).add j) = some u := by
  intro j u hu
  rw [add_add]
  refine h.cell ?_
  unfold b8s at hu ⊢
  rw [List.getElem?_map, List.getElem?_take] at hu
  rw [List.getElem?_map]
  split at hu
  · rw [List.getElem?_drop] at hu; exact hu
  · simp at hu
end Go.Proofs.YtfikjheicjamhaaDoor
end
section
/- The engine over things in memory, eighth part: panics that go through a function's end, and what recovers them. No statement is proved here. -/
set_option linter.unusedVariables false
set_option linter.unusedSimpArgs false
set_option linter.unusedSectionVars false
namespace Go.Eng
open Go.RowKit
/-- a panic with one value that nobody has recovered -/
abbrev pan (v : Value) : List PanicEntry := [{ v, recovered := false }]
/-- how a call ends: with a value, or in a panic -/
def RE (b : Base) (R Rp : Value → List Res → List Res → Prop) : Ending → World → Prop := fun e w' =>
  (∃ v X' S', e = .returned v ∧ R v X' S' ∧ Mem b X' S' w') ∨ (∃ v X' S', e = .panicked (pan v) ∧ Rp v X' S' ∧ Mem b X' S' w')
/-- a contract of what may end in a panic -/
def ConE (P : Program) (f : Nat) (args : List Value) (X0 S0 : List Res) (R Rp : Value → List Res → List Res → Prop) : Prop :=
  ∀ w, Mem ⟨w, feet X0, feet S0⟩ X0 S0 w → Calls P f args.toArray w (RE ⟨w, feet X0, feet S0⟩ R Rp)
theorem ConE.mono {P : Program} {f : Nat} {vs : List Value} {X0 S0 : List Res} {R Rp R' Rp' : Value → List Res → List Res → Prop} (h : ConE P f vs X0 S0 R Rp) (h1 : ∀ v X S, R v X S → R' v X S) (h2 : ∀ v X S, Rp v X S → Rp' v X S) : ConE P f vs X0 S0 R' Rp' := fun w m =>
  Calls.mono (h w m) (fun e w' hr => by
    rcases hr with ⟨v, X', S', a1, a2, a3⟩ | ⟨v, X', S', a1, a2, a3⟩
    · exact .inl ⟨v, X', S', a1, h1 _ _ _ a2, a3⟩
    · exact .inr ⟨v, X', S', a1, h2 _ _ _ a2, a3⟩)
section
variable {P : Program} {Q : Exit → Act → World → Prop} {N : Nat} {D : List Deferred} {ρ : Env} {b : Base} {X X' X0 Xr S S' S0 : List Res} {ty : TypeId} {x : Operand} {K : Value → List Res → List Res → Prop}
theorem x_callE {w : World} {K : Value → World → Prop} {f : Nat} {l : List Operand} {vs : List Value} {tys : Array TypeId} {R : Ending → World → Prop} (hv : evs ρ l = some vs) (hf : ∀ args w, (callFunc f args).run P w = .ok (.enter f args) w)
    (hc : Calls P f vs.toArray w R) (hR : ∀ e w', R e w' → (∃ v, e = .returned v ∧ K v w') ∨ ∃ c, e = .panicked c ∧ WQ Q N D (.panic c) ρ w') : XW P Q N D ρ w (.call ⟨.value (.func f), l.toArray, tys⟩) ty K := by
  intro a dst pos af g ha
  unfold Oper.wp
  have : (execOp a.eval ⟨dst, .call ⟨.value (.func f), l.toArray, tys⟩, ty, pos, af, g⟩).run P w = .ok (.enter f vs.toArray) w := by
    simp [execOp, resolve, Deferred.ofValue, Act.eval, invoke, ha.evals hv, hf]
  rw [this]
  refine Calls.mono hc ?_
  intro e w' he
  rcases hR e w' he with ⟨v, rfl, hk⟩ | ⟨c, rfl, hk⟩
  · exact ⟨v, rfl, hk⟩
  · exact hk a ha
theorem xh_callE {f : Nat} {l : List Operand} {vs : List Value} {tys : Array TypeId} {R Rp : Value → List Res → List Res → Prop} (hv : evs ρ l = some vs) (hf : ∀ args w, (callFunc f args).run P w = .ok (.enter f args) w)
    (hc : ConE P f vs X0 S0 R Rp) (is : List Nat) (hX : takeR is X = some (X0, Xr)) (js : List Nat) (hS : getR js S = some S0)
    (kp : ∀ v X' S', Rp v X' S' → HQ Q N D (.panic (pan v)) ρ b (X' ++ Xr) (S' ++ S)) (k : ∀ v X' S', R v X' S' → K v (X' ++ Xr) (S' ++ S)) : XH P Q N D ρ b X S (.call ⟨.value (.func f), l.toArray, tys⟩) ty K := fun w m => by
  have m1 := m.perm (takeR_perm _ _ _ _ hX)
  refine x_callE hv hf (hc w (m1.part (getR_sub _ _ _ hS))) ?_
  rintro e w' (⟨v, X', S', rfl, hR, m'⟩ | ⟨v, X', S', rfl, hR, m'⟩)
  · exact .inl ⟨v, rfl, _, _, m1.frame (getR_sub _ _ _ hS) m', k v X' S' hR⟩
  · exact .inr ⟨_, rfl, kp v X' S' hR w' (m1.frame (getR_sub _ _ _ hS) m')⟩
theorem hthen_panic {K : Act → World → Prop} {c : List PanicEntry} (h : HQ Q N D (.panic c) ρ b X S) : HQ (Exit.then K Q) N D (.panic c) ρ b X S := h
end
theorem henterE {P : Program} {f : Nat} {fn : Func} {c : Code} {vs : List Value} {R Rp : Value → List Res → List Res → Prop} {N : Nat} {X0 S0 : List Res} (hf : P.funcs[f]? = some fn) (hb : fn.body = some c) (hN : fn.ntmps = N) (hl : vs.length ≤ N)
    (h : ∀ b, HC P (bodyPost P fn (RE b R Rp)) N [] c (argsEnv vs 0) b X0 S0) : ConE P f vs X0 S0 R Rp := fun w m => enter hf hb hN hl (h _ w m)
section
variable {P : Program} {fn : Func} {R Rp : Value → List Res → List Res → Prop} {N : Nat} {D : List Deferred} {ρ : Env} {b : Base} {X X' Xz Xr X0 S S' S0 : List Res} {e : Exit} {u : FrameMode}
theorem bodyPost_mono {R1 R2 : Ending → World → Prop} (h : ∀ e w, R1 e w → R2 e w) : ∀ e a w, bodyPost P fn R1 e a w → bodyPost P fn R2 e a w
  | .normal, a, w, ⟨h1, v, h2, h3⟩ => ⟨h1, v, h2, h _ _ h3⟩
  | .ret, a, w, ⟨h1, v, h2, h3⟩ => ⟨h1, v, h2, h _ _ h3⟩
  | .panic c, a, w, ⟨h1, h2⟩ => ⟨h1, h _ _ h2⟩
  | .outgrown, a, w, h1 => h _ _ h1
  | .exit _, a, w, h1 => h1.elim
  | .goto _, a, w, h1 => h1.elim
/-- the normal end of what may end in a panic -/
theorem hretE (h : HQ (bodyPost P fn (RB b R)) N D e ρ b X S) : HQ (bodyPost P fn (RE b R Rp)) N D e ρ b X S := fun w m a ha =>
  bodyPost_mono (fun e w h => by obtain ⟨v, X', S', h1, h2, h3⟩ := h; exact .inl ⟨v, X', S', h1, h2, h3⟩) _ _ _ (h w m a ha)
theorem hpanE {v : Value} (is : List Nat) (hX : takeR is X = some (X', Xz)) (js : List Nat) (hS : getR js S = some S') (hR : Rp v X' S') : HQ (bodyPost P fn (RE b R Rp)) N [] (.panic (pan v)) ρ b X S := fun w m a ha =>
  ⟨ha.df, .inr ⟨v, X', S', rfl, hR, m.out is hX js hS⟩⟩
/-- where a function with calls at its end leaves, in any mode -/
def HEu (P : Program) (fn : Func) (b : Base) (R : Value → List Res → List Res → Prop) (N : Nat) (D : List Deferred) (ρ : Env) (X S : List Res) (u : FrameMode) : Prop := ∀ w, Mem b X S w → ∀ tmps : Array Value, (∀ t v, get ρ t = some v → tmps[t]? = some v) → Go.Leaves P fn tmps (RB b R) D u w
theorem hleaveN (he : Leaves e) (h : HEu P fn b R N D ρ X S .returning) : HQ (bodyPostD P fn (RB b R)) N D e ρ b X S := hleave he h
theorem hleaveP {c : List PanicEntry} (h : HEu P fn b R N D ρ X S (.panicking c)) : HQ (bodyPostD P fn (RB b R)) N D (.panic c) ρ b X S := fun w m a ha => by
  have := h w m a.tmps ha.gt
  show Go.Leaves P fn a.tmps (RB b R) a.defers (.panicking c) w
  rw [ha.df]
  exact this
/-- a contract of what is called at a function's end: how it then goes on -/
def ConD (P : Program) (f : Nat) (args : List Value) (u : FrameMode) (X0 S0 : List Res) (R : FrameMode → List Res → List Res → Prop) : Prop :=
  ∀ w, Mem ⟨w, feet X0, feet S0⟩ X0 S0 w → CallsD P f args.toArray u w fun e u' w' => e = .returned (.tuple #[]) ∧ ∃ X' S', R (settle u') X' S' ∧ Mem ⟨w, feet X0, feet S0⟩ X' S' w'
theorem hdone {f : Nat} {vs cap : List Value} {Rd : FrameMode → List Res → List Res → Prop} (hu : u ≠ .run) (hcall : ∀ args w, (callFunc f args).run P w = .ok (.enter f args) w) (hc : ConD P f (vs ++ cap) u X0 S0 Rd) (is : List Nat) (hX : takeR is X = some (X0, Xr)) (js : List Nat) (hS : getR js S = some S0)
    (k : ∀ u' X' S', Rd u' X' S' → HEu P fn b R N D ρ (X' ++ Xr) (S' ++ S) u') : HEu P fn b R N (⟨.fn (.func f) cap.toArray, vs.toArray⟩ :: D) ρ X S u := fun w m tmps ht => by
  have m1 := m.perm (takeR_perm _ _ _ _ hX)
  refine leaves_cons (f := f) (args := (vs ++ cap).toArray) hu ?_ ?_
  · simp [invoke, hcall]
  · refine CallsD.mono (hc w (m1.part (getR_sub _ _ _ hS))) ?_
    rintro e u' w' ⟨rfl, X', S', hR, m'⟩
    exact k _ _ _ hR w' (m1.frame (getR_sub _ _ _ hS) m') tmps ht
end
/-! ### what recovers -/
section
variable {P : Program} {ops : Array Oper} {fn : Func} {N : Nat} {D : List Deferred} {ρ ρ' : Env} {w : World} {c₀ : Frame} {cs : List Frame} {R : Ending → FrameMode → World → Prop} {Q : Exit → Act → List Frame → World → Prop} {op : Op} {ty : TypeId} {pos : String} {af : Array Edge} {d : Nat} {v : Value} {rest : List Nat} {u : FrameMode}
/-- operations that look at who called -/
def SL (P : Program) (ops : Array Oper) (Q : Exit → Act → List Frame → World → Prop) (N : Nat) (D : List Deferred) (l : List Nat) (ρ : Env) (cs : List Frame) (w : World) : Prop := ∀ a, Ag N D ρ a → wpOpsS P ops Q l a cs w
theorem sl_y {i : Nat} (ho : ops[i]? = some ⟨some d, op, ty, pos, af, none⟩) (h : Yl P N D ρ w op ty v) (k : SL P ops Q N D rest ((d, v) :: ρ) cs w) (hd : d < N := by decide) : SL P ops Q N D (i :: rest) ρ cs w := fun a ha => by
  simp only [wpOpsS, ho]
  rw [if_pos (by simp [Region.wanted]), h a (some d) pos af none ha]
  exact k _ (ha.put hd)
theorem sl_rec {i : Nat} {tys : Array TypeId} {pv : Value} {older : List PanicEntry} (ho : ops[i]? = some ⟨some d, .call ⟨.builtin .recover, #[], tys⟩, ty, pos, af, none⟩) (hu : c₀.mode = .panicking ({ v := pv, recovered := false } :: older))
    (k : SL P ops Q N D rest ((d, pv) :: ρ) ({ c₀ with mode := .panicking ({ v := pv, recovered := true } :: older) } :: cs) w) (hd : d < N := by decide) : SL P ops Q N D (i :: rest) ρ (c₀ :: cs) w := fun a ha => by
  have hr : (execOp a.eval ⟨some d, .call ⟨.builtin .recover, #[], tys⟩, ty, pos, af, none⟩).run P w = .ok .recover w := by
    simp [execOp, resolve, invoke, builtin]
  have h2 : recoverD (c₀ :: cs) = some (pv, { c₀ with mode := .panicking ({ v := pv, recovered := true } :: older) } :: cs) := by simp [recoverD, hu]
  simp only [wpOpsS, ho]
  rw [if_pos (by simp [Region.wanted]), hr]
  simp only [h2]
  exact k _ (ha.put hd)
theorem sl_rec0 {i : Nat} {tys : Array TypeId} (ho : ops[i]? = some ⟨some d, .call ⟨.builtin .recover, #[], tys⟩, ty, pos, af, none⟩) (hu : c₀.mode = .returning)
    (k : SL P ops Q N D rest ((d, .nilIface) :: ρ) (c₀ :: cs) w) (hd : d < N := by decide) : SL P ops Q N D (i :: rest) ρ (c₀ :: cs) w := fun a ha => by
  have hr : (execOp a.eval ⟨some d, .call ⟨.builtin .recover, #[], tys⟩, ty, pos, af, none⟩).run P w = .ok .recover w := by
    simp [execOp, resolve, invoke, builtin]
  have h2 : recoverD (c₀ :: cs) = none := by simp [recoverD, hu]
  simp only [wpOpsS, ho]
  rw [if_pos (by simp [Region.wanted]), hr]
  simp only [h2]
  exact k _ (ha.put hd)
/-- the rest of the code does not look at who called -/
theorem s_rest {c : Code} {a : Act} {b : Base} {X S : List Res} {R0 : Ending → World → Prop} (m : Mem b X S w) (h : HC P (bodyPost P fn R0) N [] c ρ b X S) (ha : Ag N [] ρ a) (hR : ∀ e w', R0 e w' → ∃ v, e = .returned v ∧ R (.returned v) u w') : c.wpS P (bodyPostS P fn c₀ cs R) a ({ c₀ with mode := u } :: cs) w := by
  refine wpS_of_wp (wp_mono (h w m a ha) ?_)
  intro e a' w' hb
  cases e with
  | normal =>
    obtain ⟨h1, v, h2, h3⟩ := hb
    obtain ⟨v', hv, h4⟩ := hR _ _ h3
    cases hv
    exact ⟨h1, u, rfl, v, h2, h4⟩
  | ret =>
    obtain ⟨h1, v, h2, h3⟩ := hb
    obtain ⟨v', hv, h4⟩ := hR _ _ h3
    cases hv
    exact ⟨h1, u, rfl, v, h2, h4⟩
  | panic c =>
    obtain ⟨h1, h2⟩ := hb
    obtain ⟨v', hv, h4⟩ := hR _ _ h2
    cases hv
  | outgrown =>
    obtain ⟨v', hv, h4⟩ := hR _ _ hb
    cases hv
  | exit id => exact hb.elim
  | goto l => exact hb.elim
end
end Go.Eng
end
section
/- The engine over things in memory, ninth part: a panic out of a region whose order is open. No statement is proved here. -/
set_option linter.unusedVariables false
set_option linter.unusedSimpArgs false
set_option linter.unusedSectionVars false
namespace Go.Eng
open Go.RowKit
/-- but for these temporaries the same -/
def Agree (ds : List Nat) (a a' : Act) : Prop := a'.defers = a.defers ∧ a'.tmps.size = a.tmps.size ∧ ∀ t : Nat, t ∉ ds → a'.tmps[t]? = a.tmps[t]?
theorem Agree.refl (ds : List Nat) (a : Act) : Agree ds a a := ⟨rfl, rfl, fun _ _ => rfl⟩
theorem Agree.put {ds : List Nat} {a a' : Act} {d : Nat} {v : Value} (hd : d ∈ ds) (h : Agree ds a a') : Agree ds (a.put (some d) v) a' := by
  obtain ⟨h1, h2, h3⟩ := h
  refine ⟨h1, by rw [h2]; simp [Act.put], fun t ht => ?_⟩
  rw [h3 t ht]
  have hne : d ≠ t := fun e => ht (e ▸ hd)
  simp only [Act.put]
  rw [Array.getElem?_setIfInBounds_ne hne]
/-- Q; a panic: whatever the region's own temporaries are -/
def PanQ (ds : List Nat) (Q : Exit → Act → World → Prop) : Exit → Act → World → Prop
  | .panic c, a, w => ∀ a', Agree ds a a' → Q (.panic c) a' w
  | .outgrown, _, _ => False
  | e, a, w => Q e a w
section
variable {P : Program} {ops : Array Oper} {Q : Exit → Act → World → Prop}
theorem wpG_of_seqE {T : Nat → World → Prop} {X : List Nat} (hs : Region.noSelect ops = true) (hQ : ∀ (i : Nat) (o : Oper), ops[i]? = some o → ∀ c a v w, Q (.panic c) (a.put o.dst v) w → Q (.panic c) a w) : ∀ (L : List (Nat × Option Nat)) (sq : List (Option Nat × Oper)) (l : Array Bool) (a : Act) (w : World) (n k : Nat),
    pickG ops L = some sq → seqOkG ops X L l = true → L.length ≤ n → Kept ops l → cnt X l = k → T k w → wpSeqG P ops Q T k sq a w → wpG P ops Q (fun l w => T (cnt X l) w) n l a w
  | [], sq, l, a, w, n, k, hp, hk, _, _, _, _, h => by
    simp only [pickG, Option.some.injEq] at hp
    subst hp
    have hr : Region.ready .any ops l = [] := by simpa [seqOkG] using hk
    cases n with
    | zero => exact ⟨hr, h⟩
    | succ n => exact ⟨fun _ => h, by rw [hr]; simp⟩
  | (i, x) :: r, sq, l, a, w, 0, k, hp, hk, hf, _, _, _, h => by simp at hf
  | (i, x) :: r, sq, l, a, w, n + 1, k, hp, hk, hf, hK, hc, hT, h => by
    unfold pickG at hp
    split at hp
    · rename_i o l' ho hl'
      cases hp
      have hf' : r.length ≤ n := by simp at hf; omega
      cases x with
      | none =>
        simp only [seqOkG, Bool.and_eq_true, beq_iff_eq] at hk
        obtain ⟨⟨hrd, hct⟩, hk⟩ := hk
        have hmem : i ∈ Region.ready .any ops l := by rw [hrd]; simp
        have hcs : cnt X (l.setIfInBounds i true) = k + 1 := by rw [cnt_set (mem_ready.1 hmem).1, hct, hc]
        have hK' := hK.set hmem
        refine ⟨fun h0 => (by rw [h0] at hmem; cases hmem), fun j hj => ?_⟩
        have hji : j = i := by rw [hrd] at hj; simpa using hj
        subst hji
        unfold wpOp
        simp only [ho]
        simp only [wpSeqG] at h
        split at h
        · rename_i hw
          rw [if_pos hw]
          refine .inl (Oper.wp_mono ?_ h)
          rintro a' w' ⟨hS', h'⟩
          exact ⟨by rw [hcs]; exact hS', wpG_of_seqE hs hQ r l' _ a' w' n (k + 1) hl' hk hf' hK' hcs hS' h'⟩
        · rename_i hw
          rw [if_neg hw]
          exact ⟨by rw [hcs]; exact h.1, wpG_of_seqE hs hQ r l' _ _ w n (k + 1) hl' hk hf' hK' hcs h.1 h.2⟩
      | some m =>
        simp only [seqOkG, Bool.and_eq_true, Bool.not_eq_true'] at hk
        obtain ⟨⟨⟨⟨hfree, hcon⟩, hX⟩, hcap⟩, hk⟩ := hk
        obtain ⟨v, hy, h'⟩ := h
        have hmem : i ∈ Region.ready .any ops l := by simpa using hcon
        have hcs : cnt X (l.setIfInBounds i true) = k := by rw [cnt_ne hX, hc]
        refine wpG_first ho (Region.noSelect_spec hs) (fun c a w => hQ i o ho c a _ w) (fun l' => Kept ops l' ∧ ∀ q, l.getD q false = true → l'.getD q false = true) (fun l' j hR hj => ⟨hR.1.set hj, fun q hq => getD_set_true (hR.2 q hq)⟩)
          (fun l' w' => by rw [cnt_ne hX]) n l a w (Region.free_spec ho hfree) hmem ?_ ⟨hK, fun q hq => hq⟩ (by rw [hc]; exact hT) (wpG_of_seqE hs hQ r l' _ _ w n k hl' hk hf' (hK.set hmem) hcs hT h')
        rcases hy with ⟨hw, hv⟩ | hy
        · refine .inl ⟨hw, fun w' hw' => hv w' ?_⟩
          obtain ⟨l2, ⟨hK2, hsub⟩, hun, hT2⟩ := hw'
          exact ⟨cnt X l2, by rw [← hc]; exact cnt_mono hsub, cnt_cap hK2 hun hcap, hT2⟩
        · exact .inr hy
    · cases hp
theorem wp_region_seqE {T : Nat → World → Prop} {X ds : List Nat} {id : Nat} {a : Act} {w : World} {sq : List (Option Nat × Oper)} (L : List (Nat × Option Nat)) (hds : ops.all (fun o => match o.dst with | some d => ds.contains d | none => true) = true) (hm : P.follows .mixedOrders = true) (hs : Region.noSelect ops = true) (hk : seqOkG ops X L (Array.replicate ops.size false) = true) (hn : L.length ≤ ops.size)
    (hp : pickG ops L = some sq) (hT : T 0 w.drew) (h : wpSeqG P ops (PanQ ds Q) T 0 sq a w.drew) : (Code.region id ops true).wp P Q a w := by
  refine Code.wp_mono (Q := PanQ ds Q) (fun e a w q => by cases e <;> first | exact q | exact q.elim | exact q a (.refl _ _)) ?_
  refine wp_region_any hm (wpAny_of_wpG _ _ _ _ (wpG_of_seqE (X := X) hs (fun i o ho c a v w q a' ha' => ?_) L sq _ a _ _ 0 hp hk hn ?_ ?_ hT h))
  · have hmem : o ∈ ops := by
      obtain ⟨hi, he⟩ := Array.getElem?_eq_some_iff.1 ho
      exact he ▸ Array.getElem_mem hi
    have := Array.all_eq_true_iff_forall_mem.1 hds o hmem
    cases hd : o.dst with
    | none => rw [hd] at q; exact q a' ha'
    | some d =>
      rw [hd] at this q
      exact q a' (ha'.put (by simpa using this))
  · intro j hj
    simp [Array.getElem?_replicate] at hj
    split at hj <;> cases hj
  · unfold cnt
    rw [List.countP_eq_zero]
    intro x _
    simp [Array.getElem?_replicate]
    split <;> rfl
end
/-- what is known of the other temporaries -/
def offE (ds : List Nat) (ρ : Env) : Env := ρ.filter fun p => !ds.contains p.1
theorem offE_get {ds : List Nat} : ∀ {ρ : Env} {t : Nat} {v : Value}, get (offE ds ρ) t = some v → t ∉ ds ∧ get ρ t = some v
  | [], t, v, h => by simp [offE, get] at h
  | (t0, v0) :: ρ, t, v, h => by
    unfold offE at h
    rw [List.filter_cons] at h
    by_cases hc : ds.contains t0 = true
    · rw [if_neg (by simpa using hc)] at h
      obtain ⟨h1, h2⟩ := offE_get (ρ := ρ) h
      refine ⟨h1, ?_⟩
      have hne : t0 ≠ t := fun e => h1 (by rw [← e]; simpa using hc)
      simp only [get]
      have hbf : Nat.beq t0 t = false := by
        cases hb : Nat.beq t0 t with
        | true => exact absurd (Nat.eq_of_beq_eq_true hb) hne
        | false => rfl
      rw [hbf]
      exact h2
    · rw [if_pos (by simpa using hc)] at h
      simp only [get] at h ⊢
      cases hb : Nat.beq t0 t with
      | true =>
        rw [hb] at h
        have : t0 = t := Nat.eq_of_beq_eq_true hb
        subst this
        exact ⟨by simpa using hc, h⟩
      | false =>
        rw [hb] at h
        exact offE_get (ρ := ρ) h
section
variable {P : Program} {ops : Array Oper} {Q : Exit → Act → World → Prop} {N : Nat} {D : List Deferred} {ρ ρ' : Env} {b : Base} {X X' X0 Xr S S' S0 X1 S1 : List Res} {k c : Nat} {ds : List Nat}
theorem hdrwBE {id : Nat} {l : List (Option Nat × Oper)} (ds : List Nat) (is js : List Nat) (hX : takeR is X = some (X1, Xr)) (hS : getR js S = some S1) (Xs : List Nat) (L : List (Nat × Option Nat)) (hm : P.follows .mixedOrders = true)
    (hk : (Region.noSelect ops && seqOkG ops Xs L (Array.replicate ops.size false) && decide (L.length ≤ ops.size)) = true) (hds : ops.all (fun o => match o.dst with | some d => ds.contains d | none => true) = true)
    (hp : pickG ops L = some l) (c : Nat) (h : HT P ops (PanQ ds Q) (TT b X1 S1 c) N D 0 l ρ b X S) : HC P Q N D (.region id ops true) ρ b X S := fun w m a ha => by
  simp only [Bool.and_eq_true, decide_eq_true_eq] at hk
  exact wp_region_seqE (X := Xs) L hds hm hk.1.1 hk.1.2 hk.2 hp (fun _ => (wk is js hX hS).mem (m.lift (Fr.drew w))) (h _ (m.lift (Fr.drew w)) a ha)
theorem htendE {T : Nat → World → Prop} (h : HQ Q N D .normal ρ b X S) : HT P ops (PanQ ds Q) T N D k [] ρ b X S := fun w m a ha => h w m a ha
theorem hpanq {e : List PanicEntry} (h : HQ Q N D (.panic e) (offE ds ρ) b X S) : HQ (PanQ ds Q) N D (.panic e) ρ b X S := fun w m a ha a' hag => by
  obtain ⟨h1, h2, h3⟩ := hag
  refine h w m a' ⟨by rw [h2]; exact ha.sz, by rw [h1]; exact ha.df, fun t v ht => ?_⟩
  obtain ⟨h4, h5⟩ := offE_get ht
  rw [h3 t h4]
  exact ha.gt t v h5
end
/-! ### a closure that recovers: its first region -/
section
variable {P : Program} {ops : Array Oper} {fn : Func} {Q : Exit → Act → List Frame → World → Prop} {N : Nat} {D : List Deferred} {ρ : Env} {b : Base} {X X' S S' : List Res} {cs : List Frame} {c₀ : Frame} {rest : List Nat} {op : Op} {ty : TypeId} {pos : String} {af : Array Edge} {d i : Nat} {v : Value}
def HSL (P : Program) (ops : Array Oper) (Q : Exit → Act → List Frame → World → Prop) (N : Nat) (D : List Deferred) (l : List Nat) (ρ : Env) (cs : List Frame) (b : Base) (X S : List Res) : Prop := ∀ w, Mem b X S w → SL P ops Q N D l ρ cs w
theorem wpOpsS_step {o : Oper} {a : Act} {w : World} (ho : ops[i]? = some o) (hw : Region.wanted o (yielded ops a.tmps) = true) (h : o.wp P a w (fun a' w' => wpOpsS P ops Q rest a' cs w') (fun e a' w' => Q e a' cs w')) : wpOpsS P ops Q (i :: rest) a cs w := by
  simp only [wpOpsS, ho]
  rw [if_pos hw]
  unfold Oper.wp at h
  split
  · rename_i w' hr
    rw [hr] at h
    exact h.elim
  · exact h
theorem hsl_y (ho : ops[i]? = some ⟨some d, op, ty, pos, af, none⟩) (h : ∀ {w}, Mem b X S w → Yl P N D ρ w op ty v) (k : HSL P ops Q N D rest ((d, v) :: ρ) cs b X S) (hd : d < N := by decide) : HSL P ops Q N D (i :: rest) ρ cs b X S := fun w m => sl_y ho (h m) (k w m) hd
theorem hsl_x (ho : ops[i]? = some ⟨some d, op, ty, pos, af, none⟩) (h : XH P (fun e a w => Q e a cs w) N D ρ b X S op ty fun v X' S' => HSL P ops Q N D rest ((d, v) :: ρ) cs b X' S') (hd : d < N := by decide) : HSL P ops Q N D (i :: rest) ρ cs b X S := fun w m a ha => by
  refine wpOpsS_step ho (by simp [Region.wanted]) (Oper.wp_mono ?_ (h w m a (some d) pos af none ha))
  rintro a' w' ⟨v, rfl, X', S', m', hk⟩
  exact hk w' m' _ (ha.put hd)
theorem hsl_x0 (ho : ops[i]? = some ⟨none, op, ty, pos, af, none⟩) (h : XH P (fun e a w => Q e a cs w) N D ρ b X S op ty fun _ X' S' => HSL P ops Q N D rest ρ cs b X' S') : HSL P ops Q N D (i :: rest) ρ cs b X S := fun w m a ha => by
  refine wpOpsS_step ho (by simp [Region.wanted]) (Oper.wp_mono ?_ (h w m a none pos af none ha))
  rintro a' w' ⟨v, rfl, X', S', m', hk⟩
  exact hk w' m' _ ha
theorem hsl_rec {tys : Array TypeId} {pv : Value} {older : List PanicEntry} (ho : ops[i]? = some ⟨some d, .call ⟨.builtin .recover, #[], tys⟩, ty, pos, af, none⟩) (hu : c₀.mode = .panicking ({ v := pv, recovered := false } :: older))
    (k : HSL P ops Q N D rest ((d, pv) :: ρ) ({ c₀ with mode := .panicking ({ v := pv, recovered := true } :: older) } :: cs) b X S) (hd : d < N := by decide) : HSL P ops Q N D (i :: rest) ρ (c₀ :: cs) b X S := fun w m => sl_rec ho hu (k w m) hd
theorem hsl_rec0 {tys : Array TypeId} (ho : ops[i]? = some ⟨some d, .call ⟨.builtin .recover, #[], tys⟩, ty, pos, af, none⟩) (hu : c₀.mode = .returning) (k : HSL P ops Q N D rest ((d, .nilIface) :: ρ) ({ c₀ with mode := .returning } :: cs) b X S) (hd : d < N := by decide) : HSL P ops Q N D (i :: rest) ρ (c₀ :: cs) b X S := fun w m =>
  sl_rec0 ho hu (by have := k w m; rwa [show ({ c₀ with mode := FrameMode.returning } : Frame) = c₀ by cases c₀; simp_all] at this) hd
theorem hslmem {l : List Nat} (h : ∀ w, Mem b X S w → Mem b X' S' w) (k : HSL P ops Q N D l ρ cs b X' S') : HSL P ops Q N D l ρ cs b X S := fun w m => k w (h w m)
/-- what is said behind the region: the rest is ordinary code -/
def RD' (b : Base) (R : FrameMode → List Res → List Res → Prop) : Ending → FrameMode → World → Prop := fun e u' w' => e = .returned (.tuple #[]) ∧ ∃ X' S', R (settle u') X' S' ∧ Mem b X' S' w'
def QD (P : Program) (fn : Func) (c₀ : Frame) (cs : List Frame) (b : Base) (R : FrameMode → List Res → List Res → Prop) (c2 : Code) : Exit → Act → List Frame → World → Prop := Exit.thenS (fun a cs' w => c2.wpS P (bodyPostS P fn c₀ cs (RD' b R)) a cs' w) (bodyPostS P fn c₀ cs (RD' b R))
theorem hsl_done {R : FrameMode → List Res → List Res → Prop} {c2 : Code} {u2 : FrameMode} (h : HC P (bodyPost P fn (RB b fun v X S => v = .tuple #[] ∧ R (settle u2) X S)) N [] c2 ρ b X S) : HSL P ops (QD P fn c₀ cs b R c2) N [] [] ρ ({ c₀ with mode := u2 } :: cs) b X S := fun w m a ha => by
  refine s_rest m h ha ?_
  rintro e w' ⟨v, X', S', rfl, ⟨rfl, hR⟩, m'⟩
  exact ⟨_, rfl, rfl, X', S', hR, m'⟩
end
theorem henterS {P : Program} {f : Nat} {fn : Func} {id : Nat} {ops : Array Oper} {c2 : Code} {vs : List Value} {u : FrameMode} {N : Nat} {X0 S0 : List Res} {R : FrameMode → List Res → List Res → Prop} (hf : P.funcs[f]? = some fn) (hb : fn.body = some (.seq (.region id ops false) c2)) (hN : fn.ntmps = N) (hl : vs.length ≤ N)
    (h : ∀ (b : Base) (c₀ : Frame) (cs : List Frame), c₀.mode = u → HSL P ops (QD P fn c₀ cs b R c2) N [] (List.range ops.size) (argsEnv vs 0) (c₀ :: cs) b X0 S0) : ConD P f vs u X0 S0 R := fun w m => by
  refine callsD_of_wpS hf hb fun c₀ cs hu => ?_
  refine wpS_seq (wpS_region ?_)
  refine h _ c₀ cs hu w m _ ⟨?_, rfl, fun t v ht => ?_⟩
  · simp [hN]; omega
  · obtain ⟨_, h2⟩ := get_argsEnv vs 0 t v ht
    have hlt := (List.getElem?_eq_some_iff.1 h2).1
    rw [Array.getElem?_append_left (by simpa using hlt)]
    simpa using h2
/-! ### panic, and assertions -/
section
variable {P : Program} {Q : Exit → Act → World → Prop} {N : Nat} {D : List Deferred} {ρ : Env} {b : Base} {X S : List Res} {ty t : TypeId} {x : Operand} {v : Value} {K : Value → List Res → List Res → Prop}
theorem xh_panic (hx : ev ρ x = some (.iface t v)) (h : HQ Q N D (.panic (pan (.iface t v))) ρ b X S) : XH P Q N D ρ b X S (.panic x) ty K := fun w m a dst pos af g ha => by
  unfold Oper.wp
  have : (execOp a.eval ⟨dst, .panic x, ty, pos, af, g⟩).run P w = .halt (.panic (.iface t v)) w := by
    simp [execOp, ha.eval hx, Instr.panic, goPanic]
  rw [this]
  exact h w m a ha
theorem run_tasS {fs : Array Field} {xT : TypeId} {w : World} (ht : P.underlying t = some (.struct fs)) : (Instr.typeAssert (.iface t v) xT t true).run P w = .ok (.tuple #[v, .bool true]) w := by
  simp [Instr.typeAssert, run_underlying ht]
theorem run_tas0 {fs : Array Field} {xT : TypeId} {w : World} {z : Value} {sz bytes : Nat} (ht : P.underlying t = some (.struct fs)) (hT : TI P t z sz bytes) : (Instr.typeAssert .nilIface xT t true).run P w = .ok (.tuple #[z, .bool false]) w := by
  simp [Instr.typeAssert, run_underlying ht, run_zero hT]
end
section
variable {P : Program} {fn : Func} {R : Value → List Res → List Res → Prop} {N : Nat} {ρ : Env} {b : Base} {X X' Xz S S' : List Res} {w : World}
theorem run_load1 {t : TypeId} {p : Addr} {v : Value} (ha : aggB P t = some false) (hc : w.cell? p = some v) : (loadVar t p).run P w = .ok v w := by
  simp [loadVar, run_isAgg ha, hc]
theorem hlastCC {t t' : Nat} {ty ty' : TypeId} {p p' : Addr} {v v' : Value} (hr : fn.results = #[.cell t ty, .cell t' ty']) (hv : get ρ t = some (.pointer (some p))) (hv' : get ρ t' = some (.pointer (some p'))) (ha : aggB P ty = some false) (ha' : aggB P ty' = some false)
    (hc : ∀ {w}, Mem b X S w → w.cell? p = some v) (hc' : ∀ {w}, Mem b X S w → w.cell? p' = some v') (is : List Nat) (hX : takeR is X = some (X', Xz)) (js : List Nat) (hS : getR js S = some S') (hR : R (.tuple #[v, v']) X' S') : HEu P fn b R N [] ρ X S .returning := fun w m tmps h =>
  ⟨.tuple #[v, v'], by have h1 := tmps_getD h hv; have h2 := tmps_getD h hv'; simp at h1 h2; simp [results, hr, h1, h2, asAddr, run_load1 ha (hc m), run_load1 ha' (hc' m)], _, _, _, rfl, hR, m.out is hX js hS⟩
theorem hret4 {e : Exit} {t1 t2 t3 t4 : Nat} {v1 v2 v3 v4 : Value} (he : Leaves e) (hr : fn.results = #[.tmp t1, .tmp t2, .tmp t3, .tmp t4]) (h1 : get ρ t1 = some v1) (h2 : get ρ t2 = some v2) (h3 : get ρ t3 = some v3) (h4 : get ρ t4 = some v4) (is : List Nat) (hX : takeR is X = some (X', Xz)) (js : List Nat) (hS : getR js S = some S') (hR : R (.tuple #[v1, v2, v3, v4]) X' S') : HQ (bodyPost P fn (RB b R)) N [] e ρ b X S :=
  fun w m => wq_leave he (fun a hA => by have g1 := hA.getD h1; have g2 := hA.getD h2; have g3 := hA.getD h3; have g4 := hA.getD h4; simp at g1 g2 g3 g4; simp [results, hr, g1, g2, g3, g4]) ⟨_, _, _, rfl, hR, m.out is hX js hS⟩
theorem humem {u : FrameMode} {D : List Deferred} (h : ∀ w, Mem b X S w → Mem b X' S' w) (k : HEu P fn b R N D ρ X' S' u) : HEu P fn b R N D ρ X S u := fun w m => k w (h w m)
end
end Go.Eng
end
section
/- The engine over things in memory, tenth part: one thing out of a pack, and back; a slice of one's own from a place on; keys of n bytes. No statement is proved here. -/
set_option linter.unusedVariables false
set_option linter.unusedSimpArgs false
set_option linter.unusedSectionVars false
namespace Go.Eng
open Go.RowKit
open Go.ChangeMaps (setBlock)
section
variable {b : Base} {X S Xp Xq : List Res} {w : World} {r : Res}
theorem Mem.packPerm (m : Mem b (RPack Xp :: X) S w) (h : Xp.Perm Xq) : Mem b (RPack Xq :: X) S w := ((m.unpack).perm (h.append_right X)).pack
theorem Mem.packTake (m : Mem b (RPack Xp :: X) S w) (i : Nat) (h : Xp[i]? = some r) : Mem b (r :: RPack (Xp.eraseIdx i) :: X) S w := by
  obtain ⟨hlt, rfl⟩ := List.getElem?_eq_some_iff.1 h
  have m1 := (m.packPerm (eraseIdx_perm Xp i hlt).symm).unpack
  rw [List.cons_append] at m1
  have m2 : Mem b (Xp.eraseIdx i ++ (Xp[i] :: X)) S w := m1.perm (List.perm_middle.symm)
  exact (m2.pack).perm (List.Perm.swap ..)
theorem Mem.packPut (m : Mem b (r :: RPack Xp :: X) S w) : Mem b (RPack (r :: Xp) :: X) S w := by
  have m1 : Mem b (RPack Xp :: r :: X) S w := m.perm (List.Perm.swap ..)
  have m2 := m1.unpack
  have m3 : Mem b ((r :: Xp) ++ X) S w := m2.perm (List.perm_middle)
  exact m3.pack
theorem Mem.packNil (m : Mem b X S w) : Mem b (RPack [] :: X) S w := Mem.pack (Xp := []) m
end
/-! ### n bytes as keys -/
abbrev Bn (n : Nat) := {l : List UInt8 // l.length = n}
def KN {n : Nat} (d : Bn n) : Value := DV d.1
theorem bnKey {P : Program} {kt e : TypeId} {n : Nat} (ht : P.underlying kt = some (.array n e)) (he : P.underlying e = some (.int .u8)) (hs : P.cellsOf kt = n) (hse : P.cellsOf e = 1) (hk : P.keyTypeAt 2 kt = true) : KeyK P kt (KN (n := n)) where
  inj a b h := Subtype.ext (DV_inj h)
  check w em d := by
    have h1 : (KN d).formed P kt = true := by simp [Value.formed, KN, DV, ht, b8s_length, d.2, hs]
    have h2 := keyLits_b8 (P := P) (D := 0) (l := d.1) ht he hs hse d.2
    exact run_checkKey_deep em 9998 2 kt hk w 2 (KN d) _ h1 (by simpa [KN, DV, Value.cells] using h2)
  find w k es h := by
    have hag : aggB P kt = some true := by simp [aggB, ht]
    have heq : ∀ q : Bn n, (Op.equal kt (KN k) (KN q)).run P w = .ok (decide (k = q)) w := fun q => by
      have h2 := keyLits_b8 (P := P) (D := 0) (l := k.1) ht he hs hse k.2
      have h3 := keyLits_b8 (P := P) (D := 0) (l := q.1) ht he hs hse q.2
      exact run_eqlK (m := 2) (p := k = q) (by decide) hk hag (by rw [b8s_length, hs]; exact k.2) (by rw [b8s_length, hs]; exact q.2) h2 h3 (by rw [lits_b8_inj]; exact ⟨fun e => Subtype.ext e, fun e => by rw [e]⟩)
    have hnow : ∀ (es : List MapEntry) (i : Nat), es ≠ [] → Instr.findNow (.array n e) (KN k) es i = none := fun es i hne => by
      cases es with
      | nil => exact absurd rfl hne
      | cons x r => rfl
    have hask : ∀ (es : List MapEntry) (i : Nat), (∀ x ∈ es, ∃ q : Bn n, x.key = KN q) → (∃ j x, es[j]? = some x ∧ x.key = KN k ∧ (Instr.findAsking kt (KN k) es i).run P w = .ok (some (i + j, x.val)) w) ∨ ((∀ x ∈ es, x.key ≠ KN k) ∧ (Instr.findAsking kt (KN k) es i).run P w = .ok none w) := by
      intro es
      induction es with
      | nil => intro i _; exact .inr ⟨by simp, rfl⟩
      | cons x r ih =>
        intro i h
        obtain ⟨q, hq⟩ := h x (by simp)
        have hx := heq q
        rw [← hq] at hx
        by_cases hkq : k = q
        · rw [decide_eq_true hkq] at hx
          exact .inl ⟨0, x, rfl, by rw [hq, hkq], by simp [Instr.findAsking, hx]⟩
        · rw [decide_eq_false hkq] at hx
          rcases ih (i + 1) (fun y hy => h y (by simp [hy])) with ⟨j, y, hj, hy, hf⟩ | ⟨hall, hf⟩
          · refine .inl ⟨j + 1, y, by simpa using hj, hy, ?_⟩
            simp [Instr.findAsking, hx, hf]
            omega
          · refine .inr ⟨fun y hy => ?_, by simp [Instr.findAsking, hx, hf]⟩
            rcases List.mem_cons.1 hy with rfl | hy
            · rw [hq]; exact fun e => hkq (Subtype.ext (DV_inj e)).symm
            · exact hall y hy
    cases es with
    | nil => exact .inr ⟨by simp, by simp [Instr.findKey, run_underlying ht, Instr.findNow]⟩
    | cons x r =>
      have h0 := hnow (x :: r) 0 (by simp)
      rcases hask (x :: r) 0 h with ⟨j, y, hj, hy, hf⟩ | ⟨hall, hf⟩
      · refine .inl ⟨j, y, hj, hy, ?_⟩
        simp [Instr.findKey, run_underlying ht, h0, hf]
      · exact .inr ⟨hall, by simp [Instr.findKey, run_underlying ht, h0, hf]⟩
  stays w k := by
    have : Instr.sameBits 10000 (KN k) (KN k) = true := by
      show ((b8s k.1).toArray.size == (b8s k.1).toArray.size && ((b8s k.1).toArray.toList.zip (b8s k.1).toArray.toList).all fun (x, y) => Instr.sameBits 9999 x y) = true
      simp only [beq_self_eq_true, Bool.true_and]
      exact same_u8s 9999 k.1
    simp [Instr.keyThatStays, this]
/-! ### m[k] = f(m[k]): the entry first, then what is stored in it -/
section
variable {κ : Type} [DecidableEq κ] {enc : κ → Value}
def EntAt (enc : κ → Value) (w : World) (b : Nat) (l : List (κ × Value)) (k : κ) (st : Nat) : Prop :=
  ∃ es clock, w.heap[b]? = some (.map es clock) ∧ es.toList.map (fun e => (e.key, e.val)) = l.map (fun p => (enc p.1, p.2)) ∧ (akeys l).Nodup ∧ (∀ e ∈ es.toList, e.born < clock) ∧ (es.toList.map (·.born)).Nodup ∧ ∃ (i : Nat) (x : MapEntry) (u : Value), es.toList[i]? = some x ∧ x.born = st ∧ l[i]? = some (k, u)
def REnt (enc : κ → Value) (b : Nat) (l : List (κ × Value)) (k : κ) (st : Nat) : Res where
  foot i := i = b
  holds w := EntAt enc w b l k st
  keep f h m := by
    obtain ⟨es, clock, hb, rest⟩ := m
    exact ⟨es, clock, (f.block b (lt_of_heap hb) (h b rfl)).trans hb, rest⟩
  low m hk := by
    obtain ⟨es, clock, hb, rest⟩ := m
    exact hk ▸ lt_of_heap hb
theorem aput_aput {l : List (κ × Value)} {k : κ} {u v : Value} : aput (aput l k u) k v = aput l k v := by
  induction l with
  | nil => simp [aput]
  | cons p r ih =>
    obtain ⟨q, x⟩ := p
    by_cases h : q = k
    · simp [aput, h]
    · simp [aput, h, ih]
theorem run_entryM {P : Program} {w : World} {t kt et : TypeId} {b : Nat} {l : List (κ × Value)} {z : Value} {sz bytes : Nat} (ht : P.underlying t = some (.map kt et)) (hT : TI P et z sz bytes) (K : KeyK P kt enc) (h : MapAt enc w b l) (k : κ) :
    ∃ (st : Nat) (w' : World), (Instr.mapEntry t (.map (some b)) (enc k)).run P w = .ok (.tuple #[(aget l k).getD z, .int .i64 (st : Nat)]) w' ∧ EntAt enc w' b (aput l k ((aget l k).getD z)) k st ∧ Fr (fun i => i = b) w w' := by
  have hn := h.keys
  obtain ⟨es, clock, hb, hl, hborn, hnb, hf⟩ := h.found K k
  have hg : (getObj b).run P w = .ok (.map es clock) w := by simp [getObj, Sem.run, hb]
  have hc := K.check w false k
  rcases hf with ⟨i, x, hi, hp, ha, hx, hf⟩ | ⟨ha, hf⟩
  · have hst := K.stays w k
    have hxi : es[i]? = some x := by simpa using hi
    have hsame : es.modify i (fun e => { e with key := enc k }) = es := by
      apply Array.ext'
      apply List.ext_getElem?
      intro j
      rw [Array.toList_modify, List.getElem?_modify]
      by_cases hij : i = j
      · subst hij
        rw [hi]
        show some (if i = i then ({ x with key := enc k } : MapEntry) else x) = some x
        rw [if_pos rfl, ← hx]
      · simp [hij]
    refine ⟨x.born, setBlock w b (.map es clock), ?_, ⟨es, clock, setBlock_at hb, ?_, aput_nodup hn, hborn, hnb, i, x, x.val, hi, rfl, ?_⟩, setBlock_fr⟩
    · rw [ha]
      simp [Instr.mapEntry, run_underlying ht, hg, hc, hf, hxi, hx, hst, hsame, run_setObjM hb, goInt]
    · rw [ha, aput_at hn hp, hl]
      congr 1
      apply List.ext_getElem?
      intro j
      rw [List.getElem?_set]
      by_cases hij : i = j
      · subst hij
        rw [if_pos rfl, if_pos (List.getElem?_eq_some_iff.1 hp).1, hp]
        rfl
      · rw [if_neg hij]
    · rw [ha, aput_at hn hp, List.getElem?_set, if_pos rfl, if_pos (List.getElem?_eq_some_iff.1 hp).1]
      rfl
  · have hlen : es.toList.length = l.length := by have := congrArg List.length hl; simpa using this
    refine ⟨clock, setBlock w b (.map (es.push { key := enc k, val := z, born := clock }) (clock + 1)), ?_, ⟨_, _, setBlock_at hb, ?_, aput_nodup hn, ?_, ?_, es.toList.length, { key := enc k, val := z, born := clock }, z, by simp, rfl, ?_⟩, setBlock_fr⟩
    · rw [ha]
      simp [Instr.mapEntry, run_underlying ht, hg, hc, hf, run_zero hT, run_setObjM hb, goInt]
    · rw [ha, aput_new ha, Array.toList_push, List.map_append, hl]
      simp
    · intro e he
      rw [Array.toList_push] at he
      rcases List.mem_append.1 he with he | he
      · have := hborn e he; omega
      · rcases List.mem_singleton.1 he with rfl
        exact Nat.lt_succ_self _
    · rw [Array.toList_push, List.map_append]
      refine nodup_snoc hnb (fun hm => ?_)
      obtain ⟨e, he, hk⟩ := List.mem_map.1 hm
      have := hborn e he
      simp only at hk
      omega
    · rw [ha, aput_new ha, hlen]
      simp
theorem run_estoreM {P : Program} {w : World} {t : TypeId} {b : Nat} {l : List (κ × Value)} {k : κ} {st : Nat} (h : EntAt enc w b l k st) (v : Value) :
    ∃ w', (Instr.entryStore t (.map (some b)) (.int .i64 (st : Nat)) v).run P w = .ok () w' ∧ MapAt enc w' b (aput l k v) ∧ Fr (fun i => i = b) w w' := by
  obtain ⟨es, clock, hb, hl, hn, hborn, hnb, i, x, u, hi, rfl, hp⟩ := h
  have hg : (getObj b).run P w = .ok (.map es clock) w := by simp [getObj, Sem.run, hb]
  have hidx : es.findIdx? (fun e => ((e.born : Nat) : Int) == ((x.born : Nat) : Int)) = some i := by
    rw [WideElems.findIdx_arr]
    exact WideElems.findIdx_born hnb hi
  refine ⟨setBlock w b (.map (es.modify i fun e => { e with val := v }) clock), ?_, ⟨_, clock, setBlock_at hb, ?_, aput_nodup hn, ?_, ?_⟩, setBlock_fr⟩
  · simp [Instr.entryStore, hg, asInt, asIntOf, hidx, run_setObjM hb]
  · rw [aput_at hn hp, Array.toList_modify]
    apply List.ext_getElem?
    intro j
    have hj := congrArg (fun q : List (Value × Value) => q[j]?) hl
    simp only [List.getElem?_map] at hj
    simp only [List.getElem?_map, List.getElem?_modify, List.getElem?_set]
    by_cases hij : i = j
    · subst hij
      have hlt := (List.getElem?_eq_some_iff.1 hp).1
      rw [hi, hp] at hj
      simp only [Option.map_some, Option.some.injEq, Prod.mk.injEq] at hj
      simp [hi, hlt, hj.1]
    · simp only [hij, if_false]
      simpa using hj
  · intro e he
    rw [Array.toList_modify] at he
    obtain ⟨j, hj⟩ := List.mem_iff_getElem?.1 he
    rw [List.getElem?_modify] at hj
    cases hej : es.toList[j]? with
    | none => rw [hej] at hj; simp at hj
    | some e0 =>
      have := hborn e0 (List.mem_of_getElem? hej)
      rw [hej] at hj
      simp only [Option.map_eq_map, Option.map_some, Option.some.injEq] at hj
      subst hj
      split <;> exact this
  · have : (es.modify i fun e => { e with val := v }).toList.map (·.born) = es.toList.map (·.born) := by
      apply List.ext_getElem?
      intro j
      rw [Array.toList_modify]
      simp only [List.getElem?_map, List.getElem?_modify]
      cases es.toList[j]? with
      | none => rfl
      | some e0 => simp only [Option.map_eq_map, Option.map_some]; split <;> rfl
    rw [this]
    exact hnb
section
variable {P : Program} {Q : Exit → Act → World → Prop} {N : Nat} {D : List Deferred} {ρ : Env} {b : Base} {X S : List Res} {ty t kt et : TypeId} {x y q : Operand} {K : Value → List Res → List Res → Prop} {g : Nat} {l : List (κ × Value)}
theorem xh_entry {k : κ} {z : Value} {sz bytes : Nat} (i : Nat) (hi : X[i]? = some (RMap enc g l)) (hx : ev ρ x = some (.map (some g))) (hy : ev ρ y = some (enc k)) (ht : P.underlying t = some (.map kt et)) (hT : TI P et z sz bytes) (hK : KeyK P kt enc)
    (kk : ∀ st : Nat, K (.tuple #[(aget l k).getD z, .int .i64 (st : Nat)]) (REnt enc g (aput l k ((aget l k).getD z)) k st :: X.eraseIdx i) S) : XH P Q N D ρ b X S (.mapEntry t x y) ty K := fun w m => by
  obtain ⟨st, w', hrun, hE, hf⟩ := run_entryM ht hT hK (m.mapX i hi) k
  refine xw_of_run (v' := .tuple #[(aget l k).getD z, .int .i64 (st : Nat)]) (w' := w') (fun a _ _ _ _ ha => by simp [execOp, ha.eval hx, ha.eval hy, hrun]) ⟨_, _, ?_, kk st⟩
  have m' := m.perm (takeR_perm [i] X [RMap enc g l] (X.eraseIdx i) (by simp [takeR, hi]))
  exact m'.change (r' := REnt enc g (aput l k ((aget l k).getD z)) k st) hf hE (fun k hk => .inl hk)
theorem xh_estore {k : κ} {st : Nat} {v : Value} (i : Nat) (hi : X[i]? = some (REnt enc g l k st)) (hx : ev ρ x = some (.map (some g))) (hy : ev ρ y = some (.int .i64 (st : Nat))) (hq : ev ρ q = some v)
    (kk : K undef (RMap enc g (aput l k v) :: X.eraseIdx i) S) : XH P Q N D ρ b X S (.entryStore t x y q) ty K := fun w m => by
  have hE : EntAt enc w g l k st := m.hx _ (List.mem_of_getElem? hi)
  obtain ⟨w', hrun, hM, hf⟩ := run_estoreM (P := P) (t := t) hE v
  refine xw_of_run0 (w' := w') (fun a _ _ _ _ ha => by simp [execOp, ha.eval hx, ha.eval hy, ha.eval hq, hrun]) ⟨_, _, ?_, kk⟩
  have m' := m.perm (takeR_perm [i] X [REnt enc g l k st] (X.eraseIdx i) (by simp [takeR, hi]))
  exact m'.change (r' := RMap enc g (aput l k v)) hf hM (fun k hk => .inl hk)
end
end
end Go.Eng
end
section
/- Contracts: bytes in fewer (layer 5): how long a match is. -/
set_option linter.unusedVariables false
set_option linter.unusedSimpArgs false
set_option maxRecDepth 20000
set_option maxHeartbeats 2000000
namespace Go.Proofs.YtfikjheicjamhaaDoor
open Go.Eng Go.Hx
theorem longC {A : Option Addr} {n c i k : Nat} {l : List UInt8} (hn : n ≤ 1000000000) (hl : l.length = n) (hi : i ≤ n) (hk : k ≤ i) : Con Tryd.prog 176 [.slice A n c, .int .i64 (i : Nat), .int .i64 (k : Nat)] [] [RRd 1 A n (b8s l)] (fun v_ X_ S_ => v_ = (.int .i64 (lng l i k : Nat)) ∧ X_ = [] ∧ S_ = []) := by
  refine henter (N := 36) Tryd.func176 rfl rfl (by simp) fun b => ?_
  refine hfactC (fun m => rdB (m.rd 0 rfl)) ?_
  rintro ⟨hl_r, hA_r⟩
  refine hseq <| hreg <| hy (fun _ => y_assign rfl) <| hend <| hthen <| hseq <| hreg <| hy (fun _ => y_assign rfl) <| hend <| hthen <| hseq <| hblock <| ?_
  refine hloop1 (fun m => 131 - m) (fun m => [(7, .int .i64 (m : Nat))]) (fun m => []) (fun m => []) (fun m => m ≤ 131 ∧ i + m ≤ n ∧ lngF l i k (131 - m) m = lng l i k) 0 [(6, _), (0, _), (1, _), (2, _)] ⟨rfl, rfl, rfl, rfl, trivial⟩ [] rfl [] rfl (⟨by decide, hi, rfl⟩) ⟨rfl, trivial⟩ (fun m ⟨hm, him, hL⟩ => ?_)
  refine hseq <| hseq <| hdrw [] [(0, some 0), (1, some 0), (2, some 0), (3, some 0), (4, some 0), (5, some 0), (6, some 0), (7, some 0), (8, some 0), (9, some 0), (10, some 0), (11, some 0), (12, some 0), (13, some 0), (14, some 0), (15, some 0), (16, some 0), (17, some 0), (18, some 0), (19, some 0), (20, some 0), (21, some 0), (22, some 0), (23, some 0), (24, some 0)] (by kernel_rfl) (by kernel_rfl) rfl 99 <| htyU (y_move rfl) <| htyU (y_lss rfl rfl) <| htyU (y_move rfl) <| ?_
  refine htsplit 10 rfl (fun h1 => ?_) (fun h1 => ?_)
  · refine htyUg (o := _) rfl rfl rfl (y_move rfl) <| htyUg (o := _) rfl rfl rfl (y_move rfl) <| htyUg (o := _) rfl rfl rfl (y_add rfl rfl (w64 (by omega) (by omega))) <| htyUg (o := _) rfl rfl rfl (y_move rfl) <| htyUg (o := _) rfl rfl rfl (y_lenS rfl Tryd.underlying32) <| htyUg (o := _) rfl rfl rfl (y_lss rfl rfl) <| htyU (y_pickT rfl rfl) <| htyU (y_move rfl) <| ?_
    refine htsplit 18 rfl (fun h2 => ?_) (fun h2 => ?_)
    · refine htyUg (o := _) rfl rfl rfl (y_move rfl) <| htyUg (o := _) rfl rfl rfl (y_move rfl) <| htyUg (o := _) rfl rfl rfl (y_move rfl) <| htyUg (o := _) rfl rfl rfl (y_add rfl rfl (w64 (by omega) (by omega))) <| htyUg (o := _) rfl rfl rfl (y_idxS1 rfl rfl Tryd.underlying32 sz5 hA_r (show ((i + m : Nat) : Int) = _ by omega) (by omega)) <| htyg (o := _) rfl rfl rfl (fun m => y_ld1 rfl ag5 ((m.rd 0 rfl).cell (b8s_get (by omega)))) <| htyUg (o := _) rfl rfl rfl (y_move rfl) <| htyUg (o := _) rfl rfl rfl (y_move rfl) <| htyUg (o := _) rfl rfl rfl (y_move rfl) <| htyUg (o := _) rfl rfl rfl (y_add rfl rfl (w64 (by omega) (by omega))) <| htyUg (o := _) rfl rfl rfl (y_idxS1 rfl rfl Tryd.underlying32 sz5 hA_r (show ((k + m : Nat) : Int) = _ by omega) (by omega)) <| htyg (o := _) rfl rfl rfl (fun m => y_ld1 rfl ag5 ((m.rd 0 rfl).cell (b8s_get (by omega)))) <| htyUg (o := _) rfl rfl rfl (y_eql rfl rfl) <| htyU (y_pickT rfl rfl) <| htend <| hsub (ρ' := [(32, _), (7, _), (6, _), (0, _), (1, _), (2, _)]) ⟨rfl, rfl, rfl, rfl, rfl, rfl, trivial⟩ <| hthen <| ?_
      refine hif rfl (fun h3 => ?_) (fun h3 => ?_)
      · have e3 : l.getD (i + m) 0 = l.getD (k + m) 0 := UInt8.toNat_inj.1 (by omega)
        rw [lngF_more (by omega) ⟨by omega, e3⟩] at hL
        refine hcskip <| hthen <| hblock <| hreg <| hy (fun _ => y_move rfl) <| hy (fun _ => y_add rfl rfl (w64 (by omega) (by omega))) <| hy (fun _ => y_assign rfl) <| hend <| hsub (ρ' := [(7, _), (32, _), (6, _), (0, _), (1, _), (2, _)]) ⟨rfl, rfl, rfl, rfl, rfl, rfl, trivial⟩ <| hqblock <| ?_
        refine hnext1 (m + 1) ⟨rfl, rfl, rfl, rfl, rfl, trivial⟩ [] rfl [0] rfl (⟨by omega, by omega, by rw [← hL]; rfl⟩) (by omega)
      · rw [lngF_stop (fun q => h3 (by rw [q.2]))] at hL
        rw [← hL]
        refine hexit <| hthen_exit <| hthen_exit <| hqblock_exit <| hthen <| hseq <| hreg <| hy (fun _ => y_move rfl) <| hy (fun _ => y_assign rfl) <| hend <| hsub (ρ' := [(6, _), (32, _), (7, _), (0, _), (1, _), (2, _)]) ⟨rfl, rfl, rfl, rfl, rfl, rfl, trivial⟩ <| hthen <| hret <| ?_
        exact hret1 trivial rfl rfl [] rfl [] rfl ⟨rfl, rfl, rfl⟩
    · rw [lngF_stop (fun q => h2 (by omega))] at hL
      rw [← hL]
      refine htskip rfl rfl rfl (by decide) <| htskip rfl rfl rfl (by decide) <| htskip rfl rfl rfl (by decide) <| htskip rfl rfl rfl (by decide) <| htskip rfl rfl rfl (by decide) <| htskip rfl rfl rfl (by decide) <| htskip rfl rfl rfl (by decide) <| htskip rfl rfl rfl (by decide) <| htskip rfl rfl rfl (by decide) <| htskip rfl rfl rfl (by decide) <| htskip rfl rfl rfl (by decide) <| htskip rfl rfl rfl (by decide) <| htskip rfl rfl rfl (by decide) <| htyU (y_pickF rfl rfl) <| htend <| hsub (ρ' := [(32, _), (7, _), (6, _), (0, _), (1, _), (2, _)]) ⟨rfl, rfl, rfl, rfl, rfl, rfl, trivial⟩ <| hthen <| ?_
      refine hiff rfl (rfl) ?_
      refine hexit <| hthen_exit <| hthen_exit <| hqblock_exit <| hthen <| hseq <| hreg <| hy (fun _ => y_move rfl) <| hy (fun _ => y_assign rfl) <| hend <| hsub (ρ' := [(6, _), (32, _), (7, _), (0, _), (1, _), (2, _)]) ⟨rfl, rfl, rfl, rfl, rfl, rfl, trivial⟩ <| hthen <| hret <| ?_
      exact hret1 trivial rfl rfl [] rfl [] rfl ⟨rfl, rfl, rfl⟩
  · obtain rfl : m = 131 := by omega
    have hL : 131 = lng l i k := hL
    rw [← hL]
    refine htskip rfl rfl rfl (by decide) <| htskip rfl rfl rfl (by decide) <| htskip rfl rfl rfl (by decide) <| htskip rfl rfl rfl (by decide) <| htskip rfl rfl rfl (by decide) <| htskip rfl rfl rfl (by decide) <| htyU (y_pickF rfl rfl) <| htyU (y_move rfl) <| ?_
    refine htskip rfl rfl rfl (by decide) <| htskip rfl rfl rfl (by decide) <| htskip rfl rfl rfl (by decide) <| htskip rfl rfl rfl (by decide) <| htskip rfl rfl rfl (by decide) <| htskip rfl rfl rfl (by decide) <| htskip rfl rfl rfl (by decide) <| htskip rfl rfl rfl (by decide) <| htskip rfl rfl rfl (by decide) <| htskip rfl rfl rfl (by decide) <| htskip rfl rfl rfl (by decide) <| htskip rfl rfl rfl (by decide) <| htskip rfl rfl rfl (by decide) <| htyU (y_pickF rfl rfl) <| htend <| hsub (ρ' := [(32, _), (7, _), (6, _), (0, _), (1, _), (2, _)]) ⟨rfl, rfl, rfl, rfl, rfl, rfl, trivial⟩ <| hthen <| ?_
    refine hiff rfl (rfl) ?_
    refine hexit <| hthen_exit <| hthen_exit <| hqblock_exit <| hthen <| hseq <| hreg <| hy (fun _ => y_move rfl) <| hy (fun _ => y_assign rfl) <| hend <| hsub (ρ' := [(6, _), (32, _), (7, _), (0, _), (1, _), (2, _)]) ⟨rfl, rfl, rfl, rfl, rfl, rfl, trivial⟩ <| hthen <| hret <| ?_
    exact hret1 trivial rfl rfl [] rfl [] rfl ⟨rfl, rfl, rfl⟩
/-! ### the finder: where four bytes stand -/
structure IRow where
  A : Option Addr
  c : Nat
  l : List Nat
def IRow.val (r : IRow) : Value := .slice r.A r.l.length r.c
def nts (l : List Nat) : List Value := l.map fun n => Value.int .i64 (n : Nat)
theorem nts_one {l : List Nat} : ∀ u ∈ nts l, u.oneCell' = true := by
  intro u hu
  obtain ⟨n, _, rfl⟩ := List.mem_map.1 hu
  rfl
def IRow.res (r : IRow) : Res := ROwn 3 1 (.slice r.A r.l.length r.c) r.l.length (nts r.l)
abbrev Fes := List (Bn 4 × IRow)
def fvals (es : Fes) : List (Bn 4 × Value) := es.map fun x => (x.1, x.2.val)
def fress (es : Fes) : List Res := es.map fun x => x.2.res
abbrev RFnd (g gm : Nat) (A : Option Addr) (n c m : Nat) (es : Fes) : Res := RPack [RBlk g 259 [.slice A n c, .map (some gm), .int .i64 (m : Nat)], RMap (KN (n := 4)) gm (fvals es), RPack (fress es)]
def FOk (l : List UInt8) (m : Nat) (es : Fes) : Prop := ∀ k : Bn 4, ((aget es k).map IRow.l).getD [] = posL l m k.1
theorem fvals_get (k : Bn 4) : ∀ es : Fes, aget (fvals es) k = (aget es k).map IRow.val
  | [] => rfl
  | (q, r) :: t => by
    have ih := fvals_get k t
    unfold fvals at ih ⊢
    simp only [List.map_cons, aget]
    split
    · rfl
    · exact ih
theorem fvals_put (k : Bn 4) (r : IRow) : ∀ es : Fes, aput (fvals es) k r.val = fvals (aput es k r)
  | [] => rfl
  | (q, x) :: t => by
    have ih := fvals_put k r t
    unfold fvals at ih ⊢
    simp only [List.map_cons, aput]
    split
    · rfl
    · rw [ih]; rfl
theorem put_absent {k : Bn 4} (r : IRow) : ∀ {es : Fes}, aget es k = none → fress (aput es k r) = fress es ++ [r.res]
  | [], _ => rfl
  | (q, x) :: t, h => by
    simp only [aget] at h
    split at h
    · cases h
    · rename_i hq
      have ih := put_absent r h
      unfold fress at ih ⊢
      simp only [aput, if_neg hq, List.map_cons, ih, List.cons_append]
theorem put_present {k : Bn 4} : ∀ {es : Fes} {x : IRow}, aget es k = some x → ∃ i, (fress es)[i]? = some x.res ∧ ∀ r : IRow, fress (aput es k r) = (fress es).set i r.res
  | [], _, h => by cases h
  | (q, y) :: t, x, h => by
    simp only [aget] at h
    split at h
    · rename_i hq
      cases h
      exact ⟨0, rfl, fun r => by simp [fress, aput, hq]⟩
    · rename_i hq
      obtain ⟨i, h1, h2⟩ := put_present h
      refine ⟨i + 1, by simpa [fress] using h1, fun r => ?_⟩
      have h2 := h2 r
      unfold fress at h2 ⊢
      simp only [aput, if_neg hq, List.map_cons, h2, List.set_cons_succ]
theorem set_perm {α : Type} : ∀ (l : List α) (i : Nat) (x : α), i < l.length → (l.set i x).Perm (x :: l.eraseIdx i)
  | [], i, x, h => by simp at h
  | a :: t, 0, x, h => by simp
  | a :: t, i + 1, x, h => by
    have := set_perm t i x (by simpa using h)
    simp only [List.set_cons_succ, List.eraseIdx_cons_succ]
    exact (this.cons a).trans (List.Perm.swap ..)
theorem fok_put {l : List UInt8} {m : Nat} {es : Fes} {A : Option Addr} {c : Nat} (h : FOk l m es) (hm : m + 4 ≤ l.length) : FOk l (m + 1) (aput es ⟨key4 l m, key4_length hm⟩ ⟨A, c, posL l m (key4 l m) ++ [m]⟩) := by
  intro k
  rw [aget_aput, posL_succ]
  by_cases hk : key4 l m = k.1
  · rw [if_pos (Subtype.ext hk), if_pos hk, ← hk]; rfl
  · rw [if_neg (fun e => hk (congrArg Subtype.val e)), if_neg hk, List.append_nil]
    exact h k
theorem fok_nil (l : List UInt8) : FOk l 0 [] := fun k => rfl
theorem kept_pos {es : Fes} {l : List UInt8} {m : Nat} {k : Bn 4} {r : IRow} (h : FOk l m es) (hr : aget es k = some r) : r.l = posL l m k.1 := by
  have := h k
  rw [hr] at this
  exact this
theorem kept_none {es : Fes} {l : List UInt8} {m : Nat} {k : Bn 4} (h : FOk l m es) (hr : aget es k = none) : posL l m k.1 = [] := by
  have := h k
  rw [hr] at this
  exact this.symm
theorem uptoC {g gm : Nat} {A : Option Addr} {n c p i : Nat} {l : List UInt8} {es : Fes} (hc : n ≤ c) (hn : n ≤ 1000000000) (hl : l.length = n) (hpi : p ≤ i) (hi : i + 4 ≤ n) (hF : FOk l p es) : Con Tryd.prog 174 [.pointer (some ⟨g, 0, none⟩), .int .i64 (i : Nat)] [RFnd g gm A n c p es] [RRd 1 A n (b8s l)] (fun v_ X_ S_ => ∃ es1, v_ = (.tuple #[]) ∧ X_ = [RFnd g gm A n c i es1] ∧ S_ = [] ∧ (FOk l i es1)) := by
  refine henter (N := 61) Tryd.func174 rfl rfl (by simp) fun b => ?_
  refine hfactC (fun m => rdB (m.rd 0 rfl)) ?_
  rintro ⟨hl_r, hA_r⟩
  refine hmemC (fun w m => (m.perm (takeR_perm [0] _ [_] _ rfl)).unpack) ?_
  refine hblock <| ?_
  refine hloop2 (fun p es => i - p) (fun p es => []) (fun p es => [RBlk g 259 [.slice A n c, .map (some gm), .int .i64 (p : Nat)], RMap (KN (n := 4)) gm (fvals es), RPack (fress es)]) (fun p es => []) (fun p es => p ≤ i ∧ FOk l p es) p es [(0, _), (1, _)] ⟨rfl, rfl, trivial⟩ [0, 0, 0] rfl [] rfl (⟨hpi, hF⟩) trivial (fun p es ⟨hpi, hF⟩ => ?_)
  refine hseq <| hseq <| hdrw [] [(0, some 0), (1, some 0), (2, some 0), (3, some 0), (4, some 0), (5, some 0), (6, some 0), (7, some 0), (8, some 0), (9, some 0), (10, some 0), (11, some 0), (12, some 0), (13, some 0), (14, some 0), (15, some 0), (16, some 0), (17, some 0), (18, some 0)] (by kernel_rfl) (by kernel_rfl) rfl 99 <| htyU (y_move rfl) <| htyU (y_nilp rfl) <| htyU (y_fld rfl fa259_2 (by decide)) <| hty (fun m => y_ld1 rfl ag3 (ld_blk (m.blk 0 rfl) rfl)) <| htyU (y_move rfl) <| htyU (y_lss rfl rfl) <| htyU (y_move rfl) <| ?_
  refine htsplit 11 rfl (fun h1 => ?_) (fun h1 => ?_)
  · refine htyUg (o := _) rfl rfl rfl (y_move rfl) <| htyUg (o := _) rfl rfl rfl (y_nilp rfl) <| htyUg (o := _) rfl rfl rfl (y_fld rfl fa259_2 (by decide)) <| htyg (o := _) rfl rfl rfl (fun m => y_ld1 rfl ag3 (ld_blk (m.blk 0 rfl) rfl)) <| htyUg (o := _) rfl rfl rfl (y_add rfl rfl (w64 (by omega) (by omega))) <| htyUg (o := _) rfl rfl rfl (y_move rfl) <| htyUg (o := _) rfl rfl rfl (y_nilp rfl) <| htyUg (o := _) rfl rfl rfl (y_fld rfl fa259_0 (by decide)) <| htyg (o := _) rfl rfl rfl (fun m => y_ld1 rfl ag32 (ld_blk (m.blk 0 rfl) rfl)) <| htyUg (o := _) rfl rfl rfl (y_lenS rfl Tryd.underlying32) <| htyUg (o := _) rfl rfl rfl (y_leq rfl rfl) <| htyU (y_pickT rfl rfl) <| htend <| hsub (ρ' := [(23, _), (0, _), (1, _)]) ⟨rfl, rfl, rfl, trivial⟩ <| hthen <| ?_
    refine hift rfl ((decide_eq_true (by omega))) ?_
    refine hfactC (fun m => (m.rd 0 rfl).some (by omega)) fun h_ => ?_
    obtain ⟨a, rfl⟩ : ∃ a_, A = some a_ := ⟨_, h_⟩
    clear h_
    refine hcskip <| hthen <| hseq <| hblock <| hseq <| hdrw [16, 17] [(0, some 1), (1, some 1), (2, some 1), (3, some 1), (4, some 1), (5, some 1), (6, some 1), (7, some 1), (8, some 1), (9, some 1), (10, some 1), (11, some 1), (12, some 1), (13, some 1), (14, some 1), (15, some 1), (16, none), (17, none)] (by kernel_rfl) (by kernel_rfl) rfl 1 <| htyU (y_move rfl) <| htyU (y_nilp rfl) <| htyU (y_fld rfl fa259_0 (by decide)) <| hty (fun m => y_ld1 rfl ag32 (ld_blk (m.blk 0 rfl) rfl)) <| htyU (y_move rfl) <| htyU (y_nilp rfl) <| htyU (y_fld rfl fa259_2 (by decide)) <| hty (fun m => y_ld1 rfl ag3 (ld_blk (m.blk 0 rfl) rfl)) <| htyU (y_move rfl) <| htyU (y_nilp rfl) <| htyU (y_fld rfl fa259_2 (by decide)) <| hty (fun m => y_ld1 rfl ag3 (ld_blk (m.blk 0 rfl) rfl)) <| htyU (y_add rfl rfl (w64 (by omega) (by omega))) <| htyU (yV (y_slBoth rfl rfl rfl Tryd.underlying32 sz5 rfl (show ((p + 4 : Nat) : Int) = _ by omega) (by omega) (by omega)) ((show Value.slice (if c = p then some a else (some a).map (·.add (p * 1))) (p + 4 - p) (c - p) = .slice (some (a.add p)) 4 (c - p) by rw [if_neg (by omega), Nat.mul_one, Nat.add_sub_cancel_left]; rfl))) <| htyU (y_arrAt rfl Tryd.underlying265 (by omega)) <| hty (fun m => yV (y_ldN rfl ag265 sz265 (by rw [b8s_length]; exact key4_length (by omega)) (Rd.part (m.rd 0 rfl))) ((rfl : Value.agg _ = .agg (b8s (key4 l p)).toArray))) <| ?_
    refine htx (xh_alloc ti265 (fun g4 => ⟨(fun _ => wk [1, 1, 1] [0] rfl rfl), ?_⟩))
    refine htx0 (xh_stA 0 rfl rfl rfl sz265 (by rw [b8s_length]; exact key4_length (by omega)) b8s_one rfl ⟨(fun h => absurd h (by decide)), ?_⟩)
    refine htend <| hsub (ρ' := [(4, _), (23, _), (0, _), (1, _)]) ⟨rfl, rfl, rfl, rfl, trivial⟩ <| hmemQ (X' := [_, _, _, _]) (S' := [_]) (fun _ m => m) <| hthen <| ?_
    refine hdrw [9, 10, 12, 14] [(0, some 1), (1, some 1), (2, some 1), (3, some 1), (4, some 1), (5, some 0), (6, some 0), (7, some 0), (8, some 0), (9, none), (10, none), (11, some 2), (13, some 3), (12, none), (14, none)] (by kernel_rfl) (by kernel_rfl) rfl 1 <| htyU (y_move rfl) <| htyU (y_nilp rfl) <| htyU (y_fld rfl fa259_1 (by decide)) <| hty (fun m => y_ld1 rfl ag257 (ld_blk (m.blk 1 rfl) rfl)) <| hty (fun m => yV (y_ldN rfl ag265 sz265 (by rw [b8s_length]; exact key4_length (by omega)) ((m.blk 0 rfl).cells0)) ((rfl : Value.agg _ = KN ⟨key4 l p, key4_length (by omega)⟩))) <| htyU (y_move rfl) <| htyU (y_nilp rfl) <| htyU (y_fld rfl fa259_2 (by decide)) <| hty (fun m => y_ld1 rfl ag3 (ld_blk (m.blk 1 rfl) rfl)) <| ?_
    refine htx (xh_bsl Tryd.underlying263 ti3 rfl rfl rfl (by simp [Value.cells, B8]) (by decide) (by decide) (fun g57 => ⟨(fun _ => wk [1, 1, 1, 1] [0] rfl rfl), ?_⟩))
    have hA_b57 : 0 < 1 → (some (⟨g57, 0, none⟩ : Addr)) ≠ none := fun _ h => by cases h
    refine htmem (fun w m => m.eqX 0 rfl (show _ = ROwn 3 1 (.slice (some ⟨g57, 0, none⟩) 1 1) 1 (nts [p]) from rfl)) ?_
    refine htx (xh_entry (enc := (KN (n := 4))) (k := ⟨key4 l p, key4_length (by omega)⟩) 3 rfl rfl rfl Tryd.underlying257 ti263 (bnKey Tryd.underlying265 Tryd.underlying5 (by kernel_rfl) (by kernel_rfl) (by kernel_rfl)) (fun st58 => ⟨(fun h => absurd h (by decide)), ?_⟩))
    rw [fvals_get]
    rcases hq : aget es ⟨key4 l p, key4_length (by omega)⟩ with _ | x
    · have e0 := kept_none hF hq
      refine htmem (fun w m => m.addX (r' := ROwn 3 1 (.slice none 0 0) 0 []) (.refl _ _) (Own.nil _ _ _ _) (fun k hk => hk.elim)) ?_
      refine htyU (y_extract rfl rfl) <| htyU (y_extract rfl rfl) <| ?_
      refine htx (xh_app 0 rfl rfl rfl Tryd.underlying263 Tryd.underlying263 (by exact .inl rfl) ti3 rfl (fun m => Src.of_rd (m.ord 2 rfl)) (nts_one (l := [p])) (by unfold maxLen; omega) (by omega) (fun u => ⟨(fun h => absurd h (by decide)), ?_⟩))
      refine htfact (fun m => (m.own 0 rfl).slice) ?_
      rintro ⟨A_x, c_x, rfl, hc_x⟩
      refine htfact (fun m => (m.ord 0 rfl).2.1) fun hA_x => ?_
      refine htx0 (xh_estore (enc := (KN (n := 4))) 1 rfl rfl rfl rfl ⟨(fun h => absurd h (by decide)), ?_⟩)
      refine htend <| hsub (ρ' := [(4, _), (23, _), (0, _), (1, _)]) ⟨rfl, rfl, rfl, rfl, trivial⟩ <| hmemQ (X' := [_, _, _, _, _, _]) (S' := [_]) (fun _ m => m) <| hqblock <| hthen <| hreg <| hy (fun _ => y_move rfl) <| hy (fun _ => y_nilp rfl) <| hy (fun _ => y_fld rfl fa259_2 (by decide)) <| hy (fun m => y_ld1 rfl ag3 (ld_blk (m.blk 4 rfl) rfl)) <| hy (fun _ => y_add rfl rfl (w64 (by omega) (by omega))) <| hy (fun _ => y_nilp rfl) <| hy (fun _ => y_fld rfl fa259_2 (by decide)) <| ?_
      refine hx0 (xh_st1a 4 rfl rfl rfl sz3 rfl (by first | exact Nat.le_of_ble_eq_true rfl | simp) ?_)
      refine hend <| hsub (ρ' := [(4, _), (23, _), (0, _), (1, _)]) ⟨rfl, rfl, rfl, rfl, trivial⟩ <| hmemQ (X' := [_, _, _, _, _, _]) (S' := [_]) (fun _ m => m) <| ?_
      refine hmemQ (fun w m => m.eqX 0 rfl (show _ = RBlk g 259 [.slice (some a) n c, .map (some gm), .int .i64 ((p + 1 : Nat) : Int)] from rfl)) ?_
      refine hmemQ (fun w m => m.eqX 1 rfl (show _ = RMap (KN (n := 4)) gm (fvals (aput es ⟨key4 l p, key4_length (by omega)⟩ ⟨A_x, c_x, [p]⟩)) from congrArg (RMap _ _) (aput_aput.trans (fvals_put _ ⟨A_x, c_x, [p]⟩ es)))) ?_
      refine hmemQ (X' := RPack (fress (aput es ⟨key4 l p, key4_length (by omega)⟩ ⟨A_x, c_x, [p]⟩)) :: _) (fun w m => (Mem.packPut (m.perm (takeR_perm [2, 4] _ [_, _] _ rfl))).packPerm (by rw [put_absent _ hq]; exact (List.perm_append_singleton _ _).symm)) ?_
      refine hnext2 (p + 1) (aput es ⟨key4 l p, key4_length (by omega)⟩ ⟨A_x, c_x, [p]⟩) ⟨rfl, rfl, trivial⟩ [2, 1, 0] rfl [0] rfl (⟨by omega, by have := fok_put (A := A_x) (c := c_x) hF (by omega); rw [e0] at this; exact this⟩) (by omega)
    · obtain ⟨j, hj1, hj2⟩ := put_present hq
      have e0 := kept_pos hF hq
      have hxl : x.l.length ≤ n := by rw [e0]; exact Nat.le_trans (posL_length _ _ _) (by omega)
      refine htmem (X' := ROwn 3 1 (.slice x.A x.l.length x.c) x.l.length (nts x.l) :: _) (fun w m => (m.perm (takeR_perm [4] _ [_] _ rfl)).packTake j hj1) ?_
      refine htyU (y_extract rfl rfl) <| htyU (y_extract rfl rfl) <| ?_
      refine htx (xh_app 0 rfl rfl rfl Tryd.underlying263 Tryd.underlying263 (by exact .inl rfl) ti3 rfl (fun m => Src.of_rd (m.ord 3 rfl)) (nts_one (l := [p])) (by unfold maxLen; omega) (by omega) (fun u => ⟨(fun h => absurd h (by decide)), ?_⟩))
      refine htfact (fun m => (m.own 0 rfl).slice) ?_
      rintro ⟨A_y, c_y, rfl, hc_y⟩
      refine htfact (fun m => (m.ord 0 rfl).2.1) fun hA_y => ?_
      refine htx0 (xh_estore (enc := (KN (n := 4))) 2 rfl rfl rfl rfl ⟨(fun h => absurd h (by decide)), ?_⟩)
      refine htend <| hsub (ρ' := [(4, _), (23, _), (0, _), (1, _)]) ⟨rfl, rfl, rfl, rfl, trivial⟩ <| hmemQ (X' := [_, _, _, _, _, _]) (S' := [_]) (fun _ m => m) <| hqblock <| hthen <| hreg <| hy (fun _ => y_move rfl) <| hy (fun _ => y_nilp rfl) <| hy (fun _ => y_fld rfl fa259_2 (by decide)) <| hy (fun m => y_ld1 rfl ag3 (ld_blk (m.blk 5 rfl) rfl)) <| hy (fun _ => y_add rfl rfl (w64 (by omega) (by omega))) <| hy (fun _ => y_nilp rfl) <| hy (fun _ => y_fld rfl fa259_2 (by decide)) <| ?_
      refine hx0 (xh_st1a 5 rfl rfl rfl sz3 rfl (by first | exact Nat.le_of_ble_eq_true rfl | simp) ?_)
      refine hend <| hsub (ρ' := [(4, _), (23, _), (0, _), (1, _)]) ⟨rfl, rfl, rfl, rfl, trivial⟩ <| hmemQ (X' := [_, _, _, _, _, _]) (S' := [_]) (fun _ m => m) <| ?_
      refine hmemQ (fun w m => m.eqX 0 rfl (show _ = RBlk g 259 [.slice (some a) n c, .map (some gm), .int .i64 ((p + 1 : Nat) : Int)] from rfl)) ?_
      have h1e : aput (fvals es) ⟨key4 l p, key4_length (by omega)⟩ (.slice A_y (x.l.length + 1) c_y) = fvals (aput es ⟨key4 l p, key4_length (by omega)⟩ ⟨A_y, c_y, x.l ++ [p]⟩) := by rw [← fvals_put]; simp [IRow.val]
      refine hmemQ (fun w m => m.eqX 1 rfl (show _ = RMap (KN (n := 4)) gm (fvals (aput es ⟨key4 l p, key4_length (by omega)⟩ ⟨A_y, c_y, x.l ++ [p]⟩)) from congrArg (RMap _ _) (aput_aput.trans h1e))) ?_
      have h2e : ROwn 3 1 (.slice A_y (x.l.length + 1) c_y) (x.l.length + 1) (nts x.l ++ nts [p]) = (⟨A_y, c_y, x.l ++ [p]⟩ : IRow).res := by simp [IRow.res, nts]
      refine hmemQ (fun w m => m.eqX 2 rfl (show _ = (⟨A_y, c_y, x.l ++ [p]⟩ : IRow).res from h2e)) ?_
      have hjl := (List.getElem?_eq_some_iff.1 hj1).1
      refine hmemQ (X' := RPack (fress (aput es ⟨key4 l p, key4_length (by omega)⟩ ⟨A_y, c_y, x.l ++ [p]⟩)) :: _) (fun w m => (Mem.packPut (m.perm (takeR_perm [0, 2] _ [_, _] _ rfl))).packPerm (by rw [hj2]; exact (set_perm _ _ _ hjl).symm)) ?_
      refine hnext2 (p + 1) (aput es ⟨key4 l p, key4_length (by omega)⟩ ⟨A_y, c_y, x.l ++ [p]⟩) ⟨rfl, rfl, trivial⟩ [2, 1, 0] rfl [0] rfl (⟨by omega, by have := fok_put (A := A_y) (c := c_y) hF (by omega); rw [← e0] at this; exact this⟩) (by omega)
  · obtain rfl : p = i := by omega
    refine htskip rfl rfl rfl (by decide) <| htskip rfl rfl rfl (by decide) <| htskip rfl rfl rfl (by decide) <| htskip rfl rfl rfl (by decide) <| htskip rfl rfl rfl (by decide) <| htskip rfl rfl rfl (by decide) <| htskip rfl rfl rfl (by decide) <| htskip rfl rfl rfl (by decide) <| htskip rfl rfl rfl (by decide) <| htskip rfl rfl rfl (by decide) <| htskip rfl rfl rfl (by decide) <| htyU (y_pickF rfl rfl) <| htend <| hsub (ρ' := [(23, _), (0, _), (1, _)]) ⟨rfl, rfl, rfl, trivial⟩ <| hthen <| ?_
    refine hiff rfl (rfl) ?_
    refine hexit <| hthen_exit <| hthen_exit <| hqblock_exit <| ?_
    refine hmemQ (X' := RFnd g gm A n c p es :: _) (fun w m => (m.perm (takeR_perm [0, 0, 0] _ [_, _, _] _ rfl)).pack) ?_
    exact hret0 trivial rfl [0] rfl [] rfl ⟨es, rfl, rfl, rfl, hF⟩
end Go.Proofs.YtfikjheicjamhaaDoor
end
section
/- The engine within a round of a range over a function: the same rules of control, under the round's fence. No statement is proved here. -/
set_option linter.unusedVariables false
set_option linter.unusedSimpArgs false
set_option linter.unusedSectionVars false
namespace Go.Eng
open Go.RowKit
def isDef : Op → Bool
  | .defer _ => true
  | _ => false
abbrev rfence (l : Nat) : Fence := Fence.wide.inRound l
section
variable {P : Program} {Q : Exit → Act → World → Prop} {a : Act} {w : World} {l n : Nat}
theorem op_in {o : Oper} {next next' : Act → World → Prop} (h : o.wp P a w next Q) (hd : isDef o.op = false) (hn : ∀ a w, next a w → next' a w) : o.wpIn (rfence l) n P a w next' Q := by
  refine ⟨fun _ _ => trivial, ?_⟩
  have e : o.semAt (rfence l).round a.eval = execOp a.eval o := Oper.semAt_eq _ _ _ (fun c hc => by rw [hc] at hd; cases hd)
  rw [e]
  unfold Oper.wp at h
  generalize (execOp a.eval o).run P w = r at h
  match r, h with
  | .ok (.value v) w', h => exact hn _ _ h
  | .ok .skip w', h => exact hn _ _ h
  | .ok (.defer d) w', h => exact hn _ _ h
  | .ok (.enter f args) w', h =>
    refine ⟨fun h => by simp [Fence.wide] at h, CallsIn.inRound l (callsIn_wide.2 (Calls.mono h ?_))⟩
    intro e w'' q
    cases e with
    | returned v => exact hn _ _ q
    | panicked c => exact q
    | outgrown => exact q
  | .ok (.row row args) w', h => exact ⟨fun h => by simp [Fence.wide] at h, fun c cs _ => let ⟨v, w'', r, s⟩ := h c cs; ⟨v, w'', hn _ _ r, stepsIn_wide.2 s⟩⟩
  | .halt (.panic v) w', h => exact h
theorem ops_in {ops : Array Oper} (hQ : ¬ LetsOut Q) (hd : ops.toList.all (fun o => !isDef o.op) = true) : ∀ (il : List Nat) (a : Act) (w : World), wpOps P ops Q il a w → wpOpsIn (rfence l) n P ops Q il a w
  | [], a, w, h => h
  | i :: rest, a, w, h => by
    unfold wpOps at h
    unfold wpOpsIn
    cases ho : ops[i]? with
    | none => simp only [ho] at h ⊢; exact ops_in hQ hd rest a w h
    | some o =>
      simp only [ho] at h ⊢
      have hod : isDef o.op = false := by
        have h1 := List.all_eq_true.1 hd o (by obtain ⟨hi, he⟩ := Array.getElem?_eq_some_iff.1 ho; rw [← he]; exact Array.getElem_mem_toList ..)
        simpa using h1
      split
      · rename_i hw
        rw [if_pos hw] at h
        rcases h with h | ⟨_, h⟩
        · exact op_in h hod (fun a w h => ops_in hQ hd rest a w h)
        · exact absurd h hQ
      · rename_i hw
        rw [if_neg hw] at h
        exact ⟨fun _ _ => trivial, ops_in hQ hd rest _ w h⟩
end
/-- the judgement within round l -/
def HCR (l n : Nat) (P : Program) (Q : Exit → Act → World → Prop) (N : Nat) (D : List Deferred) (c : Code) (ρ : Env) (b : Base) (X S : List Res) : Prop :=
  ¬ LetsOut Q → ∀ w, Mem b X S w → ∀ a, Ag N D ρ a → c.wpIn (rfence l) n P Q a w
section
variable {P : Program} {Q : Exit → Act → World → Prop} {N : Nat} {D : List Deferred} {ρ ρ' : Env} {b : Base} {X X' X1 Xr S S' S1 : List Res} {c c' : Code} {l n : Nat} {ops : Array Oper}
theorem letsOut_then {K : Act → World → Prop} : LetsOut (Exit.then K Q) → LetsOut Q := fun ⟨a, w, h⟩ => ⟨a, w, h⟩
theorem letsOut_block {id : Nat} : LetsOut (Exit.inBlock id Q) → LetsOut Q := fun ⟨a, w, h⟩ => ⟨a, w, h⟩
theorem letsOut_noPan : LetsOut (NoPan Q) → LetsOut Q := fun ⟨a, w, h⟩ => ⟨a, w, by first | exact h | exact h.elim⟩
theorem hseqR (h : HCR l n P (Exit.then (fun a w => ¬ LetsOut Q → c'.wpIn (rfence l) n P Q a w) Q) N D c ρ b X S) : HCR l n P Q N D (.seq c c') ρ b X S := fun hQ w m a ha =>
  wpIn_seq (wpIn_mono (h (fun k => hQ (letsOut_then k)) w m a ha) (fun e a w q => by cases e <;> first | exact q hQ | exact q))
theorem hregR {id : Nat} {il : List Oper} (h : HL P il.toArray Q N D il ρ b X S) (hd : il.all (fun o => !isDef o.op) = true := by rfl) : HCR l n P Q N D (.region id il.toArray false) ρ b X S := fun hQ w m a ha => by
  refine wpIn_region (ops_in hQ (by simpa using hd) _ _ _ ?_)
  have h1 := h w m a ha
  rw [List.range_eq_range', ← Array.length_toList, wpOps_eq_wpList il.toArray.toList 0 (by simp)]
  simpa using h1
theorem hcskipR (h : HQ Q N D .normal ρ b X S) : HCR l n P Q N D .skip ρ b X S := fun hQ w m a ha => wpIn_skip (h w m a ha)
theorem hexitR {id : Nat} (h : HQ Q N D (.exit id) ρ b X S) : HCR l n P Q N D (.exit id) ρ b X S := fun hQ w m a ha => wpIn_exit (h w m a ha)
theorem hblockR {id : Nat} (h : HCR l n P (Exit.inBlock id Q) N D c ρ b X S) : HCR l n P Q N D (.block id c) ρ b X S := fun hQ w m a ha => wpIn_block (h (fun k => hQ (letsOut_block k)) w m a ha)
theorem hifR {p : Prop} [Decidable p] {x : Operand} (hc : ev ρ x = some (.bool (decide p))) (ht : p → HCR l n P Q N D c ρ b X S) (he : ¬ p → HCR l n P Q N D c' ρ b X S) : HCR l n P Q N D (.cond x c c') ρ b X S :=
  fun hQ w m a ha => wpIn_cond_split (ha.eval hc) (fun h => ht (of_decide_eq_true h) hQ w m a ha) (fun h => he (of_decide_eq_false h) hQ w m a ha)
theorem hthenR (h : HCR l n P Q N D c ρ b X S) : HQ (Exit.then (fun a w => ¬ LetsOut Q → c.wpIn (rfence l) n P Q a w) Q) N D .normal ρ b X S := fun w m a ha hQ => h hQ w m a ha
theorem hdrwR {id : Nat} {il : List (Option Nat × Oper)} (Xs : List Nat) (L : List (Nat × Option Nat)) (hm : P.follows .mixedOrders = true) (hk : (Region.noSelect ops && seqOkG ops Xs L (Array.replicate ops.size false) && decide (L.length ≤ ops.size)) = true)
    (hp : pickG ops L = some il) (cc : Nat) (h : HT P ops (NoPan Q) (TT b X S cc) N D 0 il ρ b X S) (hd : ops.toList.all (fun o => !isDef o.op) = true := by rfl) : HCR l n P Q N D (.region id ops true) ρ b X S := fun hQ w m a ha => by
  simp only [Bool.and_eq_true, decide_eq_true_eq] at hk
  refine wpIn_mono (Q := NoPan Q) ?_ (fun e a w q => by cases e <;> first | exact q | exact q.elim)
  refine wpIn_region_draw fun t => ops_in (fun k => hQ (letsOut_noPan k)) hd _ _ _ ?_
  simp only [Region.schedule, hm, Bool.true_or, if_true]
  refine wpAny_sound ops.size t _ a _ ?_
  refine wpAny_of_wpG _ _ _ _ (wpG_of_seq (X := Xs) hk.1.1 (fun c a d v w q => q.elim) L il _ a _ _ 0 hp hk.1.2 hk.2 ?_ ?_ (T := TT b X S cc) (fun _ => m.lift (Fr.drew w)) (h _ (m.lift (Fr.drew w)) a ha))
  · intro j hj
    simp [Array.getElem?_replicate] at hj
    split at hj <;> cases hj
  · unfold cnt
    rw [List.countP_eq_zero]
    intro x _
    simp [Array.getElem?_replicate]
    split <;> rfl
theorem hdrwBR {id : Nat} {il : List (Option Nat × Oper)} (is js : List Nat) (hX : takeR is X = some (X1, Xr)) (hS : getR js S = some S1) (Xs : List Nat) (L : List (Nat × Option Nat)) (hm : P.follows .mixedOrders = true) (hk : (Region.noSelect ops && seqOkG ops Xs L (Array.replicate ops.size false) && decide (L.length ≤ ops.size)) = true)
    (hp : pickG ops L = some il) (cc : Nat) (h : HT P ops (NoPan Q) (TT b X1 S1 cc) N D 0 il ρ b X S) (hd : ops.toList.all (fun o => !isDef o.op) = true := by rfl) : HCR l n P Q N D (.region id ops true) ρ b X S := fun hQ w m a ha => by
  simp only [Bool.and_eq_true, decide_eq_true_eq] at hk
  refine wpIn_mono (Q := NoPan Q) ?_ (fun e a w q => by cases e <;> first | exact q | exact q.elim)
  refine wpIn_region_draw fun t => ops_in (fun k => hQ (letsOut_noPan k)) hd _ _ _ ?_
  simp only [Region.schedule, hm, Bool.true_or, if_true]
  refine wpAny_sound ops.size t _ a _ ?_
  refine wpAny_of_wpG _ _ _ _ (wpG_of_seq (X := Xs) hk.1.1 (fun c a d v w q => q.elim) L il _ a _ _ 0 hp hk.1.2 hk.2 ?_ ?_ (T := TT b X1 S1 cc) (fun _ => (wk is js hX hS).mem (m.lift (Fr.drew w))) (h _ (m.lift (Fr.drew w)) a ha))
  · intro j hj
    simp [Array.getElem?_replicate] at hj
    split at hj <;> cases hj
  · unfold cnt
    rw [List.countP_eq_zero]
    intro x _
    simp [Array.getElem?_replicate]
    split <;> rfl
end
end Go.Eng
end
section
/- A range over a function in the engine over things in memory. No statement is proved here. -/
set_option linter.unusedVariables false
set_option linter.unusedSimpArgs false
set_option linter.unusedSectionVars false
namespace Go.Eng
open Go.RowKit
/-- the block that gathers a loop's deferred calls: there are none -/
def RCol (D : Nat) : Res where
  foot k := k = D
  holds w := w.heap[D]? = some (.deferred (some []))
  keep := fun {S w w'} f h e => by
    have hlt := (Array.getElem?_eq_some_iff.1 e).1
    exact (f.block D hlt (h D rfl)).trans e
  low := fun {w k} e hk => by
    have hk' : k = D := hk
    rw [hk']; exact (Array.getElem?_eq_some_iff.1 e).1
theorem Mem.grown {b : Base} {X S : List Res} {w w' : World} {R : Nat → Prop} (m : Mem b X S w) (f : Fr R w w') (h1 : ∀ k, R k → b.w.heap.size ≤ k) (h2 : ∀ k, R k → ∀ x ∈ X, ¬ x.foot k) (h3 : ∀ k, R k → ∀ s ∈ S, ¬ s.foot k) : Mem b X S w' :=
  ⟨m.fr.trans f (fun _ e => e) (fun i hi e => absurd (h1 i e) (by omega)), m.xx, m.xs, fun x hx => x.keep f (fun k hk hr => h2 k hr x hx hk) (m.hx x hx), fun s hs => s.keep f (fun k hk hr => h3 k hr s hs hk) (m.hs s hs), m.nx, m.ns⟩
theorem fr_of_grown {w w' : World} {row : Option Nat} (h : w.grownBy w' row) : Fr (fun k => row = some k) w w' := ⟨h.os, h.tape, h.output, h.size, fun k hk hn => h.block k hk (fun e => hn e.symm)⟩
/-- what a round keeps below B: all but M -/
def KpM (B : Nat) (M : Nat → Prop) (W W' : World) : Prop := ∀ k, k < B → ¬ M k → W'.heap[k]? = W.heap[k]?
def penv (ps : Array Tmp) (vs : List Value) : Env := (ps.toList.zip vs)
theorem Mem.addCol {b : Base} {X S : List Res} {w : World} {D B : Nat} (m : Mem b X S w) (hb : b.w.heap.size ≤ B) (hD : B ≤ D) (hx : ∀ x ∈ X, ∀ k, x.foot k → k < B) (hs : ∀ s ∈ S, ∀ k, s.foot k → k < B) (h : w.heap[D]? = some (.deferred (some []))) : Mem b (RCol D :: X) S w := by
  refine ⟨m.fr, List.pairwise_cons.2 ⟨fun y hy k hk hy' => ?_, m.xx⟩, fun x hx' s hs' k hk hk' => ?_, fun x hx' => ?_, m.hs, fun x hx' k hk => ?_, m.ns⟩
  · have hk' : k = D := hk
    have := hx y hy k hy'
    omega
  · rcases List.mem_cons.1 hx' with rfl | hx'
    · have h1 : k = D := hk
      have := hs s hs' k hk'
      omega
    · exact m.xs x hx' s hs' k hk hk'
  · rcases List.mem_cons.1 hx' with rfl | hx'
    · exact h
    · exact m.hx x hx'
  · rcases List.mem_cons.1 hx' with rfl | hx'
    · have h1 : k = D := hk
      exact .inr (by omega)
    · exact m.nx x hx' k hk
theorem Mem.off {b : Base} {X S X1 Xr : List Res} {w : World} {is : List Nat} (m : Mem b X S w) (hX : takeR is X = some (X1, Xr)) (j : Nat) {r : Res} (hj : Xr[j]? = some r) {k : Nat} (hk : r.foot k) : ¬ feet X1 k := by
  have m1 := m.perm (takeR_perm _ _ _ _ hX)
  rintro ⟨x, hx, hxk⟩
  exact (List.pairwise_append.1 m1.xx).2.2 x hx r (List.mem_of_getElem? hj) k hxk hk
/-- how a round may be left -/
def RQ {α σ : Type} (b : Base) (X1 : σ → List Res) (Sb : List Res) (id : Nat) (step : σ → α → σ) (brk : σ → α → Prop) (s : σ) (x : α) : Exit → Act → World → Prop
  | .normal, _, w => Mem b (X1 (step s x)) Sb w
  | .exit i, _, w => i = id ∧ Mem b (X1 s) Sb w ∧ brk s x
  | _, _, _ => False
theorem hrq_nextE {α σ : Type} {b : Base} {X1 : σ → List Res} {Sb : List Res} {id : Nat} {step : σ → α → σ} {brk : σ → α → Prop} {s : σ} {x : α} {N : Nat} {D : List Deferred} {ρ : Env} {X S Xz : List Res} (s' : σ) (he : step s x = s') (is : List Nat) (hX : takeR is X = some (X1 s', Xz)) (js : List Nat) (hS : getR js S = some Sb) :
    HQ (RQ b X1 Sb id step brk s x) N D .normal ρ b X S := fun w m a ha => by
  show Mem b (X1 (step s x)) Sb w
  rw [he]
  exact m.out is hX js hS
theorem hrq_break {α σ : Type} {b : Base} {X1 : σ → List Res} {Sb : List Res} {id : Nat} {step : σ → α → σ} {brk : σ → α → Prop} {s : σ} {x : α} {N : Nat} {D : List Deferred} {ρ : Env} {X S Xz : List Res} (is : List Nat) (hX : takeR is X = some (X1 s, Xz)) (js : List Nat) (hS : getR js S = some Sb) (hb : brk s x) :
    HQ (RQ b X1 Sb id step brk s x) N D (.exit id) ρ b X S := fun w m a ha => ⟨rfl, m.out is hX js hS, hb⟩
section
variable {P : Program} {Q : Exit → Act → World → Prop} {N : Nat} {D : List Deferred} {ρ ρ' : Env} {b : Base} {X X' Xr S S' Sb : List Res}
theorem hrange {α σ : Type} {g gf id : Nat} {ps : Array Tmp} {assign body : Code} {lb : List Value} (X1 : σ → List Res) (s0 : σ) (step : σ → α → σ) (brk : σ → α → Prop) (encs : α → List Value) (xs : List α) (ρx : α → Env) (ρk : Env) (hk : SubB ρk ρ)
    (hv : get ρ g = some (.func (.func gf) #[] lb.toArray)) (heg : ∀ args w, (callFunc gf args).run P w = .ok (.enter gf args) w)
    (is : List Nat) (hX : takeR is X = some (X1 s0, Xr)) (hft : ∀ s k, feet (X1 s) k ↔ feet (X1 s0) k) (js : List Nat) (hS : getR js S = some Sb)
    (hseq : ∀ w, Mem b X S w → SeqStopsK Fence.wide 2 P gf lb.toArray (fun x => (encs x).toArray) (KpM w.heap.size (feet (X1 s0))) (fun ys => ys = xs) (fun pre => pre <+: xs) xs.length w)
    (hps : ∀ x, (encs x).length = ps.size) (hpn : ∀ p ∈ ps.toList, p < N) (hnd : ∀ x (a : Act), Ag N D ρ a → Ag N [] (ρ' ++ penv ps (encs x) ++ ρ) { tmps := (ps.zip (encs x).toArray).foldl (fun t (p, v) => t.setIfInBounds p v) a.tmps, defers := [] })
    (hasg : ∀ (l : Nat) (b' : Base) (s : σ) (x : α) (Q' : Exit → Act → World → Prop), HQ Q' N [] .normal (ρx x ++ ρk) b' (X1 s) Sb → HCR l 1 P Q' N [] assign (ρ' ++ penv ps (encs x) ++ ρ) b' (X1 s) Sb)
    (hbody : ∀ (l : Nat) (b' : Base) (s : σ) (x : α), HCR l 1 P (RQ b' X1 Sb id step brk s x) N [] body (ρx x ++ ρk) b' (X1 s) Sb)
    (k : ∀ (Dk : Nat) (s : σ), (s = xs.foldl step s0 ∨ ∃ pre x rest, xs = pre ++ x :: rest ∧ s = pre.foldl step s0 ∧ brk s x) → HQ Q N (⟨.collected Dk, #[]⟩ :: D) .normal ρ b (RCol Dk :: (X1 s ++ Xr)) S) :
    HC P Q N D (.block id (.rangeFunc (.tmp g) ps assign body)) ρ b X S := by
  intro w m a ha
  have m1 := m.perm (takeR_perm _ _ _ _ hX)
  have hSb := getR_sub _ _ _ hS
  obtain ⟨M, hM⟩ : ∃ M, M = feet (X1 s0) := ⟨_, rfl⟩
  have hbz : b.w.heap.size ≤ w.heap.size := m.fr.size
  have lowM : ∀ k, M k → k < w.heap.size := by
    rw [hM]
    rintro k ⟨x, hx, hk⟩
    exact x.low (m1.hx x (List.mem_append_left _ hx)) hk
  have lowX : ∀ s x, x ∈ X1 s ++ Xr → ∀ k, x.foot k → k < w.heap.size := by
    intro s x hx k hk
    rcases List.mem_append.1 hx with hx | hx
    · exact lowM k (by rw [hM]; exact (hft s k).1 ⟨x, hx, hk⟩)
    · exact x.low (m1.hx x (List.mem_append_right _ hx)) hk
  have lowS : ∀ s ∈ S, ∀ k, s.foot k → k < w.heap.size := fun s hs k hk => s.low (m.hs s hs) hk
  refine wpIn_wide (n := 3).1 (wpIn_block ?_)
  have hown : ∀ {s : σ} {W W' : World} {row : Option Nat}, Mem b (X1 s ++ Xr) S W → W.grownBy W' row → (∀ r, row = some r → w.heap.size ≤ r ∧ ∃ o : Obj, W.heap[r]? = some o ∧ o.isCells = false) → Mem b (X1 s ++ Xr) S W' := by
    intro s W W' row mW hg hr
    refine mW.grown (fr_of_grown hg) (fun k e => Nat.le_trans hbz (hr k e).1) (fun k e x hx hk => ?_) (fun k e x hx hk => ?_)
    · have h1 := lowX s x hx k hk
      have h2 := (hr k e).1
      omega
    · have h1 := lowS x hx k hk
      have h2 := (hr k e).1
      omega
  have hround : ∀ {s : σ} {W W' : World} {Y : List Res}, Mem b (X1 s ++ Xr) S W → w.heap.size ≤ W.heap.size → Mem ⟨W, feet (X1 s), feet Sb⟩ Y Sb W' → KeepsFrom w.heap.size W W' ∧ KpM w.heap.size M W W' ∧ Mem b (Y ++ Xr) S W' := by
    intro s W W' Y mW hsz mY
    have e : ∀ k, feet (X1 s) k ↔ M k := fun k => by rw [hM]; exact hft s k
    refine ⟨⟨mY.fr.size, fun k o hk ho _ => ?_⟩, fun k hk hn => ?_, (mW.frame hSb mY).subS (fun x hx => List.mem_append_right _ hx)⟩
    · have hlt := (Array.getElem?_eq_some_iff.1 ho).1
      exact (mY.fr.block k hlt (fun q => by have := lowM k ((e k).1 q); omega)).trans ho
    · exact mY.fr.block k (by show k < W.heap.size; omega) (fun q => hn ((e k).1 q))
  refine wpIn_rangeFunc_ownH (n := 3) (α := α) (gf := gf) (lb := lb.toArray) rfl (by decide) (ha.eval hv) trivial heg (hseq w m)
    (fun {A B C} h1 h2 k hk hn => (h2 k hk hn).trans (h1 k hk hn)) (fun W l o o' hl ho _ _ k hk hn => World.putObj_heap_other (by omega)) (Below.refl _ w) (fun x => by simpa using hps x)
    (fun pre W => w.heap.size ≤ W.heap.size ∧ Mem b (X1 (pre.foldl step s0) ++ Xr) S W) (fun c pre W => c = .exit id ∧ ∃ pre' x, pre = pre' ++ [x] ∧ Mem b (X1 (pre'.foldl step s0) ++ Xr) S W ∧ brk (pre'.foldl step s0) x)
    (fun pre W W' row h hg hr => ⟨Nat.le_trans h.1 hg.size, hown h.2 hg hr⟩)
    (fun c pre W W' row h hg hr => by
      obtain ⟨hc, pre', x, e, h1, h2⟩ := h
      exact ⟨hc, pre', x, e, hown h1 hg hr, h2⟩)
    ⟨Nat.le_refl _, m1⟩ (fun x a' _ => Ag N [] (ρx x ++ ρk) a') (fun x a' => ownFrom_pure _ (fun _ => Ag N [] (ρx x ++ ρk) a')) ?_ ?_ ?_ ?_
  · rintro l pre x W K ⟨hsz, mW⟩ hK
    refine hasg l ⟨W, feet (X1 (pre.foldl step s0)), feet Sb⟩ (pre.foldl step s0) x _ (fun W' m' a' ha' => ?_) (fun ⟨_, _, h⟩ => h) W (mW.part hSb) _ (hnd x a ha)
    obtain ⟨h1, h2, h3⟩ := hround mW hsz m'
    exact hK a' W' h1 (by rw [← hM]; exact h2) ⟨Nat.le_trans hsz h1.size, h3⟩ ha'
  · rintro l pre x a' W _ _ ⟨hsz, mW⟩ hax _
    refine wpIn_mono (hbody l ⟨W, feet (X1 (pre.foldl step s0)), feet Sb⟩ (pre.foldl step s0) x (fun ⟨_, _, h⟩ => h) W (mW.part hSb) a' hax) ?_
    intro e a2 W2 q
    cases e with
    | normal =>
      have q' : Mem _ (X1 (step (pre.foldl step s0) x)) Sb W2 := q
      obtain ⟨h1, h2, h3⟩ := hround mW hsz q'
      refine ⟨h1, by rw [← hM]; exact h2, Nat.le_trans hsz h1.size, ?_⟩
      rw [List.foldl_append]
      exact h3
    | exit i =>
      obtain ⟨rfl, q1, q2⟩ := q
      obtain ⟨h1, h2, h3⟩ := hround mW hsz q1
      exact ⟨h1, rfl, pre, x, rfl, h3, q2⟩
    | ret => exact q.elim
    | goto t => exact q.elim
    | panic c => exact q.elim
    | outgrown => exact q.elim
  · rintro Dk ys W hD rfl ⟨hsz, mW⟩ hdef
    exact k Dk _ (.inl rfl) W (mW.addCol hbz hD (lowX _) lowS hdef) _ ⟨ha.sz, by rw [ha.df], ha.gt⟩
  · rintro Dk c pre W hD hpre ⟨rfl, pre', x, rfl, mW, hb⟩ hdef
    obtain ⟨rest, hr⟩ := hpre
    refine wpIn_exit ?_
    have hq := k Dk _ (.inr ⟨pre', x, rest, by rw [← hr]; simp, rfl, hb⟩) W (mW.addCol hbz hD (lowX _) lowS hdef) { a with defers := ⟨.collected Dk, #[]⟩ :: a.defers } ⟨ha.sz, by show _ :: a.defers = _; rw [ha.df], ha.gt⟩
    show (Exit.inBlock id Q) (.exit id) _ W
    simp only [Exit.inBlock, if_pos]
    exact hq
end
theorem ag_nd2 {N p q : Nat} {D : List Deferred} {ρ : Env} {a : Act} {u v : Value} (hpq : (p == q) = false) (hp : p < N) (hq : q < N) (ha : Ag N D ρ a) :
    Ag N [] ([] ++ penv #[p, q] [u, v] ++ ρ) { tmps := ((#[p, q] : Array Tmp).zip [u, v].toArray).foldl (fun t (p, v) => t.setIfInBounds p v) a.tmps, defers := [] } := by
  have hne : p ≠ q := by simpa using hpq
  have e : (((#[p, q] : Array Tmp).zip [u, v].toArray).foldl (fun t (p, v) => t.setIfInBounds p v) a.tmps) = (a.tmps.setIfInBounds p u).setIfInBounds q v := by simp
  rw [e]
  have hsz := ha.sz
  refine ⟨by simpa using hsz, rfl, fun t z ht => ?_⟩
  simp only [penv, List.nil_append, List.zip_cons_cons, List.zip_nil_right, List.cons_append, get] at ht
  show ((a.tmps.setIfInBounds p u).setIfInBounds q v)[t]? = some z
  cases h1 : Nat.beq p t with
  | true =>
    rw [h1] at ht
    have h1' : p = t := Nat.eq_of_beq_eq_true h1
    simp only [cond_true, Option.some.injEq] at ht
    subst h1'; subst ht
    rw [Array.getElem?_setIfInBounds_ne (Ne.symm hne), Array.getElem?_setIfInBounds_self_of_lt (by omega)]
  | false =>
    rw [h1] at ht
    simp only [cond_false] at ht
    have h1' : p ≠ t := Nat.ne_of_beq_eq_false h1
    cases h2 : Nat.beq q t with
    | true =>
      rw [h2] at ht
      have h2' : q = t := Nat.eq_of_beq_eq_true h2
      simp only [cond_true, Option.some.injEq] at ht
      subst h2'; subst ht
      rw [Array.getElem?_setIfInBounds_self_of_lt (by simp; omega)]
    | false =>
      rw [h2] at ht
      have h2' : q ≠ t := Nat.ne_of_beq_eq_false h2
      rw [Array.getElem?_setIfInBounds_ne h2', Array.getElem?_setIfInBounds_ne h1']
      exact ha.gt t z (by simpa using ht)
/-! ### In and out of a function with such a loop -/
theorem henterM {P : Program} {f : Nat} {fn : Func} {c : Code} {vs : List Value} {R : Value → List Res → List Res → Prop} {N : Nat} {X0 S0 : List Res} (hf : P.funcs[f]? = some fn) (hb : fn.body = some c) (hN : fn.ntmps = N) (hl : vs.length ≤ N)
    (h : ∀ b, HC P (bodyPostM Fence.wide 3 P fn (RB b R)) N [] c (argsEnv vs 0) b X0 S0) : Con P f vs X0 S0 R := fun w m => by
  refine callsIn_wide (n := 3).1 (callsIn_of_wp_marks hf hb trivial (wpIn_wide.2 (h _ w m _ ⟨?_, rfl, fun t v ht => ?_⟩)))
  · simp [hN]; omega
  · obtain ⟨_, h2⟩ := get_argsEnv vs 0 t v ht
    have hlt := (List.getElem?_eq_some_iff.1 h2).1
    rw [Array.getElem?_append_left (by simpa using hlt)]
    simpa using h2
section
variable {P : Program} {fn : Func} {R : Value → List Res → List Res → Prop} {N n : Nat} {D : List Deferred} {ρ : Env} {b : Base} {X X' Xz S S' : List Res} {e : Exit}
/-- the block is given back -/
theorem hcol {Dk : Nat} (he : Leaves e) (is : List Nat) (hX : takeR is X = some ([RCol Dk], X')) (k : HQ (bodyPostM Fence.wide n P fn (RB b R)) N D e ρ b X' S) : HQ (bodyPostM Fence.wide n P fn (RB b R)) N (⟨.collected Dk, #[]⟩ :: D) e ρ b X S := by
  intro w m a ha
  have m1 := m.perm (takeR_perm _ _ _ _ hX)
  have hc : w.heap[Dk]? = some (.deferred (some [])) := m1.hx (RCol Dk) (by simp)
  have hx1 := (List.pairwise_cons.1 m1.xx).1
  have hr := run_takeDeferred (P := P) hc
  have hf : Fr (fun k => k = Dk) w (w.putObj Dk (.deferred none)) := ⟨rfl, rfl, rfl, by simp, fun k _ hk => World.putObj_heap_other hk⟩
  have hbz : b.w.heap.size ≤ Dk ∨ b.M Dk := (m1.nx (RCol Dk) (by simp) Dk rfl).symm
  have m2 : Mem b X' S (w.putObj Dk (.deferred none)) := by
    refine ⟨m1.fr.trans hf (fun _ e => e) (fun i hi e => ?_), (List.pairwise_cons.1 m1.xx).2, fun x hx => m1.xs x (List.mem_cons_of_mem _ hx), fun x hx => x.keep hf (fun k hk e => ?_) (m1.hx x (List.mem_cons_of_mem _ hx)), fun s hs => s.keep hf (fun k hk e => ?_) (m1.hs s hs), fun x hx => m1.nx x (List.mem_cons_of_mem _ hx), m1.ns⟩
    · subst e
      rcases hbz with h | h
      · omega
      · exact h
    · exact hx1 x hx k e hk
    · exact m1.xs (RCol Dk) (by simp) s hs k e hk
  have hk := k _ m2 { a with defers := D } ⟨ha.sz, rfl, ha.gt⟩
  cases e with
  | normal =>
    show LeavesInM Fence.wide n P fn a.tmps _ a.defers .returning w
    rw [ha.df]
    exact ⟨by simp, .inl ⟨Dk, _, rfl, hr, hk⟩⟩
  | ret =>
    show LeavesInM Fence.wide n P fn a.tmps _ a.defers .returning w
    rw [ha.df]
    exact ⟨by simp, .inl ⟨Dk, _, rfl, hr, hk⟩⟩
  | _ => exact he.elim
theorem hretM {v : Value} (he : Leaves e) (h : ∀ a, Ag N [] ρ a → ∀ w, (results fn a.tmps).run P w = .ok v w) (is : List Nat) (hX : takeR is X = some (X', Xz)) (js : List Nat) (hS : getR js S = some S') (hR : R v X' S') : HQ (bodyPostM Fence.wide n P fn (RB b R)) N [] e ρ b X S := by
  intro w m a ha
  have hm := m.out is hX js hS
  cases e with
  | normal =>
    show LeavesInM Fence.wide n P fn a.tmps _ a.defers .returning w
    rw [ha.df]
    exact ⟨v, h a ha w, _, _, _, rfl, hR, hm⟩
  | ret =>
    show LeavesInM Fence.wide n P fn a.tmps _ a.defers .returning w
    rw [ha.df]
    exact ⟨v, h a ha w, _, _, _, rfl, hR, hm⟩
  | _ => exact he.elim
theorem hretM2 {t t' : Nat} {v v' : Value} (he : Leaves e) (hr : fn.results = #[.tmp t, .tmp t']) (hv : get ρ t = some v) (hv' : get ρ t' = some v') (is : List Nat) (hX : takeR is X = some (X', Xz)) (js : List Nat) (hS : getR js S = some S') (hR : R (.tuple #[v, v']) X' S') : HQ (bodyPostM Fence.wide n P fn (RB b R)) N [] e ρ b X S :=
  hretM he (fun a ha w => by have h1 := ha.getD hv; have h2 := ha.getD hv'; simp at h1 h2; simp [results, hr, h1, h2]) is hX js hS hR
end
end Go.Eng
end
section
/- The library's slices.Backward over a slice of numbers: what it hands to a loop's body, and in which order. -/
set_option linter.unusedVariables false
set_option linter.unusedSimpArgs false
namespace Go.Proofs.YtfikjheicjamhaaDoor
open Go.Eng Go.RowKit Go.Shelf
attribute [local go_sem] Oper.semAt_some
set_option maxRecDepth 100000 in
set_option maxHeartbeats 4000000 in
theorem back1_in (F : Fence) (n : Nat) (h7 : F.fn 189) (hro : F.round = none) (hn : 1 ≤ n) (l Bs B b off cap : Nat) (M : Nat → Prop) (zs : List Int) {α : Type} (L : List α) (encs : α → List Value) (hL : L.length = zs.length) (henc : ∀ (k : Nat) (x : α), L[k]? = some x → encs x = [.int .i64 ((zs.length - 1 - k : Nat) : Int), .int .i64 (zs[zs.length - 1 - k]?.getD 0)]) (hreach : zs.length * 8 ≤ 140737488351232) (hbs : Bs < B ∧ ¬ M Bs) (hb : b < B ∧ ¬ M b) (J Jx : List α → World → Prop)
    (hY : ∀ pre x W, J pre W → pre.length < L.length → YieldAt F (n - 1) Tryd.prog l (encs x).toArray W fun e W' =>
      (e = .returned (.bool true) ∧ J (pre ++ [x]) W' ∧ KpM B M W W') ∨ (e = .returned (.bool false) ∧ Jx (pre ++ [x]) W'))
    (W : World) (hBs : W.cell? ⟨Bs, 0, none⟩ = some (.slice (some ⟨b, off, none⟩) zs.length cap)) (hc : ∀ j, j < zs.length → W.cell? ⟨b, off + j, none⟩ = some (.int .i64 (zs[j]?.getD 0))) (h0 : J [] W) :
    CallsIn F n Tryd.prog 189 #[.func (.yield l) #[] #[], .pointer (some ⟨Bs, 0, none⟩)] W fun e W' => (∃ v, e = .returned v) ∧
      ((∃ ys, ys = L ∧ J ys W') ∨ (∃ pre, pre <+: L ∧ Jx pre W')) := by
  refine callsIn_of_wp Tryd.func189 rfl h7 ?_ hro
  simp only [Tryd.ntmps189, List.size_toArray, List.length_cons, List.length_nil, Nat.reduceAdd, Nat.reduceSub, Array.replicate_succ, Array.replicate_zero, List.push_toArray, List.append_toArray, List.nil_append, List.cons_append]
  gi_wp2
  gi_loopw [3] (fun i wr => ∃ k : Nat, k ≤ zs.length ∧ i = .int .i64 ((zs.length : Int) - 1 - (k : Int)) ∧ J (L.take k) wr ∧ KpM B M W wr)
    (fun i _ => (intOf i + 1).toNat)
  case atStart => exact ⟨0, Nat.zero_le _, by simp, h0, fun _ _ _ => rfl⟩
  case round =>
    obtain ⟨k, hk, rfl, hJs, hnx⟩ := hrel
    have hBs' : wr.cell? ⟨Bs, 0, none⟩ = some (.slice (some ⟨b, off, none⟩) zs.length cap) := by rw [← hBs]; simp only [World.cell?, hnx Bs hbs.1 hbs.2]
    have hcx : ∀ j, j < zs.length → wr.cell? ⟨b, off + j, none⟩ = some (.int .i64 (zs[j]?.getD 0)) := fun j h => by rw [← hc j h]; simp only [World.cell?, hnx b hb.1 hb.2]
    by_cases hlt : k < zs.length
    · obtain ⟨j, hj⟩ : ∃ j : Nat, j + 1 + k = zs.length := ⟨zs.length - 1 - k, by omega⟩
      have hjk : zs.length - 1 - k = j := by omega
      have hji : (zs.length : Int) - 1 - (k : Int) = (j : Int) := by omega
      obtain ⟨x, hx⟩ : ∃ x, L[k]? = some x := ⟨_, List.getElem?_eq_getElem (by omega)⟩
      have htk : L.take (k + 1) = L.take k ++ [x] := by rw [List.take_add_one, hx]; rfl
      obtain ⟨fn, tmps, assign, body, hy, hR⟩ := hY _ x wr hJs (by rw [List.length_take]; omega)
      rw [henc k x hx, hjk] at hy
      have hcx' := hcx j (by omega)
      obtain ⟨z, hz⟩ : ∃ z, zs[j]?.getD 0 = z := ⟨_, rfl⟩
      rw [hz] at hcx' hy
      clear hcx hz hc
      rw [hji]
      have hge : ¬ ((j : Int) < 0) := by omega
      have hjl : j < zs.length := by omega
      gi_wp2
      refine hR.mono ?_
      rintro e W3 (⟨rfl, hJ3, hk3⟩ | ⟨rfl, hJx3⟩)
      · gi_wp2
        go_roundw
        case rel => exact ⟨k + 1, by omega, by congr 1 <;> omega, by rw [htk]; exact hJ3, fun q h1 h2 => (hk3 q h1 h2).trans (hnx q h1 h2)⟩
        case measure => simp [intOf] <;> omega
      · gi_wp2
        refine bodyPost_ret (results_none rfl _ _ _) rfl ?_
        exact ⟨⟨_, rfl⟩, .inr ⟨_, by rw [← htk]; exact List.take_prefix _ _, hJx3⟩⟩
    · obtain rfl : k = zs.length := by omega
      have hge : ¬ ((zs.length : Int) - 1 - (zs.length : Int) ≥ 0) := by omega
      gi_wp2
      go_end0
      exact ⟨⟨_, rfl⟩, .inl (by rw [← hL, List.take_length] at hJs; exact hJs)⟩
set_option maxRecDepth 100000 in
set_option maxHeartbeats 4000000 in
theorem back0_in (F : Fence) (n : Nat) (h7 : F.fn 189) (hro : F.round = none) (l Bs cap : Nat) (A : Option Addr) (J : World → Prop)
    (W : World) (hBs : W.cell? ⟨Bs, 0, none⟩ = some (.slice A 0 cap)) (h0 : J W) :
    CallsIn F n Tryd.prog 189 #[.func (.yield l) #[] #[], .pointer (some ⟨Bs, 0, none⟩)] W fun e W' => (∃ v, e = .returned v) ∧ J W' := by
  refine callsIn_of_wp Tryd.func189 rfl h7 ?_ hro
  simp only [Tryd.ntmps189, List.size_toArray, List.length_cons, List.length_nil, Nat.reduceAdd, Nat.reduceSub, Array.replicate_succ, Array.replicate_zero, List.push_toArray, List.append_toArray, List.nil_append, List.cons_append]
  gi_wp2
  gi_loopw [3] (fun i wr => i = .int .i64 (-1) ∧ J wr) (fun _ _ => 0)
  case atStart => exact ⟨by simp, h0⟩
  case round =>
    obtain ⟨rfl, hJs⟩ := hrel
    gi_wp2
    go_end0
    exact ⟨⟨_, rfl⟩, hJs⟩
theorem back_stops (F : Fence) (n : Nat) (h7 : F.fn 189) (hro : F.round = none) (hn : 1 ≤ n) {w : World} {Bs e : Nat} {v : Value} {zs : List Int} {M : Nat → Prop} {α : Type} (L : List α) (encs : α → List Value) (hL : L.length = zs.length) (henc : ∀ (k : Nat) (x : α), L[k]? = some x → encs x = [.int .i64 ((zs.length - 1 - k : Nat) : Int), .int .i64 (zs[zs.length - 1 - k]?.getD 0)]) (hreach : zs.length * 8 ≤ 140737488351232)
    (hBs : w.cell? ⟨Bs, 0, none⟩ = some v) (hMB : ¬ M Bs) (h : Go.Eng.Own w 0 e 1 v zs.length (zs.map (Value.int .i64))) (hMA : ∀ k, vblk v k → ¬ M k) :
    SeqStopsK F n Tryd.prog 189 #[.pointer (some ⟨Bs, 0, none⟩)] (fun x => (encs x).toArray) (KpM w.heap.size M) (fun ys => ys = L) (fun pre => pre <+: L) L.length w := by
  intro l J Jx W hW _ _ hY h0
  have hlt := lt_of_cell hBs
  have hc' : W.cell? ⟨Bs, 0, none⟩ = some v := (hW.cell (p := ⟨Bs, 0, none⟩) hlt).trans hBs
  obtain ⟨hl, ⟨rfl, hz⟩ | ⟨g, o, cap, cur, rfl, _, hb, hcap, hml, hcl, hx⟩⟩ := h
  · have hL0 : L = [] := List.eq_nil_of_length_eq_zero (by omega)
    subst hL0
    exact (back0_in F n h7 hro l Bs 0 none (J []) W hc' h0).mono fun e W' ⟨he, hj⟩ => ⟨he, .inl ⟨_, rfl, hj⟩⟩
  · by_cases hz : zs.length = 0
    · have hL0 : L = [] := List.eq_nil_of_length_eq_zero (by omega)
      subst hL0
      rw [hz] at hc'
      exact (back0_in F n h7 hro l Bs cap _ (J []) W hc' h0).mono fun e W' ⟨he, hj⟩ => ⟨he, .inl ⟨_, rfl, hj⟩⟩
    · have hcs : ∀ j, j < zs.length → W.cell? ⟨g, o + j, none⟩ = some (.int .i64 (zs[j]?.getD 0)) := fun j hj => by
        refine (hW.cell (p := ⟨g, o + j, none⟩) hb.lt).trans (hb.cell ?_)
        have h1 : ((cur.drop o).take (zs.length * 1))[j]? = (zs.map (Value.int .i64))[j]? := by rw [hx]
        rw [List.getElem?_take, if_pos (by omega), List.getElem?_drop, List.getElem?_map, List.getElem?_eq_getElem hj] at h1
        rw [h1, List.getElem?_eq_getElem hj]
        rfl
      have hsz := hW.size
      have := back1_in F n h7 hro hn l Bs w.heap.size g o cap M zs L encs hL henc hreach ⟨hlt, hMB⟩ ⟨hb.lt, hMA g rfl⟩ J Jx hY W hc' hcs h0
      refine this.mono ?_
      rintro e W' ⟨he, ⟨ys, rfl, hj⟩ | ⟨pre, hp, hj⟩⟩
      · exact ⟨he, .inl ⟨_, rfl, hj⟩⟩
      · exact ⟨he, .inr ⟨_, hp, hj⟩⟩
end Go.Proofs.YtfikjheicjamhaaDoor
end
section
/- Contracts: bytes in fewer (layer 5): the match at a place. -/
set_option linter.unusedVariables false
set_option linter.unusedSimpArgs false
set_option maxRecDepth 20000
set_option maxHeartbeats 2000000
namespace Go.Proofs.YtfikjheicjamhaaDoor
open Go.Eng Go.Hx
/-- places from behind, each with its number -/
def backPos (zs : List Nat) (i : Nat) (h : ∀ z ∈ zs, z < i) : List {x : Nat × Nat // x.2 < i} := (zs.attach.zipIdx.map fun x => (⟨(x.2, x.1.1), h _ x.1.2⟩ : {x : Nat × Nat // x.2 < i})).reverse
theorem backPos_length (zs : List Nat) (i : Nat) (h : ∀ z ∈ zs, z < i) : (backPos zs i h).length = zs.length := by simp [backPos]
theorem backPos_map (zs : List Nat) (i : Nat) (h : ∀ z ∈ zs, z < i) : (backPos zs i h).map (fun x => x.1.2) = zs.reverse := by
  unfold backPos
  rw [List.map_reverse, List.map_map]
  congr 1
  apply List.ext_getElem
  · simp
  · intro j h1 h2
    simp
theorem backPos_get (zs : List Nat) (i : Nat) (h : ∀ z ∈ zs, z < i) (k : Nat) (x : {x : Nat × Nat // x.2 < i}) (hx : (backPos zs i h)[k]? = some x) : k < zs.length ∧ x.1.1 = zs.length - 1 - k ∧ zs[zs.length - 1 - k]? = some x.1.2 := by
  have hk : k < zs.length := by rw [← backPos_length zs i h]; exact (List.getElem?_eq_some_iff.1 hx).1
  unfold backPos at hx
  rw [List.getElem?_reverse (by simpa using hk)] at hx
  simp only [List.length_map, List.length_zipIdx, List.length_attach, List.getElem?_map, List.getElem?_zipIdx, Nat.zero_add] at hx
  have hlt : zs.length - 1 - k < zs.attach.length := by simp; omega
  rw [List.getElem?_eq_getElem hlt] at hx
  simp only [Option.map_some, Option.some.injEq] at hx
  subst hx
  refine ⟨hk, rfl, ?_⟩
  rw [List.getElem?_eq_getElem (by simpa using hlt)]
  simp
theorem foldl_backPos (f : Nat × Nat → Nat → Nat × Nat) (s : Nat × Nat) (i : Nat) (L : List {x : Nat × Nat // x.2 < i}) : L.foldl (fun s x => f s x.1.2) s = (L.map (fun x => x.1.2)).foldl f s := by rw [List.foldl_map]
theorem match_ends {l : List UInt8} {i : Nat} {zs : List Nat} (hz : zs = posL l i (key4 l i)) (hi : i + 4 ≤ l.length) (h : ∀ z ∈ zs, z < i) {s : Nat × Nat}
    (hs : s = (backPos zs i h).foldl (fun s x => pstep l i s x.1.2) (0, 0) ∨ ∃ pre x rest, backPos zs i h = pre ++ x :: rest ∧ s = pre.foldl (fun s x => pstep l i s x.1.2) (0, 0) ∧ 1024 < i - x.1.2) : s = matchL l i := by
  subst hz
  rcases hs with rfl | ⟨pre, x, rest, e, rfl, hb⟩
  · rw [foldl_backPos, backPos_map, match_eq hi]
  · have e2 := congrArg (List.map fun x => x.1.2) e
    rw [backPos_map, List.map_append, List.map_cons] at e2
    rw [foldl_backPos, ← match_eq hi]
    exact (match_brk e2 hb).symm
def nints (l : List Nat) : List Int := l.map fun n : Nat => (n : Int)
theorem nints_length (l : List Nat) : (nints l).length = l.length := List.length_map ..
theorem own_ints {w : World} {e : TypeId} {v : Value} {l : List Nat} (h : Go.Eng.Own w 0 e 1 v l.length (nts l)) : Go.Eng.Own w 0 e 1 v (nints l).length ((nints l).map (Value.int .i64)) := by
  rw [nints_length]
  unfold nints
  rw [List.map_map]
  exact h
theorem z_back {es : Fes} {j : Nat} {x : IRow} (h : (fress es)[j]? = some x.res) : (x.res :: (fress es).eraseIdx j).Perm (fress es) := by
  obtain ⟨h1, h2⟩ := List.getElem?_eq_some_iff.1 h
  have := eraseIdx_perm (fress es) j h1
  rwa [h2] at this
theorem backC {A : Option Addr} {n c : Nat} : Con Tryd.prog 175 [.slice A n c] [] [] (fun v_ X_ S_ => ∃ gB, v_ = (.func (.func 189) #[] #[.pointer (some ⟨gB, 0, none⟩)]) ∧ X_ = [RBlk gB 263 [.slice A n c]] ∧ S_ = []) := by
  refine henter (N := 4) Tryd.func175 rfl rfl (by simp) fun b => ?_
  refine hseq <| hreg <| ?_
  refine hx (xh_box rfl (fun g1 => ?_))
  refine hy (fun _ => y_assign rfl) <| hend <| hmemQ (X' := [_]) (S' := []) (fun _ m => m) <| hthen <| hseq <| hreg <| hy (fun _ => y_mkf rfl rfl) <| hy (fun _ => y_assign rfl) <| hend <| hsub (ρ' := [(2, _), (1, _), (0, _)]) ⟨rfl, rfl, rfl, trivial⟩ <| hthen <| hret <| ?_
  refine hmemQ (fun w m => m.eqX 0 rfl (show _ = RBlk g1 263 [.slice A n c] from rfl)) ?_
  exact hret1 trivial rfl rfl [0] rfl [] rfl ⟨_, rfl, rfl, rfl⟩
theorem overC {A : Option Addr} {n c : Nat} : Con Tryd.prog 156 [.slice A n c] [] [] (fun v_ X_ S_ => ∃ g gm, v_ = (.pointer (some ⟨g, 0, none⟩)) ∧ X_ = [RFnd g gm A n c 0 []] ∧ S_ = []) := by
  refine henter (N := 7) Tryd.func156 rfl rfl (by simp) fun b => ?_
  refine hseq <| hreg <| hy (fun _ => y_assign rfl) <| hend <| hthen <| hseq <| hreg <| hy (fun _ => y_move rfl) <| ?_
  refine hx (xh_mkmap (KN (n := 4)) (fun g4 => ?_))
  refine hy (fun _ => y_build ti259 rfl rfl (by kernel_rfl) (.cons (o := 0) (sz := 1) (by kernel_rfl) rfl rfl (Nat.le_of_ble_eq_true rfl) (.cons (o := 1) (sz := 1) (by kernel_rfl) rfl rfl (Nat.le_of_ble_eq_true rfl) .nil))) <| ?_
  refine hx (xh_box rfl (fun g6 => ?_))
  refine hy (fun _ => y_assign rfl) <| hend <| hsub (ρ' := [(2, _), (0, _)]) ⟨rfl, rfl, trivial⟩ <| hmemQ (X' := [_, _]) (S' := []) (fun _ m => m) <| hthen <| hret <| ?_
  refine hmemQ (fun w m => m.packNil) ?_
  refine hmemQ (fun w m => m.eqX 1 rfl (show _ = RBlk g6 259 [.slice A n c, .map (some g4), .int .i64 ((0 : Nat) : Int)] from rfl)) ?_
  refine hmemQ (X' := RFnd g6 g4 A n c 0 [] :: _) (fun w m => (m.perm (takeR_perm [0, 1, 0] _ [_, _, _] _ rfl)).pack) ?_
  exact hret1 trivial rfl rfl [0] rfl [] rfl ⟨_, _, rfl, rfl, rfl⟩
theorem enc_ok (zs : List Nat) (i : Nat) (h : ∀ z ∈ zs, z < i) (k : Nat) (x : {x : Nat × Nat // x.2 < i}) (hx : (backPos zs i h)[k]? = some x) : [Value.int .i64 (x.1.1 : Nat), .int .i64 (x.1.2 : Nat)] = [.int .i64 (((nints zs).length - 1 - k : Nat) : Int), .int .i64 ((nints zs)[(nints zs).length - 1 - k]?.getD 0)] := by
  obtain ⟨h1, h2, h3⟩ := backPos_get zs i h k x hx
  rw [nints_length]
  unfold nints
  rw [List.getElem?_map, h3, h2]
  rfl
theorem matchC {g gm : Nat} {A : Option Addr} {n c p i : Nat} {l : List UInt8} {es : Fes} (hc : n ≤ c) (hn : n ≤ 1000000000) (hl : l.length = n) (hpi : p ≤ i) (hi : i ≤ n) (hF : FOk l p es) : Con Tryd.prog 158 [.pointer (some ⟨g, 0, none⟩), .int .i64 (i : Nat)] [RFnd g gm A n c p es] [RRd 1 A n (b8s l)] (fun v_ X_ S_ => ∃ p1 es1, v_ = (.tuple #[.int .i64 ((matchL l i).1 : Nat), .int .i64 ((matchL l i).2 : Nat)]) ∧ X_ = [RFnd g gm A n c p1 es1] ∧ S_ = [] ∧ (p1 ≤ i ∧ FOk l p1 es1)) := by
  refine henterM (N := 60) Tryd.func158 rfl rfl (by simp) fun b => ?_
  refine hfactC (fun m => rdB (m.rd 0 rfl)) ?_
  rintro ⟨hl_r, hA_r⟩
  refine hmemC (fun w m => (m.perm (takeR_perm [0] _ [_] _ rfl)).unpack) ?_
  refine hseq <| hreg <| ?_
  refine hx (xh_box rfl (fun g2 => ?_))
  refine hx (xh_box rfl (fun g3 => ?_))
  refine hy (fun _ => y_assign rfl) <| hy (fun _ => y_assign rfl) <| hend <| hmemQ (X' := [_, _, _, _, _]) (S' := [_]) (fun _ m => m) <| hthen <| hseq <| hseq <| hdrw [] [(0, some 0), (1, some 0), (2, some 0), (3, some 0), (4, some 0), (5, some 0), (6, some 0), (7, some 0)] (by kernel_rfl) (by kernel_rfl) rfl 99 <| hty (fun m => y_ld1 rfl ag3 (ld_blk (m.blk 0 rfl) rfl)) <| htyU (y_add rfl rfl (w64 (by omega) (by omega))) <| hty (fun m => y_ld1 rfl ag238 (ld_blk (m.blk 1 rfl) rfl)) <| htyU (y_nilp rfl) <| htyU (y_fld rfl fa259_0 (by decide)) <| hty (fun m => y_ld1 rfl ag32 (ld_blk (m.blk 2 rfl) rfl)) <| htyU (y_lenS rfl Tryd.underlying32) <| htyU (y_gtr rfl rfl) <| htend <| hsub (ρ' := [(18, _), (5, _), (4, _), (3, _), (2, _), (0, _), (1, _)]) ⟨rfl, rfl, rfl, rfl, rfl, rfl, rfl, trivial⟩ <| hthen <| ?_
  refine hif rfl (fun h1 => ?_) (fun h1 => ?_)
  · have e := match_short (b := l) (i := i) (by omega) (by omega)
    rw [e]
    refine hseq <| hreg <| hy (fun _ => y_assign rfl) <| hy (fun _ => y_assign rfl) <| hend <| hthen <| hret <| hthen_ret <| ?_
    refine hmemQ (X' := RFnd g gm A n c p es :: _) (fun w m => (m.perm (takeR_perm [2, 2, 2] _ [_, _, _] _ rfl)).pack) ?_
    exact hretM2 trivial rfl rfl rfl [0] rfl [] rfl ⟨p, es, rfl, rfl, rfl, ⟨hpi, hF⟩⟩
  · have hi4 : i + 4 ≤ n := by omega
    refine hcskip <| hthen <| hseq <| ?_
    refine hmemC (X' := RFnd g gm A n c p es :: _) (fun w m => (m.perm (takeR_perm [2, 2, 2] _ [_, _, _] _ rfl)).pack) ?_
    refine hreg <| hy (fun m => y_ld1 rfl ag238 (ld_blk (m.blk 2 rfl) rfl)) <| hy (fun m => y_ld1 rfl ag3 (ld_blk (m.blk 1 rfl) rfl)) <| ?_
    refine hx (xh_call rfl Tryd.call174 (uptoC (by omega) (by omega) hl (by omega) (by omega) hF) [0] rfl [0] rfl ?_)
    rintro _ _ _ ⟨es1, rfl, rfl, rfl, hp⟩
    have hF1 := hp
    refine hend <| hsub (ρ' := [(18, _), (5, _), (4, _), (3, _), (2, _), (0, _), (1, _)]) ⟨rfl, rfl, rfl, rfl, rfl, rfl, rfl, trivial⟩ <| hmemQ (X' := [_, _, _]) (S' := [_]) (fun _ m => m) <| hthen <| hseq <| hreg <| ?_
    refine hx (xh_alloc ti3 (fun g6 => ?_))
    refine hx (xh_alloc ti3 (fun g7 => ?_))
    refine hx0 (xh_st1 1 rfl rfl rfl sz3 rfl (by first | exact Nat.le_of_ble_eq_true rfl | simp) ?_)
    refine hx0 (xh_st1 1 rfl rfl rfl sz3 rfl (by first | exact Nat.le_of_ble_eq_true rfl | simp) ?_)
    refine hend <| hmemQ (X' := [_, _, _, _, _]) (S' := [_]) (fun _ m => m) <| hthen <| hseq <| hseq <| ?_
    refine hmemC (fun w m => (m.perm (takeR_perm [2] _ [_] _ rfl)).unpack) ?_
    refine hfactC (fun m => (m.rd 0 rfl).some (by omega)) fun h_ => ?_
    obtain ⟨a, rfl⟩ : ∃ a_, A = some a_ := ⟨_, h_⟩
    clear h_
    rcases hq : aget es1 ⟨key4 l i, key4_length (by omega)⟩ with _ | x
    · have e0 := kept_none hF1 hq
      refine hdrw [15] [(0, some 1), (1, some 0), (2, some 0), (3, some 0), (4, some 1), (5, some 1), (6, some 1), (7, some 1), (8, some 1), (9, some 1), (10, some 1), (11, some 0), (12, some 0), (13, some 0), (14, some 0), (15, none)] (by kernel_rfl) (by kernel_rfl) rfl 99 <| hty (fun m => y_ld1 rfl ag238 (ld_blk (m.blk 6 rfl) rfl)) <| htyU (y_nilp rfl) <| htyU (y_fld rfl fa259_1 (by decide)) <| hty (fun m => y_ld1 rfl ag257 (ld_blk (m.blk 0 rfl) rfl)) <| hty (fun m => y_ld1 rfl ag238 (ld_blk (m.blk 6 rfl) rfl)) <| htyU (y_nilp rfl) <| htyU (y_fld rfl fa259_0 (by decide)) <| hty (fun m => y_ld1 rfl ag32 (ld_blk (m.blk 0 rfl) rfl)) <| hty (fun m => y_ld1 rfl ag3 (ld_blk (m.blk 5 rfl) rfl)) <| hty (fun m => y_ld1 rfl ag3 (ld_blk (m.blk 5 rfl) rfl)) <| htyU (y_add rfl rfl (w64 (by omega) (by omega))) <| htyU (yV (y_slBoth rfl rfl rfl Tryd.underlying32 sz5 rfl (show ((i + 4 : Nat) : Int) = _ by omega) (by omega) (by omega)) ((show Value.slice (if c = i then some a else (some a).map (·.add (i * 1))) (i + 4 - i) (c - i) = .slice (some (a.add i)) 4 (c - i) by rw [if_neg (by omega), Nat.mul_one, Nat.add_sub_cancel_left]; rfl))) <| htyU (y_arrAt rfl Tryd.underlying265 (by omega)) <| hty (fun m => yV (y_ldN rfl ag265 sz265 (by rw [b8s_length]; exact key4_length (by omega)) (Rd.part (m.rd 0 rfl))) ((show Value.agg (b8s ((l.drop i).take 4)).toArray = KN ⟨key4 l i, key4_length (by omega)⟩ from rfl))) <| hty (fun m => yV (y_lookM (enc := (KN (n := 4))) (k := ⟨key4 l i, key4_length (by omega)⟩) rfl rfl Tryd.underlying257 ti263 (bnKey Tryd.underlying265 Tryd.underlying5 (by kernel_rfl) (by kernel_rfl) (by kernel_rfl)) (m.mapX 1 rfl)) ((show lookVal false (.slice none 0 0) (aget (fvals es1) ⟨key4 l i, key4_length (by omega)⟩) = .slice none 0 0 by rw [fvals_get, hq]; rfl))) <| ?_
      refine htx (xh_call rfl Tryd.call175 (backC) [] rfl [] rfl ?_)
      rintro _ _ _ ⟨gB, rfl, rfl, rfl⟩
      refine ⟨(fun _ => wk [1, 1, 1, 1, 1, 1, 1] [0] rfl rfl), ?_⟩
      refine htend <| hsub (ρ' := [(37, _), (7, _), (6, _), (18, _), (5, _), (4, _), (3, _), (2, _), (0, _), (1, _)]) ⟨rfl, rfl, rfl, rfl, rfl, rfl, rfl, rfl, rfl, rfl, trivial⟩ <| hmemQ (X' := [_, _, _, _, _, _, _, _]) (S' := [_]) (fun _ m => m) <| hthen <| ?_
      have hlt : ∀ z ∈ ([] : List Nat), z < i := fun z hz => by cases hz
      refine hrange (σ := Nat × Nat) (α := {x : Nat × Nat // x.2 < i}) (ρ' := []) (fun s_ : Nat × Nat => [RBlk g6 3 [.int .i64 (s_.1 : Nat)], RBlk g7 3 [.int .i64 (s_.2 : Nat)], RBlk g3 3 [.int .i64 (i : Nat)], RBlk g2 238 [.pointer (some ⟨g, 0, none⟩)], RBlk g 259 [.slice (some a) n c, .map (some gm), .int .i64 (i : Nat)]]) (0, 0) (fun s_ x_ => pstep l i s_ x_.1.2) (fun s_ x_ => 1024 < i - x_.1.2) (fun x_ => [.int .i64 (x_.1.1 : Nat), .int .i64 (x_.1.2 : Nat)]) (backPos (([] : List Nat)) i hlt) (fun x_ => [(9, .int .i64 (x_.1.2 : Nat))]) [(37, _), (7, _), (6, _), (18, _), (5, _), (4, _), (3, _), (2, _), (0, _), (1, _)] ⟨rfl, rfl, rfl, rfl, rfl, rfl, rfl, rfl, rfl, rfl, trivial⟩ rfl Tryd.call189 [5, 4, 4, 4, 1] rfl (fun s_ k_ => by simp [feet, RBlk]) [0] rfl (fun w m => back_stops Fence.wide 2 trivial rfl (by decide) (zs := nints (([] : List Nat))) (e := 3) (backPos (([] : List Nat)) i hlt) (fun x_ => [.int .i64 (x_.1.1 : Nat), .int .i64 (x_.1.2 : Nat)]) (by rw [backPos_length, nints_length]) (enc_ok _ _ _) (by rw [nints_length]; first | omega | simp) (ld_blk (m.blk 0 rfl) rfl) (m.off (is := [5, 4, 4, 4, 1]) rfl 0 rfl rfl) (Go.Eng.Own.nil _ _ _ _) (fun k hk => hk.elim)) (fun _ => rfl) (by decide) (fun _ _ ha_ => ag_nd2 rfl (by decide) (by decide) ha_) (fun l_ b_ s_ x_ Q_ h_ => ?_) (fun l_ b s_ x_ => ?_) (fun Dk_ s_ hs_ => ?_)
      · exact hregR (hy (fun _ => y_assign rfl) ((hend (by refine hsub ?_ h_; exact ⟨rfl, rfl, rfl, rfl, rfl, rfl, rfl, rfl, rfl, rfl, rfl, trivial⟩))))
      · obtain ⟨u1, u2⟩ := s_
        obtain ⟨⟨j, q⟩, hq2⟩ := x_
        try dsimp only
        have hq2 : q < i := hq2
        refine hblockR <| hseqR <| hseqR <| hregR <| hy (fun m => y_ld1 rfl ag3 (ld_blk (m.blk 2 rfl) rfl)) <| hy (fun _ => y_move rfl) <| hy (fun _ => y_sub rfl rfl (w64 (by omega) (by omega))) <| hy (fun _ => y_gtr rfl rfl) <| hend <| hsub (ρ' := [(43, _), (9, _), (37, _), (7, _), (6, _), (18, _), (5, _), (4, _), (3, _), (2, _), (0, _), (1, _)]) ⟨rfl, rfl, rfl, rfl, rfl, rfl, rfl, rfl, rfl, rfl, rfl, rfl, trivial⟩ <| hthenR <| ?_
        refine hifR rfl (fun hb => ?_) (fun hb => ?_)
        · refine hexitR <| hthen_exit <| hqblock_exit' (by decide) <| ?_
          exact hrq_break [0, 0, 0, 0, 0] rfl [0] rfl ((show 1024 < i - q by omega))
        · refine hcskipR <| hthenR <| hseqR <| hdrwR [6] [(0, some 0), (1, some 0), (2, some 0), (3, some 0), (4, some 0), (5, some 0), (6, none), (7, some 1)] (by kernel_rfl) (by kernel_rfl) rfl 99 <| hty (fun m => y_ld1 rfl ag238 (ld_blk (m.blk 3 rfl) rfl)) <| htyU (y_nilp rfl) <| htyU (y_fld rfl fa259_0 (by decide)) <| hty (fun m => y_ld1 rfl ag32 (ld_blk (m.blk 4 rfl) rfl)) <| hty (fun m => y_ld1 rfl ag3 (ld_blk (m.blk 2 rfl) rfl)) <| htyU (y_move rfl) <| ?_
          refine htx (xh_call rfl Tryd.call176 (longC (by omega) hl (by omega) (by omega)) [] rfl [0] rfl ?_)
          rintro _ _ _ ⟨rfl, rfl, rfl⟩
          refine ⟨(fun _ => wk [0, 0, 0, 0, 0] [0] rfl rfl), ?_⟩
          refine htyU (y_assign rfl) <| htend <| hsub (ρ' := [(10, _), (43, _), (9, _), (37, _), (7, _), (6, _), (18, _), (5, _), (4, _), (3, _), (2, _), (0, _), (1, _)]) ⟨rfl, rfl, rfl, rfl, rfl, rfl, rfl, rfl, rfl, rfl, rfl, rfl, rfl, trivial⟩ <| hmemQ (X' := [_, _, _, _, _]) (S' := [_]) (fun _ m => m) <| hthenR <| hseqR <| hregR <| hy (fun _ => y_move rfl) <| hy (fun m => y_ld1 rfl ag3 (ld_blk (m.blk 0 rfl) rfl)) <| hy (fun _ => y_gtr rfl rfl) <| hend <| hsub (ρ' := [(53, _), (10, _), (43, _), (9, _), (37, _), (7, _), (6, _), (18, _), (5, _), (4, _), (3, _), (2, _), (0, _), (1, _)]) ⟨rfl, rfl, rfl, rfl, rfl, rfl, rfl, rfl, rfl, rfl, rfl, rfl, rfl, rfl, trivial⟩ <| hthenR <| ?_
          refine hifR rfl (fun hx1 => ?_) (fun hx1 => ?_)
          · refine hdrwBR [2, 2, 2] [0] rfl rfl [4, 5] [(0, some 0), (1, some 1), (2, some 1), (3, some 1), (4, none), (5, none)] (by kernel_rfl) (by kernel_rfl) rfl 99 <| htyU (y_move rfl) <| hty (fun m => y_ld1 rfl ag3 (ld_blk (m.blk 0 rfl) rfl)) <| htyU (y_move rfl) <| htyU (yV (y_sub rfl rfl (w64 (by omega) (by omega))) ((show Value.int .i64 ((i : Int) - (q : Int)) = .int .i64 ((i - q : Nat) : Int) by congr 1; omega))) <| ?_
            refine htx0 (xh_st1 0 rfl rfl rfl sz3 rfl (by first | exact Nat.le_of_ble_eq_true rfl | simp) ⟨(fun _ => wk [2, 2, 2] [0] rfl rfl), ?_⟩)
            refine htx0 (xh_st1 1 rfl rfl rfl sz3 rfl (by first | exact Nat.le_of_ble_eq_true rfl | simp) ⟨(fun _ => wk [2, 2, 2] [0] rfl rfl), ?_⟩)
            refine htend <| hsub (ρ' := [(53, _), (10, _), (43, _), (9, _), (37, _), (7, _), (6, _), (18, _), (5, _), (4, _), (3, _), (2, _), (0, _), (1, _)]) ⟨rfl, rfl, rfl, rfl, rfl, rfl, rfl, rfl, rfl, rfl, rfl, rfl, rfl, rfl, trivial⟩ <| hmemQ (X' := [_, _, _, _, _]) (S' := [_]) (fun _ m => m) <| hqblock <| ?_
            exact hrq_nextE (lng l i q, i - q) (by show pstep l i (u1, u2) q = _; unfold pstep; rw [if_neg (by omega), if_pos (by show u1 < _; omega)]) [1, 0, 0, 0, 0] rfl [0] rfl
          · refine hcskipR <| hqblock <| ?_
            exact hrq_nextE (u1, u2) (by show pstep l i (u1, u2) q = _; unfold pstep; rw [if_neg (by omega), if_neg (by show ¬ u1 < _; omega)]) [0, 0, 0, 0, 0] rfl [0] rfl
      · obtain ⟨u1, u2⟩ := s_
        have hend := match_ends e0.symm (by omega) hlt hs_
        have hu1 : u1 = (matchL l i).1 := congrArg Prod.fst hend
        have hu2 : u2 = (matchL l i).2 := congrArg Prod.snd hend
        refine hthen <| hseq <| hdrw [] [(0, some 0), (1, some 0), (2, some 0), (3, some 0)] (by kernel_rfl) (by kernel_rfl) rfl 99 <| hty (fun m => y_ld1 rfl ag3 (ld_blk (m.blk 1 rfl) rfl)) <| hty (fun m => y_ld1 rfl ag3 (ld_blk (m.blk 2 rfl) rfl)) <| htyU (y_assign rfl) <| htyU (y_assign rfl) <| htend <| hsub (ρ' := [(5, _), (4, _), (37, _), (7, _), (6, _), (18, _), (3, _), (2, _), (0, _), (1, _)]) ⟨rfl, rfl, rfl, rfl, rfl, rfl, rfl, rfl, rfl, rfl, trivial⟩ <| hthen <| hret <| ?_
        refine hcol trivial [0] rfl ?_
        skip
        refine hmemQ (X' := RFnd g gm (some a) n c i es1 :: _) (fun w m => (m.perm (takeR_perm [4, 5, 5] _ [_, _, _] _ rfl)).pack) ?_
        exact hretM2 trivial rfl rfl rfl [0] rfl [] rfl ⟨i, es1, (by rw [← hu1, ← hu2]), rfl, rfl, ⟨Nat.le_refl _, hF1⟩⟩
    · have e0 := kept_pos hF1 hq
      refine hdrw [15] [(0, some 1), (1, some 0), (2, some 0), (3, some 0), (4, some 1), (5, some 1), (6, some 1), (7, some 1), (8, some 1), (9, some 1), (10, some 1), (11, some 0), (12, some 0), (13, some 0), (14, some 0), (15, none)] (by kernel_rfl) (by kernel_rfl) rfl 99 <| hty (fun m => y_ld1 rfl ag238 (ld_blk (m.blk 6 rfl) rfl)) <| htyU (y_nilp rfl) <| htyU (y_fld rfl fa259_1 (by decide)) <| hty (fun m => y_ld1 rfl ag257 (ld_blk (m.blk 0 rfl) rfl)) <| hty (fun m => y_ld1 rfl ag238 (ld_blk (m.blk 6 rfl) rfl)) <| htyU (y_nilp rfl) <| htyU (y_fld rfl fa259_0 (by decide)) <| hty (fun m => y_ld1 rfl ag32 (ld_blk (m.blk 0 rfl) rfl)) <| hty (fun m => y_ld1 rfl ag3 (ld_blk (m.blk 5 rfl) rfl)) <| hty (fun m => y_ld1 rfl ag3 (ld_blk (m.blk 5 rfl) rfl)) <| htyU (y_add rfl rfl (w64 (by omega) (by omega))) <| htyU (yV (y_slBoth rfl rfl rfl Tryd.underlying32 sz5 rfl (show ((i + 4 : Nat) : Int) = _ by omega) (by omega) (by omega)) ((show Value.slice (if c = i then some a else (some a).map (·.add (i * 1))) (i + 4 - i) (c - i) = .slice (some (a.add i)) 4 (c - i) by rw [if_neg (by omega), Nat.mul_one, Nat.add_sub_cancel_left]; rfl))) <| htyU (y_arrAt rfl Tryd.underlying265 (by omega)) <| hty (fun m => yV (y_ldN rfl ag265 sz265 (by rw [b8s_length]; exact key4_length (by omega)) (Rd.part (m.rd 0 rfl))) ((show Value.agg (b8s ((l.drop i).take 4)).toArray = KN ⟨key4 l i, key4_length (by omega)⟩ from rfl))) <| hty (fun m => yV (y_lookM (enc := (KN (n := 4))) (k := ⟨key4 l i, key4_length (by omega)⟩) rfl rfl Tryd.underlying257 ti263 (bnKey Tryd.underlying265 Tryd.underlying5 (by kernel_rfl) (by kernel_rfl) (by kernel_rfl)) (m.mapX 1 rfl)) ((show lookVal false (.slice none 0 0) (aget (fvals es1) ⟨key4 l i, key4_length (by omega)⟩) = .slice x.A x.l.length x.c by rw [fvals_get, hq]; rfl))) <| ?_
      refine htx (xh_call rfl Tryd.call175 (backC) [] rfl [] rfl ?_)
      rintro _ _ _ ⟨gB, rfl, rfl, rfl⟩
      refine ⟨(fun _ => wk [1, 1, 1, 1, 1, 1, 1] [0] rfl rfl), ?_⟩
      refine htend <| hsub (ρ' := [(37, _), (7, _), (6, _), (18, _), (5, _), (4, _), (3, _), (2, _), (0, _), (1, _)]) ⟨rfl, rfl, rfl, rfl, rfl, rfl, rfl, rfl, rfl, rfl, trivial⟩ <| hmemQ (X' := [_, _, _, _, _, _, _, _]) (S' := [_]) (fun _ m => m) <| hthen <| ?_
      have hlt : ∀ z ∈ x.l, z < i := fun z hz => (posL_lt (e0 ▸ hz)).1
      have hxl : x.l.length ≤ n := by rw [e0]; exact Nat.le_trans (posL_length _ _ _) (by omega)
      obtain ⟨j, hj1, _⟩ := put_present hq
      refine hmemC (X' := ROwn 3 1 (.slice x.A x.l.length x.c) x.l.length (nts x.l) :: _) (fun w m => (m.perm (takeR_perm [3] _ [_] _ rfl)).packTake j hj1) ?_
      refine hrange (σ := Nat × Nat) (α := {x : Nat × Nat // x.2 < i}) (ρ' := []) (fun s_ : Nat × Nat => [RBlk g6 3 [.int .i64 (s_.1 : Nat)], RBlk g7 3 [.int .i64 (s_.2 : Nat)], RBlk g3 3 [.int .i64 (i : Nat)], RBlk g2 238 [.pointer (some ⟨g, 0, none⟩)], RBlk g 259 [.slice (some a) n c, .map (some gm), .int .i64 (i : Nat)]]) (0, 0) (fun s_ x_ => pstep l i s_ x_.1.2) (fun s_ x_ => 1024 < i - x_.1.2) (fun x_ => [.int .i64 (x_.1.1 : Nat), .int .i64 (x_.1.2 : Nat)]) (backPos (x.l) i hlt) (fun x_ => [(9, .int .i64 (x_.1.2 : Nat))]) [(37, _), (7, _), (6, _), (18, _), (5, _), (4, _), (3, _), (2, _), (0, _), (1, _)] ⟨rfl, rfl, rfl, rfl, rfl, rfl, rfl, rfl, rfl, rfl, trivial⟩ rfl Tryd.call189 [6, 5, 5, 5, 3] rfl (fun s_ k_ => by simp [feet, RBlk]) [0] rfl (fun w m => back_stops Fence.wide 2 trivial rfl (by decide) (zs := nints (x.l)) (e := 3) (backPos (x.l) i hlt) (fun x_ => [.int .i64 (x_.1.1 : Nat), .int .i64 (x_.1.2 : Nat)]) (by rw [backPos_length, nints_length]) (enc_ok _ _ _) (by rw [nints_length]; first | omega | simp) (ld_blk (m.blk 2 rfl) rfl) (m.off (is := [6, 5, 5, 5, 3]) rfl 2 rfl rfl) (own_ints (m.own 0 rfl)) (fun k hk => m.off (is := [6, 5, 5, 5, 3]) rfl 0 rfl hk)) (fun _ => rfl) (by decide) (fun _ _ ha_ => ag_nd2 rfl (by decide) (by decide) ha_) (fun l_ b_ s_ x_ Q_ h_ => ?_) (fun l_ b s_ x_ => ?_) (fun Dk_ s_ hs_ => ?_)
      · exact hregR (hy (fun _ => y_assign rfl) ((hend (by refine hsub ?_ h_; exact ⟨rfl, rfl, rfl, rfl, rfl, rfl, rfl, rfl, rfl, rfl, rfl, trivial⟩))))
      · obtain ⟨u1, u2⟩ := s_
        obtain ⟨⟨j, q⟩, hq2⟩ := x_
        try dsimp only
        have hq2 : q < i := hq2
        refine hblockR <| hseqR <| hseqR <| hregR <| hy (fun m => y_ld1 rfl ag3 (ld_blk (m.blk 2 rfl) rfl)) <| hy (fun _ => y_move rfl) <| hy (fun _ => y_sub rfl rfl (w64 (by omega) (by omega))) <| hy (fun _ => y_gtr rfl rfl) <| hend <| hsub (ρ' := [(43, _), (9, _), (37, _), (7, _), (6, _), (18, _), (5, _), (4, _), (3, _), (2, _), (0, _), (1, _)]) ⟨rfl, rfl, rfl, rfl, rfl, rfl, rfl, rfl, rfl, rfl, rfl, rfl, trivial⟩ <| hthenR <| ?_
        refine hifR rfl (fun hb => ?_) (fun hb => ?_)
        · refine hexitR <| hthen_exit <| hqblock_exit' (by decide) <| ?_
          exact hrq_break [0, 0, 0, 0, 0] rfl [0] rfl ((show 1024 < i - q by omega))
        · refine hcskipR <| hthenR <| hseqR <| hdrwR [6] [(0, some 0), (1, some 0), (2, some 0), (3, some 0), (4, some 0), (5, some 0), (6, none), (7, some 1)] (by kernel_rfl) (by kernel_rfl) rfl 99 <| hty (fun m => y_ld1 rfl ag238 (ld_blk (m.blk 3 rfl) rfl)) <| htyU (y_nilp rfl) <| htyU (y_fld rfl fa259_0 (by decide)) <| hty (fun m => y_ld1 rfl ag32 (ld_blk (m.blk 4 rfl) rfl)) <| hty (fun m => y_ld1 rfl ag3 (ld_blk (m.blk 2 rfl) rfl)) <| htyU (y_move rfl) <| ?_
          refine htx (xh_call rfl Tryd.call176 (longC (by omega) hl (by omega) (by omega)) [] rfl [0] rfl ?_)
          rintro _ _ _ ⟨rfl, rfl, rfl⟩
          refine ⟨(fun _ => wk [0, 0, 0, 0, 0] [0] rfl rfl), ?_⟩
          refine htyU (y_assign rfl) <| htend <| hsub (ρ' := [(10, _), (43, _), (9, _), (37, _), (7, _), (6, _), (18, _), (5, _), (4, _), (3, _), (2, _), (0, _), (1, _)]) ⟨rfl, rfl, rfl, rfl, rfl, rfl, rfl, rfl, rfl, rfl, rfl, rfl, rfl, trivial⟩ <| hmemQ (X' := [_, _, _, _, _]) (S' := [_]) (fun _ m => m) <| hthenR <| hseqR <| hregR <| hy (fun _ => y_move rfl) <| hy (fun m => y_ld1 rfl ag3 (ld_blk (m.blk 0 rfl) rfl)) <| hy (fun _ => y_gtr rfl rfl) <| hend <| hsub (ρ' := [(53, _), (10, _), (43, _), (9, _), (37, _), (7, _), (6, _), (18, _), (5, _), (4, _), (3, _), (2, _), (0, _), (1, _)]) ⟨rfl, rfl, rfl, rfl, rfl, rfl, rfl, rfl, rfl, rfl, rfl, rfl, rfl, rfl, trivial⟩ <| hthenR <| ?_
          refine hifR rfl (fun hx1 => ?_) (fun hx1 => ?_)
          · refine hdrwBR [2, 2, 2] [0] rfl rfl [4, 5] [(0, some 0), (1, some 1), (2, some 1), (3, some 1), (4, none), (5, none)] (by kernel_rfl) (by kernel_rfl) rfl 99 <| htyU (y_move rfl) <| hty (fun m => y_ld1 rfl ag3 (ld_blk (m.blk 0 rfl) rfl)) <| htyU (y_move rfl) <| htyU (yV (y_sub rfl rfl (w64 (by omega) (by omega))) ((show Value.int .i64 ((i : Int) - (q : Int)) = .int .i64 ((i - q : Nat) : Int) by congr 1; omega))) <| ?_
            refine htx0 (xh_st1 0 rfl rfl rfl sz3 rfl (by first | exact Nat.le_of_ble_eq_true rfl | simp) ⟨(fun _ => wk [2, 2, 2] [0] rfl rfl), ?_⟩)
            refine htx0 (xh_st1 1 rfl rfl rfl sz3 rfl (by first | exact Nat.le_of_ble_eq_true rfl | simp) ⟨(fun _ => wk [2, 2, 2] [0] rfl rfl), ?_⟩)
            refine htend <| hsub (ρ' := [(53, _), (10, _), (43, _), (9, _), (37, _), (7, _), (6, _), (18, _), (5, _), (4, _), (3, _), (2, _), (0, _), (1, _)]) ⟨rfl, rfl, rfl, rfl, rfl, rfl, rfl, rfl, rfl, rfl, rfl, rfl, rfl, rfl, trivial⟩ <| hmemQ (X' := [_, _, _, _, _]) (S' := [_]) (fun _ m => m) <| hqblock <| ?_
            exact hrq_nextE (lng l i q, i - q) (by show pstep l i (u1, u2) q = _; unfold pstep; rw [if_neg (by omega), if_pos (by show u1 < _; omega)]) [1, 0, 0, 0, 0] rfl [0] rfl
          · refine hcskipR <| hqblock <| ?_
            exact hrq_nextE (u1, u2) (by show pstep l i (u1, u2) q = _; unfold pstep; rw [if_neg (by omega), if_neg (by show ¬ u1 < _; omega)]) [0, 0, 0, 0, 0] rfl [0] rfl
      · obtain ⟨u1, u2⟩ := s_
        have hend := match_ends e0 (by omega) hlt hs_
        have hu1 : u1 = (matchL l i).1 := congrArg Prod.fst hend
        have hu2 : u2 = (matchL l i).2 := congrArg Prod.snd hend
        refine hthen <| hseq <| hdrw [] [(0, some 0), (1, some 0), (2, some 0), (3, some 0)] (by kernel_rfl) (by kernel_rfl) rfl 99 <| hty (fun m => y_ld1 rfl ag3 (ld_blk (m.blk 1 rfl) rfl)) <| hty (fun m => y_ld1 rfl ag3 (ld_blk (m.blk 2 rfl) rfl)) <| htyU (y_assign rfl) <| htyU (y_assign rfl) <| htend <| hsub (ρ' := [(5, _), (4, _), (37, _), (7, _), (6, _), (18, _), (3, _), (2, _), (0, _), (1, _)]) ⟨rfl, rfl, rfl, rfl, rfl, rfl, rfl, rfl, rfl, rfl, trivial⟩ <| hthen <| hret <| ?_
        refine hcol trivial [0] rfl ?_
        refine hmemQ (X' := RPack (fress es1) :: _) (fun w m => (Mem.packPut (m.perm (takeR_perm [5, 5] _ [_, _] _ rfl))).packPerm (z_back hj1)) ?_
        refine hmemQ (X' := RFnd g gm (some a) n c i es1 :: _) (fun w m => (m.perm (takeR_perm [5, 6, 0] _ [_, _, _] _ rfl)).pack) ?_
        exact hretM2 trivial rfl rfl rfl [0] rfl [] rfl ⟨i, es1, (by rw [← hu1, ← hu2]), rfl, rfl, ⟨Nat.le_refl _, hF1⟩⟩
end Go.Proofs.YtfikjheicjamhaaDoor
end
section
/- Scopes in which the run jumps back to one label, in the engine over things in memory (printed by scopegen.py). No statement is proved here. -/
set_option linter.unusedVariables false
set_option linter.unusedSimpArgs false
set_option linter.unusedSectionVars false
namespace Go.Eng
open Go.RowKit
theorem wp_scope_rel {P : Program} {Q : Exit → Act → World → Prop} {ι : Type} {c rest : Code} (l : Nat) (J : ι → Act → World → Prop) (μ : ι → Nat) (hf : findLabel c l = some rest) {a : Act} {w : World}
    (first : c.wp P (Exit.jump l (fun a w => ∃ j, J j a w) Q) a w)
    (pass : ∀ i a w, J i a w → rest.wp P (Exit.jump l (fun a' w' => ∃ j, J j a' w' ∧ μ j < μ i) Q) a w) : (Code.scope c).wp P Q a w := by
  intro b k cs
  have hg : gotoIn l (.inScope c :: k) = some (.code rest :: .inScope c :: k) := by simp [gotoIn, hf]
  have key : ∀ n i a w, μ i = n → J i a w → ∃ e a' w', Q e a' w' ∧ Arrives P (lone (b.at a (.code rest :: .inScope c :: k)) cs w) b k cs e a' w' := by
    intro n
    induction n using Nat.strongRecOn with
    | _ n ih =>
      intro i a w hn hJ
      obtain ⟨e, a₁, w₁, hq, harr⟩ := pass i a w hJ b (.inScope c :: k) cs
      cases e with
      | normal => exact ⟨.normal, a₁, w₁, hq, Steps.trans harr (.one step_inScope)⟩
      | exit id => exact ⟨.exit id, a₁, w₁, hq, fun k' hk => harr k' (by simp [exitTo, hk])⟩
      | goto l' =>
        obtain ⟨rfl, j, hJ', hlt⟩ := hq
        obtain ⟨e₂, a₂, w₂, hq₂, harr₂⟩ := ih _ (by omega) j a₁ w₁ rfl hJ'
        exact ⟨e₂, a₂, w₂, hq₂, .of_steps (harr _ hg) harr₂⟩
      | ret => exact ⟨_, a₁, w₁, hq, harr⟩
      | panic ch => exact ⟨_, a₁, w₁, hq, harr⟩
      | outgrown => exact ⟨_, a₁, w₁, hq, harr⟩
  obtain ⟨e, a₁, w₁, hq, harr⟩ := first b (.inScope c :: k) cs
  cases e with
  | normal => exact ⟨.normal, a₁, w₁, hq, .head step_scope (Steps.trans harr (.one step_inScope))⟩
  | exit id => exact ⟨.exit id, a₁, w₁, hq, fun k' hk => .head step_scope (harr k' (by simp [exitTo, hk]))⟩
  | goto l' =>
    obtain ⟨rfl, j, hJ'⟩ := hq
    obtain ⟨e₂, a₂, w₂, hq₂, harr₂⟩ := key _ j a₁ w₁ rfl hJ'
    exact ⟨e₂, a₂, w₂, hq₂, .of_steps (.head step_scope (harr _ hg)) harr₂⟩
  | ret => exact ⟨_, a₁, w₁, hq, .of_steps (.one step_scope) harr⟩
  | panic ch => exact ⟨_, a₁, w₁, hq, .of_steps (.one step_scope) harr⟩
  | outgrown => exact ⟨_, a₁, w₁, hq, .of_steps (.one step_scope) harr⟩
section
variable {P : Program} {Q : Exit → Act → World → Prop} {N : Nat} {D : List Deferred} {ρ : Env} {b : Base} {X S : List Res} {c : Code}
theorem hscope {ι : Type} {l : Nat} {rest : Code} (μ : ι → Nat) (R : ι → Env) (X1 S1 : ι → List Res) (I : ι → Prop) (ρk : Env) (Xr Sr : List Res) (hf : findLabel c l = some rest)
    (first : HC P (Exit.jump l (fun a' w' => ∃ j, Ag N D (R j ++ ρk) a' ∧ Mem b (X1 j ++ Xr) (S1 j ++ Sr) w' ∧ I j) Q) N D c ρ b X S)
    (pass : ∀ i, I i → HC P (Exit.jump l (fun a' w' => ∃ j, Ag N D (R j ++ ρk) a' ∧ Mem b (X1 j ++ Xr) (S1 j ++ Sr) w' ∧ I j ∧ μ j < μ i) Q) N D rest (R i ++ ρk) b (X1 i ++ Xr) (S1 i ++ Sr)) : HC P Q N D (.scope c) ρ b X S := fun w m a ha =>
  wp_scope_rel l (fun j a' w' => Ag N D (R j ++ ρk) a' ∧ Mem b (X1 j ++ Xr) (S1 j ++ Sr) w' ∧ I j) μ hf (first w m a ha)
    (fun i a' w' h => Code.wp_mono (fun e a' w' q => by
      cases e <;> first | exact q | (obtain ⟨h0, j, h1, h2, h3, h4⟩ := q; exact ⟨h0, j, ⟨h1, h2, h3⟩, h4⟩)) (pass i h.2.2 w' h.2.1 a' h.1))
theorem hcgoto {l : Nat} (h : HQ Q N D (.goto l) ρ b X S) : HC P Q N D (.goto l) ρ b X S := fun w m a ha => wp_goto (h w m a ha)
theorem hthen_goto {K : Act → World → Prop} {l : Nat} (h : HQ Q N D (.goto l) ρ b X S) : HQ (Exit.then K Q) N D (.goto l) ρ b X S := h
theorem hjump_ret {l : Nat} {J : Act → World → Prop} (h : HQ Q N D .ret ρ b X S) : HQ (Exit.jump l J Q) N D .ret ρ b X S := h
theorem hfallH {l : Nat} {J : Act → World → Prop} {r : Code} (h : HQ (Exit.jump l J Q) N D (.goto l) ρ b X S) (k : ∀ a w, J a w → r.wp P (Exit.jump l J Q) a w) : HC P (Exit.jump l J Q) N D (.seq (.label l) r) ρ b X S := fun w m a ha => wp_seq (wp_label (k a w (h w m a ha).2))
theorem hscope1 {α : Type} {l : Nat} {rest : Code} (μ : α → Nat) (R : α → Env) (X1 S1 : α → List Res) (I : α → Prop) (ρk : Env) (Xr Sr : List Res) (hf : findLabel c l = some rest)
    (first : HC P (Exit.jump l (fun a' w' => ∃ x, Ag N D (R x ++ ρk) a' ∧ Mem b (X1 x ++ Xr) (S1 x ++ Sr) w' ∧ I x) Q) N D c ρ b X S)
    (pass : ∀ a, I a → HC P (Exit.jump l (fun a' w' => ∃ x, Ag N D (R x ++ ρk) a' ∧ Mem b (X1 x ++ Xr) (S1 x ++ Sr) w' ∧ I x ∧ μ x < μ a) Q) N D rest (R a ++ ρk) b (X1 a ++ Xr) (S1 a ++ Sr)) : HC P Q N D (.scope c) ρ b X S :=
  hscope (ι := α) (fun i => μ i) (fun i => R i) (fun i => X1 i) (fun i => S1 i) (fun i => I i) ρk Xr Sr hf
    (fun w m a ha => Code.wp_mono (fun e a' w' q => by
      cases e <;> first | exact q | (obtain ⟨h0, x, h⟩ := q; exact ⟨h0, x, h⟩)) (first w m a ha))
    (fun i hi w m a ha => Code.wp_mono (fun e a' w' q => by
      cases e <;> first | exact q | (obtain ⟨h0, x, h⟩ := q; exact ⟨h0, x, h⟩)) (pass i hi w m a ha))
theorem hscopeF1 {α : Type} {l : Nat} {r : Code} (μ : α → Nat) (R : α → Env) (X1 S1 : α → List Res) (I : α → Prop) (ρk : Env) (hk : SubB ρk ρ) (is : List Nat) {Xt Xr : List Res} (hX : takeR is X = some (Xt, Xr)) (hf : findLabel c l = some (.seq .skip r))
    (pass : ∀ a, I a → HC P (Exit.jump l (fun a' w' => ∃ x, Ag N D (R x ++ ρk) a' ∧ Mem b (X1 x ++ Xr) (S1 x ++ S) w' ∧ I x ∧ μ x < μ a) Q) N D r (R a ++ ρk) b (X1 a ++ Xr) (S1 a ++ S))
    (first : (∀ a w, (∃ x, Ag N D (R x ++ ρk) a ∧ Mem b (X1 x ++ Xr) (S1 x ++ S) w ∧ I x) → r.wp P (Exit.jump l (fun a' w' => ∃ x, Ag N D (R x ++ ρk) a' ∧ Mem b (X1 x ++ Xr) (S1 x ++ S) w' ∧ I x) Q) a w) →
      HC P (Exit.jump l (fun a' w' => ∃ x, Ag N D (R x ++ ρk) a' ∧ Mem b (X1 x ++ Xr) (S1 x ++ S) w' ∧ I x) Q) N D c ρ b X S) : HC P Q N D (.scope c) ρ b X S :=
  hscope1 (l := l) (rest := .seq .skip r) μ R X1 S1 I ρk Xr S hf
    (first fun a w h => by
      obtain ⟨x, h1, h2, h3⟩ := h
      exact Code.wp_mono (fun e a' w' q => by
        cases e <;> first | exact q | (obtain ⟨h0, x_, g1, g2, g3, g4⟩ := q; exact ⟨h0, x_, g1, g2, g3⟩)) (pass x h3 w h2 a h1))
    (fun a h => fun w m a9 ha => wp_seq (wp_skip (pass a h w m a9 ha)))
theorem hgoto1 {α : Type} {l M : Nat} {μ : α → Nat} {R : α → Env} {X1 S1 : α → List Res} {Xr Sr : List Res} {ρ0 : Env} {I : α → Prop} (x : α) (hs : SubB (R x ++ ρ0) ρ) (is : List Nat) {Xz : List Res} (hX : takeR is X = some (X1 x ++ Xr, Xz)) (js : List Nat) (hS : getR js S = some (S1 x ++ Sr)) (hI : I x) (hlt : μ x < M) :
    HQ (Exit.jump l (fun a' w' => ∃ x, Ag N D (R x ++ ρ0) a' ∧ Mem b (X1 x ++ Xr) (S1 x ++ Sr) w' ∧ I x ∧ μ x < M) Q) N D (.goto l) ρ b X S :=
  fun w m a ha => ⟨rfl, x, ha.sub hs.sub, ((m.perm (takeR_perm _ _ _ _ hX)).dropX).subS (getR_sub _ _ _ hS), hI, hlt⟩
theorem hfall1 {α : Type} {l : Nat} {R : α → Env} {X1 S1 : α → List Res} {Xr Sr : List Res} {ρ0 : Env} {I : α → Prop} (x : α) (hs : SubB (R x ++ ρ0) ρ) (is : List Nat) {Xz : List Res} (hX : takeR is X = some (X1 x ++ Xr, Xz)) (js : List Nat) (hS : getR js S = some (S1 x ++ Sr)) (hI : I x) :
    HQ (Exit.jump l (fun a' w' => ∃ x, Ag N D (R x ++ ρ0) a' ∧ Mem b (X1 x ++ Xr) (S1 x ++ Sr) w' ∧ I x) Q) N D (.goto l) ρ b X S :=
  fun w m a ha => ⟨rfl, x, ha.sub hs.sub, ((m.perm (takeR_perm _ _ _ _ hX)).dropX).subS (getR_sub _ _ _ hS), hI⟩
end
end Go.Eng
end
section
/- Contracts: bytes in fewer (layer 5): packing. -/
set_option linter.unusedVariables false
set_option linter.unusedSimpArgs false
set_option maxRecDepth 20000
set_option maxHeartbeats 2000000
namespace Go.Proofs.YtfikjheicjamhaaDoor
open Go.Eng Go.Hx
theorem putC {g0 g1 : Nat} {A1 A2 : Option Addr} {c1 c2 : Nat} {own out : List UInt8} (hlen : out.length + 2 * own.length ≤ 4000000000) : Con Tryd.prog 157 [.pointer (some ⟨g0, 0, none⟩), .pointer (some ⟨g1, 0, none⟩)] [RBlk g0 32 [.slice A1 own.length c1], ROwn 5 1 (.slice A1 own.length c1) own.length (b8s own), RBlk g1 32 [.slice A2 out.length c2], ROwn 5 1 (.slice A2 out.length c2) out.length (b8s out)] [] (fun v_ X_ S_ => ∃ A3 A4 c3 c4, v_ = (.tuple #[]) ∧ X_ = [RBlk g0 32 [.slice A3 0 c3], ROwn 5 1 (.slice A3 0 c3) 0 [], RBlk g1 32 [.slice A4 (out ++ litL own).length c4], ROwn 5 1 (.slice A4 (out ++ litL own).length c4) (out ++ litL own).length (b8s (out ++ litL own))] ∧ S_ = []) := by
  obtain ⟨o0, ho0⟩ : ∃ o0, o0 = out ++ litL own := ⟨_, rfl⟩
  rw [← ho0]
  refine henter (N := 22) Tryd.func157 rfl rfl (by simp) fun b => ?_
  refine hblock <| ?_
  refine hloop6 (fun own out A1 c1 A2 c2 => own.length) (fun own out A1 c1 A2 c2 => []) (fun own out A1 c1 A2 c2 => [RBlk g0 32 [.slice A1 own.length c1], ROwn 5 1 (.slice A1 own.length c1) own.length (b8s own), RBlk g1 32 [.slice A2 out.length c2], ROwn 5 1 (.slice A2 out.length c2) out.length (b8s out)]) (fun own out A1 c1 A2 c2 => []) (fun own out A1 c1 A2 c2 => out.length + 2 * own.length ≤ 4000000000 ∧ out ++ litL own = o0) own out A1 c1 A2 c2 [(0, _), (1, _)] ⟨rfl, rfl, trivial⟩ [0, 0, 0, 0] rfl [] rfl (⟨hlen, ho0.symm⟩) trivial (fun own out A1 c1 A2 c2 ⟨hlen, hE⟩ => ?_)
  refine hseq <| hseq <| hreg <| hy (fun m => y_ld1 rfl ag32 (ld_blk (m.blk 0 rfl) rfl)) <| hy (fun _ => y_lenS rfl Tryd.underlying32) <| hy (fun _ => y_gtr rfl rfl) <| hend <| hsub (ρ' := [(5, _), (0, _), (1, _)]) ⟨rfl, rfl, rfl, trivial⟩ <| hthen <| ?_
  refine hif rfl (fun h0 => ?_) (fun h0 => ?_)
  · have hne : own ≠ [] := fun e => by rw [e] at h0; exact absurd h0 (by decide)
    rw [litL_cons hne] at hE
    obtain ⟨k, hk⟩ : ∃ k, k = min own.length 128 := ⟨_, rfl⟩
    have hk1 : 1 ≤ k ∧ k ≤ 128 ∧ k ≤ own.length := by omega
    rw [← hk] at hE
    have htk : own.take 128 = own.take k := by
      rcases Nat.lt_or_ge own.length 128 with h | h
      · rw [List.take_of_length_le (by omega), List.take_of_length_le (by omega)]
      · rw [show k = 128 by omega]
    have hdk : own.drop 128 = own.drop k := by
      rcases Nat.lt_or_ge own.length 128 with h | h
      · rw [List.drop_of_length_le (by omega), List.drop_of_length_le (by omega)]
      · rw [show k = 128 by omega]
    rw [htk, hdk] at hE
    refine hfactC (fun m => (Own.rd (m.own 1 rfl)).2.1) fun hc1 => ?_
    refine hcskip <| hthen <| hblock <| hseq <| hreg <| hy (fun m => y_ld1 rfl ag32 (ld_blk (m.blk 0 rfl) rfl)) <| hy (fun _ => y_lenS rfl Tryd.underlying32) <| hy (fun _ => yV (y_min rfl rfl) ((show Value.int .i64 _ = .int .i64 (k : Nat) by congr 1; omega))) <| hy (fun _ => y_assign rfl) <| hend <| hsub (ρ' := [(2, _), (5, _), (0, _), (1, _)]) ⟨rfl, rfl, rfl, rfl, trivial⟩ <| hthen <| hseq <| hdrwB [0, 0, 0] [] rfl rfl [4, 5, 9, 10] [(0, some 1), (1, some 3), (2, some 0), (3, some 0), (6, some 2), (7, some 2), (8, some 2), (4, none), (5, none), (9, none), (10, none)] (by kernel_rfl) (by kernel_rfl) rfl 3 <| hty (fun m => y_ld1 rfl ag32 (ld_blk (m.blk 2 rfl) rfl)) <| htyU (y_move rfl) <| htyU (yV (y_sub rfl rfl (w64 (by omega) (by omega))) ((show Value.int .i64 ((k : Int) - 1) = .int .i64 ((k - 1 : Nat) : Int) by congr 1; omega))) <| htyU (yV (y_conv rfl Tryd.underlying3 Tryd.underlying5 (u8mod (k - 1))) ((show Value.int .u8 _ = B8 (UInt8.ofNat (k - 1)) from rfl))) <| hty (fun m => y_ld1 rfl ag32 (ld_blk (m.blk 0 rfl) rfl)) <| htyU (y_move rfl) <| htyU (y_slTo rfl rfl Tryd.underlying32 sz5 rfl (by omega)) <| ?_
    refine htx (xh_bsl Tryd.underlying32 ti5 rfl rfl rfl (by simp [Value.cells, B8]) (by decide) (by decide) (fun g13 => ⟨(fun _ => wk [1, 1, 1] [] rfl rfl), ?_⟩))
    have hA_b13 : 0 < 1 → (some (⟨g13, 0, none⟩ : Addr)) ≠ none := fun _ h => by cases h
    refine htx (xh_app 4 rfl rfl rfl Tryd.underlying32 Tryd.underlying32 (by exact .inl rfl) ti5 rfl (fun m => Src.of_rd (m.ord 0 rfl)) (b8s_one (l := [UInt8.ofNat (k - 1)])) (by unfold maxLen; omega) (by omega) (fun u => ⟨(fun _ => wk [2, 2, 2] [] rfl rfl), ?_⟩))
    refine htfact (fun m => (m.own 0 rfl).slice) ?_
    rintro ⟨A_y, c_y, rfl, hc_y⟩
    refine htfact (fun m => (m.ord 0 rfl).2.1) fun hA_y => ?_
    refine htx (xh_app 0 rfl rfl rfl Tryd.underlying32 Tryd.underlying32 (by exact .inl rfl) ti5 rfl (fun m => Src.of_rd (Rd.takeM (m.ord 3 rfl) hk1.2.2)) b8s_one (by unfold maxLen; omega) (by omega) (fun u2 => ⟨(fun _ => wk [2, 2, 2] [] rfl rfl), ?_⟩))
    refine htfact (fun m => (m.own 0 rfl).slice) ?_
    rintro ⟨A_y2, c_y2, rfl, hc_y⟩
    refine htfact (fun m => (m.ord 0 rfl).2.1) fun hA_y => ?_
    refine htx0 (xh_st1 4 rfl rfl rfl sz32 rfl (by first | exact Nat.le_of_ble_eq_true rfl | simp) ⟨(fun h => absurd h (by decide)), ?_⟩)
    refine htend <| hsub (ρ' := [(2, _), (5, _), (0, _), (1, _)]) ⟨rfl, rfl, rfl, rfl, trivial⟩ <| hmemQ (X' := [_, _, _, _, _]) (S' := []) (fun _ m => m) <| hthen <| hreg <| hy (fun m => y_ld1 rfl ag32 (ld_blk (m.blk 3 rfl) rfl)) <| hy (fun _ => y_move rfl) <| hy (fun _ => y_slFrom rfl rfl Tryd.underlying32 sz5 rfl (by omega)) <| ?_
    refine hx0 (xh_st1 3 rfl rfl rfl sz32 rfl (by first | exact Nat.le_of_ble_eq_true rfl | simp) ?_)
    refine hend <| hsub (ρ' := [(2, _), (5, _), (0, _), (1, _)]) ⟨rfl, rfl, rfl, rfl, trivial⟩ <| hmemQ (X' := [_, _, _, _, _]) (S' := []) (fun _ m => m) <| hqblock <| ?_
    refine hmemQ (X' := ROwn 5 1 (.slice (if c1 = k then A1 else A1.map (·.add (k * 1))) (own.length - k) (c1 - k)) (own.length - k) ((b8s own).drop (k * 1)) :: _) (fun w m => (m.perm (takeR_perm [4] _ [_] _ rfl)).viewX (View.ownDrop hk1.2.2 hc1)) ?_
    have hdl : own.length - k = (own.drop k).length := by rw [List.length_drop]
    have hol : out.length + 1 + k = (out ++ (UInt8.ofNat (k - 1) :: own.take k)).length := by simp; omega
    rw [hdl, hol]
    refine hmemQ (fun w m => m.eqX 0 rfl (show _ = ROwn 5 1 (.slice (if c1 = k then A1 else A1.map (·.add (k * 1))) (own.drop k).length (c1 - k)) (own.drop k).length (b8s (own.drop k)) from congrArg (ROwn _ _ _ _) (by rw [Nat.mul_one, b8s_drop]))) ?_
    refine hmemQ (fun w m => m.eqX 3 rfl (show _ = ROwn 5 1 (.slice A_y2 (out ++ (UInt8.ofNat (k - 1) :: own.take k)).length c_y2) (out ++ (UInt8.ofNat (k - 1) :: own.take k)).length (b8s (out ++ (UInt8.ofNat (k - 1) :: own.take k))) from congrArg (ROwn _ _ _ _) (show b8s out ++ b8s [UInt8.ofNat (k - 1)] ++ b8s (own.take k) = _ by rw [← b8s_append, ← b8s_append, List.append_assoc]; rfl))) ?_
    refine hnext6 (own.drop k) (out ++ (UInt8.ofNat (k - 1) :: own.take k)) _ _ _ _ ⟨rfl, rfl, trivial⟩ [2, 1, 1, 0] rfl [] rfl (⟨by rw [← hdl, ← hol]; omega, by rw [← hE]; simp⟩) (by rw [← hdl]; omega)
  · have hne : own = [] := List.eq_nil_of_length_eq_zero (by omega)
    rw [hne, litL_nil, List.append_nil] at hE
    subst hne
    subst hE
    refine hexit <| hthen_exit <| hthen_exit <| hqblock_exit <| ?_
    exact hret0 trivial rfl [0, 0, 0, 0] rfl [] rfl ⟨_, _, _, _, rfl, rfl, rfl⟩
structure PSt where
  g : Nat
  gm : Nat
  g4 : Nat
  g5 : Nat
  i : Nat
  p : Nat
  c1 : Nat
  c2 : Nat
  A1 : Option Addr
  A2 : Option Addr
  own : List UInt8
  out : List UInt8
  es : Fes
theorem packC {A : Option Addr} {n c : Nat} {l : List UInt8} (hc : n ≤ c) (hn : n ≤ 500000000) (hl : l.length = n) : Con Tryd.prog 139 [.slice A n c] [] [RRd 1 A n (b8s l)] (fun v_ X_ S_ => ∃ v, v_ = v ∧ X_ = [ROwn 5 1 v (packL l).length (b8s (packL l))] ∧ S_ = []) := by
  refine henter (N := 56) Tryd.func139 rfl rfl (by simp) fun b => ?_
  refine hfactC (fun m => rdB (m.rd 0 rfl)) ?_
  rintro ⟨hl_r, hA_r⟩
  refine hseq <| hreg <| hy (fun _ => y_assign rfl) <| hend <| hthen <| ?_
  refine hscopeF1 (l := 0) (fun (t:PSt) => n - t.i) (fun (t:PSt) => [(7, .int .i64 (t.i : Nat)), (3, .pointer (some ⟨t.g, 0, none⟩)), (4, .pointer (some ⟨t.g4, 0, none⟩)), (5, .pointer (some ⟨t.g5, 0, none⟩)), (6, .func (.func 157) #[] #[.pointer (some ⟨t.g5, 0, none⟩), .pointer (some ⟨t.g4, 0, none⟩)])]) (fun (t:PSt) => [RFnd t.g t.gm A n c t.p t.es, RBlk t.g5 32 [.slice t.A1 t.own.length t.c1], ROwn 5 1 (.slice t.A1 t.own.length t.c1) t.own.length (b8s t.own), RBlk t.g4 32 [.slice t.A2 t.out.length t.c2], ROwn 5 1 (.slice t.A2 t.out.length t.c2) t.out.length (b8s t.out)]) (fun (t:PSt) => []) (fun (t:PSt) => t.i ≤ n ∧ t.p ≤ t.i ∧ FOk l t.p t.es ∧ t.out.length + 2 * t.own.length ≤ 2 * t.i ∧ packF l t.i t.own t.out = packL l) [(0, _)] ⟨rfl, trivial⟩ [] rfl rfl (fun t ⟨hin, hpi, hF, hlen, hE⟩ => ?_) (fun hfall_ => ?_)
  · obtain ⟨g, gm, g4, g5, i, p, c1, c2, A1, A2, own, out, es⟩ := t
    dsimp only at hin hpi hF hlen hE ⊢
    refine hseq <| hseq <| hreg <| hy (fun _ => y_move rfl) <| hy (fun _ => y_move rfl) <| hy (fun _ => y_lenS rfl Tryd.underlying32) <| hy (fun _ => y_eql rfl rfl) <| hend <| hsub (ρ' := [(16, _), (7, _), (3, _), (4, _), (5, _), (6, _), (0, _)]) ⟨rfl, rfl, rfl, rfl, rfl, rfl, rfl, trivial⟩ <| hthen <| ?_
    refine hifb rfl (fun hfin => ?_) (fun hfin => ?_)
    · have hi : i = n := by have := of_decide_eq_true hfin; omega
      rw [packF_end (by omega)] at hE
      refine hseq <| hreg <| hy (fun _ => y_move rfl) <| ?_
      refine hx (xh_callv rfl rfl Tryd.call157 (putC (by omega)) [1, 1, 1, 1] rfl [] rfl ?_)
      rintro _ _ _ ⟨A3, A4, c3, c4, rfl, rfl, rfl⟩
      rw [hE]
      refine hend <| hsub (ρ' := [(16, _), (7, _), (3, _), (4, _), (5, _), (6, _), (0, _)]) ⟨rfl, rfl, rfl, rfl, rfl, rfl, rfl, trivial⟩ <| hmemQ (X' := [_, _, _, _, _]) (S' := [_]) (fun _ m => m) <| hthen <| hseq <| hreg <| hy (fun m => y_ld1 rfl ag32 (ld_blk (m.blk 2 rfl) rfl)) <| hy (fun _ => y_assign rfl) <| hend <| hsub (ρ' := [(2, _), (16, _), (7, _), (3, _), (4, _), (5, _), (6, _), (0, _)]) ⟨rfl, rfl, rfl, rfl, rfl, rfl, rfl, rfl, trivial⟩ <| hthen <| hret <| hthen_ret <| hjump_ret <| ?_
      exact hret1 trivial rfl rfl [3] rfl [] rfl ⟨_, rfl, rfl, rfl⟩
    · have hi : i < n := by have := of_decide_eq_false hfin; omega
      refine hcskip <| hthen <| hseq <| hreg <| hy (fun _ => y_move rfl) <| hy (fun _ => y_move rfl) <| ?_
      refine hx (xh_call rfl Tryd.call158 (matchC (by omega) (by omega) hl (by omega) (by omega) hF) [0] rfl [0] rfl ?_)
      rintro _ _ _ ⟨p1, es1, rfl, rfl, rfl, hp⟩
      obtain ⟨hp1, hF1⟩ := hp
      refine hy (fun _ => y_move rfl) <| hy (fun _ => y_extract rfl rfl) <| hy (fun _ => y_extract rfl rfl) <| hy (fun _ => y_assign rfl) <| hy (fun _ => y_assign rfl) <| hend <| hsub (ρ' := [(9, _), (8, _), (16, _), (7, _), (3, _), (4, _), (5, _), (6, _), (0, _)]) ⟨rfl, rfl, rfl, rfl, rfl, rfl, rfl, rfl, rfl, trivial⟩ <| hmemQ (X' := [_, _, _, _, _]) (S' := [_]) (fun _ m => m) <| hthen <| hseq <| hseq <| hreg <| hy (fun _ => y_move rfl) <| hy (fun _ => y_eql rfl rfl) <| hend <| hsub (ρ' := [(27, _), (9, _), (8, _), (16, _), (7, _), (3, _), (4, _), (5, _), (6, _), (0, _)]) ⟨rfl, rfl, rfl, rfl, rfl, rfl, rfl, rfl, rfl, rfl, trivial⟩ <| hthen <| ?_
      refine hif rfl (fun h0 => ?_) (fun h0 => ?_)
      · rw [packF_own (by omega) (by omega)] at hE
        refine hseq <| hdrwB [0, 0, 1, 1] [0] rfl rfl [5, 6, 7] [(0, some 1), (1, some 0), (2, some 0), (3, some 0), (4, some 0), (5, none), (6, none), (7, none)] (by kernel_rfl) (by kernel_rfl) rfl 2 <| hty (fun m => y_ld1 rfl ag32 (ld_blk (m.blk 1 rfl) rfl)) <| htyU (y_move rfl) <| htyU (y_move rfl) <| htyU (y_idxS1 rfl rfl Tryd.underlying32 sz5 hA_r rfl (by omega)) <| hty (fun m => y_ld1 rfl ag5 ((m.rd 0 rfl).cell (b8s_get (by omega)))) <| ?_
        refine htx (xh_bsl Tryd.underlying32 ti5 rfl rfl rfl (by simp [Value.cells, B8]) (by decide) (by decide) (fun g33 => ⟨(fun _ => wk [1, 1, 2, 2] [0] rfl rfl), ?_⟩))
        have hA_b33 : 0 < 1 → (some (⟨g33, 0, none⟩ : Addr)) ≠ none := fun _ h => by cases h
        refine htmem (fun w m => m.eqX 0 rfl (show _ = ROwn 5 1 (.slice (some ⟨g33, 0, none⟩) 1 1) 1 (b8s [l.getD i 0]) from rfl)) ?_
        refine htx (xh_app 3 rfl rfl rfl Tryd.underlying32 Tryd.underlying32 (by exact .inl rfl) ti5 rfl (fun m => Src.of_rd (m.ord 0 rfl)) b8s_one (by unfold maxLen; omega) (by omega) (fun u => ⟨(fun _ => wk [2, 2, 2, 2] [0] rfl rfl), ?_⟩))
        refine htfact (fun m => (m.own 0 rfl).slice) ?_
        rintro ⟨A_x, c_x, rfl, hc_x⟩
        refine htfact (fun m => (m.ord 0 rfl).2.1) fun hA_x => ?_
        refine htx0 (xh_st1 3 rfl rfl rfl sz32 rfl (by first | exact Nat.le_of_ble_eq_true rfl | simp) ⟨(fun h => absurd h (by decide)), ?_⟩)
        refine htend <| hsub (ρ' := [(27, _), (9, _), (8, _), (16, _), (7, _), (3, _), (4, _), (5, _), (6, _), (0, _)]) ⟨rfl, rfl, rfl, rfl, rfl, rfl, rfl, rfl, rfl, rfl, trivial⟩ <| hmemQ (X' := [_, _, _, _, _, _]) (S' := [_]) (fun _ m => m) <| hthen <| hseq <| hreg <| hy (fun _ => y_move rfl) <| hy (fun _ => y_add rfl rfl (w64 (by omega) (by omega))) <| hy (fun _ => y_assign rfl) <| hend <| hsub (ρ' := [(7, _), (27, _), (9, _), (8, _), (16, _), (3, _), (4, _), (5, _), (6, _), (0, _)]) ⟨rfl, rfl, rfl, rfl, rfl, rfl, rfl, rfl, rfl, rfl, trivial⟩ <| hthen <| hcgoto <| hthen_goto <| ?_
        have hol : own.length + 1 = (own ++ [l.getD i 0]).length := by simp
        rw [hol]
        refine hmemQ (fun w m => m.eqX 1 rfl (show _ = ROwn 5 1 (.slice A_x (own ++ [l.getD i 0]).length c_x) (own ++ [l.getD i 0]).length (b8s (own ++ [l.getD i 0])) from congrArg (ROwn _ _ _ _) (b8s_append _ _).symm)) ?_
        exact hgoto1 (⟨g, gm, g4, g5, i + 1, p1, c_x, c2, A_x, A2, own ++ [l.getD i 0], out, es1⟩) ⟨rfl, rfl, rfl, rfl, rfl, rfl, trivial⟩ [3, 1, 0, 1, 1] rfl [0] rfl (⟨hi, Nat.le_succ_of_le hp1, hF1, by show out.length + 2 * (own ++ [l.getD i 0]).length ≤ 2 * (i + 1); rw [← hol]; omega, hE⟩) (by show n - (i + 1) < n - i; omega)
      · have hm := matchL_ok (b := l) (i := i) (by omega)
        rw [packF_match (by omega) (by omega)] at hE
        obtain ⟨m1, m2, m3, m4, m5, m6⟩ := hm.resolve_left (fun e => h0 (by rw [e]; rfl))
        refine hcskip <| hthen <| hseq <| hreg <| hy (fun _ => y_move rfl) <| ?_
        refine hx (xh_callv rfl rfl Tryd.call157 (putC (by omega)) [1, 1, 1, 1] rfl [] rfl ?_)
        rintro _ _ _ ⟨A3, A4, c3, c4, rfl, rfl, rfl⟩
        refine hend <| hsub (ρ' := [(27, _), (9, _), (8, _), (16, _), (7, _), (3, _), (4, _), (5, _), (6, _), (0, _)]) ⟨rfl, rfl, rfl, rfl, rfl, rfl, rfl, rfl, rfl, rfl, trivial⟩ <| hmemQ (X' := [_, _, _, _, _]) (S' := [_]) (fun _ m => m) <| hthen <| hseq <| hreg <| hy (fun m => y_ld1 rfl ag32 (ld_blk (m.blk 2 rfl) rfl)) <| hy (fun _ => y_move rfl) <| hy (fun _ => y_add rfl rfl (w64 (by omega) (by omega))) <| hy (fun _ => yV (y_sub rfl rfl (w64 (by omega) (by omega))) ((show Value.int .i64 (128 + ((matchL l i).1 : Int) - 4) = .int .i64 ((124 + (matchL l i).1 : Nat) : Int) by congr 1; omega))) <| hy (fun _ => yV (y_conv rfl Tryd.underlying3 Tryd.underlying5 (u8mod _)) ((show Value.int .u8 _ = B8 (UInt8.ofNat (124 + (matchL l i).1)) from rfl))) <| hy (fun _ => y_move rfl) <| hy (fun _ => yV (y_sub rfl rfl (w64 (by omega) (by omega))) ((show Value.int .i64 (((matchL l i).2 : Int) - 1) = .int .i64 (((matchL l i).2 - 1 : Nat) : Int) by congr 1; omega))) <| hy (fun _ => yV (y_conv rfl Tryd.underlying3 Tryd.underlying5 (u8mod _)) ((show Value.int .u8 _ = B8 (UInt8.ofNat ((matchL l i).2 - 1)) from rfl))) <| hy (fun _ => y_move rfl) <| hy (fun _ => yV (y_sub rfl rfl (w64 (by omega) (by omega))) ((show Value.int .i64 (((matchL l i).2 : Int) - 1) = .int .i64 (((matchL l i).2 - 1 : Nat) : Int) by congr 1; omega))) <| hy (fun _ => yV (y_shr (p := 256) rfl rfl (by decide) (by decide) (by decide)) ((show Value.int .i64 ((((matchL l i).2 - 1 : Nat) : Int) / 256) = .int .i64 ((((matchL l i).2 - 1) / 256 : Nat) : Int) by congr 1))) <| hy (fun _ => yV (y_conv rfl Tryd.underlying3 Tryd.underlying5 (u8mod _)) ((show Value.int .u8 _ = B8 (UInt8.ofNat (((matchL l i).2 - 1) / 256)) from rfl))) <| ?_
        refine hx (xh_bsl Tryd.underlying32 ti5 rfl rfl rfl (by simp [Value.cells, B8]) (by decide) (by decide) (fun g51 => ?_))
        have hA_b51 : 0 < 3 → (some (⟨g51, 0, none⟩ : Addr)) ≠ none := fun _ h => by cases h
        refine hmemL (fun w m => m.eqX 0 rfl (show _ = ROwn 5 1 (.slice (some ⟨g51, 0, none⟩) 3 3) 3 (b8s (tokM (matchL l i))) from rfl)) ?_
        have hll := litL_length own
        have hlo : (out ++ litL own).length = out.length + (litL own).length := by simp
        refine hx (xh_app 4 rfl rfl rfl Tryd.underlying32 Tryd.underlying32 (by exact .inl rfl) ti5 rfl (fun m => Src.of_rd (m.ord 0 rfl)) b8s_one (by unfold maxLen; omega) (by omega) (fun u => ?_))
        refine hfactL (fun m => (m.own 0 rfl).slice) ?_
        rintro ⟨A_y, c_y, rfl, hc_y⟩
        refine hfactL (fun m => (m.ord 0 rfl).2.1) fun hA_y => ?_
        refine hx0 (xh_st1 4 rfl rfl rfl sz32 rfl (by first | exact Nat.le_of_ble_eq_true rfl | simp) ?_)
        refine hend <| hsub (ρ' := [(27, _), (9, _), (8, _), (16, _), (7, _), (3, _), (4, _), (5, _), (6, _), (0, _)]) ⟨rfl, rfl, rfl, rfl, rfl, rfl, rfl, rfl, rfl, rfl, trivial⟩ <| hmemQ (X' := [_, _, _, _, _, _]) (S' := [_]) (fun _ m => m) <| hthen <| hseq <| hreg <| hy (fun _ => y_move rfl) <| hy (fun _ => y_move rfl) <| hy (fun _ => yV (y_add rfl rfl (w64 (by omega) (by omega))) ((show Value.int .i64 ((i : Int) + ((matchL l i).1 : Int)) = .int .i64 ((i + (matchL l i).1 : Nat) : Int) by congr 1))) <| hy (fun _ => y_assign rfl) <| hend <| hsub (ρ' := [(7, _), (27, _), (9, _), (8, _), (16, _), (3, _), (4, _), (5, _), (6, _), (0, _)]) ⟨rfl, rfl, rfl, rfl, rfl, rfl, rfl, rfl, rfl, rfl, trivial⟩ <| hthen <| hcgoto <| ?_
        have hol : (out ++ litL own).length + 3 = (out ++ litL own ++ tokM (matchL l i)).length := by simp [tokM]; omega
        rw [hol]
        refine hmemQ (fun w m => m.eqX 1 rfl (show _ = ROwn 5 1 (.slice A_y (out ++ litL own ++ tokM (matchL l i)).length c_y) (out ++ litL own ++ tokM (matchL l i)).length (b8s (out ++ litL own ++ tokM (matchL l i))) from congrArg (ROwn _ _ _ _) (b8s_append _ _).symm)) ?_
        exact hgoto1 (⟨g, gm, g4, g5, i + (matchL l i).1, p1, c3, c_y, A3, A_y, [], out ++ litL own ++ tokM (matchL l i), es1⟩) ⟨rfl, rfl, rfl, rfl, rfl, rfl, trivial⟩ [5, 3, 3, 1, 0] rfl [0] rfl (⟨by show i + (matchL l i).1 ≤ n; omega, by show p1 ≤ i + (matchL l i).1; omega, hF1, by show (out ++ litL own ++ tokM (matchL l i)).length + 2 * 0 ≤ 2 * (i + (matchL l i).1); rw [← hol]; omega, hE⟩) (by show n - (i + (matchL l i).1) < n - i; omega)
  · refine hseq <| hreg <| hy (fun _ => y_move rfl) <| ?_
    refine hx (xh_call rfl Tryd.call156 (overC) [] rfl [] rfl ?_)
    rintro _ _ _ ⟨g, gm, rfl, rfl, rfl⟩
    refine hy (fun _ => y_assign rfl) <| hend <| hsub (ρ' := [(3, _), (2, _), (0, _)]) ⟨rfl, rfl, rfl, trivial⟩ <| hmemQ (X' := [_]) (S' := [_]) (fun _ m => m) <| hthen <| hseq <| hreg <| ?_
    refine hx (xh_alloc ti32 (fun g4 => ?_))
    refine hx (xh_alloc ti32 (fun g5 => ?_))
    refine hend <| hmemQ (X' := [_, _, _]) (S' := [_]) (fun _ m => m) <| hthen <| hseq <| hreg <| hy (fun _ => y_mkf rfl rfl) <| hy (fun _ => y_assign rfl) <| hend <| hsub (ρ' := [(6, _), (5, _), (4, _), (3, _), (2, _), (0, _)]) ⟨rfl, rfl, rfl, rfl, rfl, rfl, trivial⟩ <| hthen <| hseq <| hreg <| hy (fun _ => y_assign rfl) <| hend <| hthen <| ?_
    refine hmemC (fun w m => m.eqX 1 rfl (show _ = RBlk g4 32 [.slice none 0 0] from rfl)) ?_
    refine hmemC (fun w m => m.eqX 1 rfl (show _ = RBlk g5 32 [.slice none 0 0] from rfl)) ?_
    refine hmemC (fun w m => m.addX (r' := ROwn 5 1 (.slice none 0 0) 0 []) (.refl _ _) (Own.nil _ _ _ _) (fun k hk => hk.elim)) ?_
    refine hmemC (fun w m => m.addX (r' := ROwn 5 1 (.slice none 0 0) 0 []) (.refl _ _) (Own.nil _ _ _ _) (fun k hk => hk.elim)) ?_
    exact hfallH (hfall1 (R := fun (t:PSt) => [(7, .int .i64 (t.i : Nat)), (3, .pointer (some ⟨t.g, 0, none⟩)), (4, .pointer (some ⟨t.g4, 0, none⟩)), (5, .pointer (some ⟨t.g5, 0, none⟩)), (6, .func (.func 157) #[] #[.pointer (some ⟨t.g5, 0, none⟩), .pointer (some ⟨t.g4, 0, none⟩)])]) (X1 := fun (t:PSt) => [RFnd t.g t.gm A n c t.p t.es, RBlk t.g5 32 [.slice t.A1 t.own.length t.c1], ROwn 5 1 (.slice t.A1 t.own.length t.c1) t.own.length (b8s t.own), RBlk t.g4 32 [.slice t.A2 t.out.length t.c2], ROwn 5 1 (.slice t.A2 t.out.length t.c2) t.out.length (b8s t.out)]) (S1 := fun (t:PSt) => []) (I := fun (t:PSt) => t.i ≤ n ∧ t.p ≤ t.i ∧ FOk l t.p t.es ∧ t.out.length + 2 * t.own.length ≤ 2 * t.i ∧ packF l t.i t.own t.out = packL l) (⟨g, gm, g4, g5, 0, 0, 0, 0, none, none, [], [], []⟩) ⟨rfl, rfl, rfl, rfl, rfl, rfl, trivial⟩ [4, 2, 1, 1, 0] rfl [0] rfl (⟨Nat.zero_le _, Nat.le_refl _, fok_nil _, Nat.le_refl _, rfl⟩)) hfall_
end Go.Proofs.YtfikjheicjamhaaDoor
end
section
/- Contracts: frames (layer 6): sealing, lengths. -/
set_option linter.unusedVariables false
set_option linter.unusedSimpArgs false
set_option maxRecDepth 20000
set_option maxHeartbeats 2000000
namespace Go.Proofs.YtfikjheicjamhaaDoor
open Go.Eng Go.Hx
theorem crcSumC {A : Option Addr} {n c : Nat} {l : List UInt8} (hn : n ≤ 70368744177664) : Con Tryd.prog 117 [.slice A n c] [] [RRd 1 A n (b8s l)] (fun v_ X_ S_ => v_ = (.int .u32 (crcSum l : Nat)) ∧ X_ = [] ∧ S_ = []) := by
  exact con_pure fun m => Calls.mono (crcSum_c A n c l _ (m.rd 0 rfl) (by omega)) (fun e w' ⟨h, hf⟩ => ⟨_, h, ⟨rfl, rfl, rfl⟩, hf⟩)
theorem fnumberC {k : Nat} (hk : k < 4294967296) : Con Tryd.prog 116 [.int .u32 (k : Nat)] [] [] (fun v_ X_ S_ => ∃ v, v_ = v ∧ X_ = [ROwn 5 1 v 4 (b8s (le4 k))] ∧ S_ = []) := by
  refine henter (N := 15) Tryd.func116 rfl rfl (by simp) fun b => ?_
  refine hseq <| hreg <| hy (fun _ => y_assign rfl) <| hend <| hthen <| hseq <| hreg <| hy (fun _ => y_move rfl) <| hy (fun _ => yV (y_conv rfl Tryd.underlying120 Tryd.underlying5 (u8mod _)) ((show Value.int .u8 _ = B8 (UInt8.ofNat k) from rfl))) <| hy (fun _ => y_move rfl) <| hy (fun _ => yV (y_shr (p := 256) rfl rfl (by decide) (by decide) (by decide)) ((show Value.int .u32 ((k : Int) / 256) = .int .u32 ((k / 256 : Nat) : Int) by congr 1))) <| hy (fun _ => yV (y_conv rfl Tryd.underlying120 Tryd.underlying5 (u8mod _)) ((show Value.int .u8 _ = B8 (UInt8.ofNat (k / 256)) from rfl))) <| hy (fun _ => y_move rfl) <| hy (fun _ => yV (y_shr (p := 65536) rfl rfl (by decide) (by decide) (by decide)) ((show Value.int .u32 ((k : Int) / 65536) = .int .u32 ((k / 65536 : Nat) : Int) by congr 1))) <| hy (fun _ => yV (y_conv rfl Tryd.underlying120 Tryd.underlying5 (u8mod _)) ((show Value.int .u8 _ = B8 (UInt8.ofNat (k / 65536)) from rfl))) <| hy (fun _ => y_move rfl) <| hy (fun _ => yV (y_shr (p := 16777216) rfl rfl (by decide) (by decide) (by decide)) ((show Value.int .u32 ((k : Int) / 16777216) = .int .u32 ((k / 16777216 : Nat) : Int) by congr 1))) <| hy (fun _ => yV (y_conv rfl Tryd.underlying120 Tryd.underlying5 (u8mod _)) ((show Value.int .u8 _ = B8 (UInt8.ofNat (k / 16777216)) from rfl))) <| ?_
  refine hx (xh_bsl Tryd.underlying32 ti5 rfl rfl rfl (by simp [Value.cells, B8]) (by decide) (by decide) (fun g14 => ?_))
  have hA_b14 : 0 < 4 → (some (⟨g14, 0, none⟩ : Addr)) ≠ none := fun _ h => by cases h
  refine hy (fun _ => y_assign rfl) <| hend <| hsub (ρ' := [(2, _), (0, _)]) ⟨rfl, rfl, trivial⟩ <| hmemQ (X' := [_]) (S' := []) (fun _ m => m) <| hthen <| hret <| ?_
  refine hmemQ (fun w m => m.eqX 0 rfl (show _ = ROwn 5 1 (.slice (some ⟨g14, 0, none⟩) 4 4) 4 (b8s (le4 k)) from rfl)) ?_
  exact hret1 trivial rfl rfl [0] rfl [] rfl ⟨_, rfl, rfl, rfl⟩
theorem sealC {A : Option Addr} {n c : Nat} {l : List UInt8} (hc : n ≤ c) (hn : n ≤ 100000000) (hl : l.length = n) : Con Tryd.prog 95 [.slice A n c] [] [RRd 1 A n (b8s l)] (fun v_ X_ S_ => ∃ v, v_ = v ∧ X_ = [ROwn 5 1 v (sealL l).length (b8s (sealL l))] ∧ S_ = []) := by
  have hpl := packL_length l
  have hlt : n < 4294967296 := by omega
  have hcl := crcSum_lt l
  refine henter (N := 31) Tryd.func95 rfl rfl (by simp) fun b => ?_
  refine hfactC (fun m => rdB (m.rd 0 rfl)) ?_
  rintro ⟨hl_r, hA_r⟩
  refine hseq <| hreg <| hy (fun _ => y_assign rfl) <| hend <| hthen <| hseq <| hreg <| hy (fun _ => y_move rfl) <| hy (fun _ => y_assign rfl) <| hy (fun _ => y_assign rfl) <| hend <| hsub (ρ' := [(4, _), (3, _), (2, _), (0, _)]) ⟨rfl, rfl, rfl, rfl, trivial⟩ <| hthen <| hseq <| hseq <| hreg <| hy (fun _ => y_move rfl) <| ?_
  refine hx (xh_call rfl Tryd.call139 (packC (by omega) (by omega) (by omega)) [] rfl [0] rfl ?_)
  rintro _ _ _ ⟨v, rfl, rfl, rfl⟩
  refine hfactL (fun m => (m.own 0 rfl).slice) ?_
  rintro ⟨A_y, c_y, rfl, hc_y⟩
  refine hfactL (fun m => (m.ord 0 rfl).2.1) fun hA_y => ?_
  refine hy (fun _ => y_assign rfl) <| hend <| hsub (ρ' := [(5, _), (4, _), (3, _), (2, _), (0, _)]) ⟨rfl, rfl, rfl, rfl, rfl, trivial⟩ <| hmemQ (X' := [_]) (S' := [_]) (fun _ m => m) <| hthen <| hseq <| hreg <| hy (fun _ => y_move rfl) <| hy (fun _ => y_lenS rfl Tryd.underlying32) <| hy (fun _ => y_move rfl) <| hy (fun _ => y_lenS rfl Tryd.underlying32) <| hy (fun _ => y_lss rfl rfl) <| hend <| hsub (ρ' := [(14, _), (5, _), (4, _), (3, _), (2, _), (0, _)]) ⟨rfl, rfl, rfl, rfl, rfl, rfl, trivial⟩ <| hthen <| ?_
  refine hif rfl (fun hp => ?_) (fun hp => ?_)
  · have hq : sealL l = [76, 1] ++ le4 l.length ++ packL l ++ le4 (crcSum l) := by
      have : pkd l = true := by unfold pkd; exact decide_eq_true (by omega)
      unfold sealL fbody
      rw [this]; rfl
    refine hreg <| hy (fun _ => y_move rfl) <| hy (fun _ => y_assign rfl) <| hy (fun _ => y_assign rfl) <| hend <| hsub (ρ' := [(4, _), (3, _), (14, _), (5, _), (2, _), (0, _)]) ⟨rfl, rfl, rfl, rfl, rfl, rfl, trivial⟩ <| hthen <| hseq <| hreg <| hy (fun _ => y_move rfl) <| ?_
    refine hx (xh_bsl Tryd.underlying32 ti5 rfl rfl rfl (by simp [Value.cells, B8]) (by decide) (by decide) (fun g17 => ?_))
    have hA_b17 : 0 < 2 → (some (⟨g17, 0, none⟩ : Addr)) ≠ none := fun _ h => by cases h
    refine hy (fun _ => y_move rfl) <| hy (fun _ => y_lenS rfl Tryd.underlying32) <| hy (fun _ => y_conv rfl Tryd.underlying3 Tryd.underlying120 (w32 (by omega) (by omega))) <| ?_
    refine hx (xh_call rfl Tryd.call116 (fnumberC (by omega)) [] rfl [] rfl ?_)
    rintro _ _ _ ⟨v2, rfl, rfl, rfl⟩
    refine hfactL (fun m => (m.own 0 rfl).slice) ?_
    rintro ⟨A_x, c_x, rfl, hc_x⟩
    refine hfactL (fun m => (m.ord 0 rfl).2.1) fun hA_x => ?_
    refine hmemL (fun w m => m.eqX 1 rfl (show _ = ROwn 5 1 (.slice (some ⟨g17, 0, none⟩) 2 2) 2 (b8s [76, 1]) from rfl)) ?_
    refine hx (xh_app 0 rfl rfl rfl Tryd.underlying32 Tryd.underlying32 (by exact .inl rfl) ti5 rfl (fun m => Src.of_rd (m.ord 1 rfl)) b8s_one (by unfold maxLen; omega) (by omega) (fun u => ?_))
    refine hfactL (fun m => (m.own 0 rfl).slice) ?_
    rintro ⟨A_b17, c_b17, rfl, hc_b17⟩
    refine hfactL (fun m => (m.ord 0 rfl).2.1) fun hA_b17 => ?_
    refine hy (fun _ => y_assign rfl) <| hend <| hsub (ρ' := [(6, _), (4, _), (3, _), (14, _), (5, _), (2, _), (0, _)]) ⟨rfl, rfl, rfl, rfl, rfl, rfl, rfl, trivial⟩ <| hmemQ (X' := [_, _, _]) (S' := [_]) (fun _ m => m) <| hthen <| hseq <| hreg <| hy (fun _ => y_move rfl) <| hy (fun _ => y_move rfl) <| ?_
    refine hx (xh_app 0 rfl rfl rfl Tryd.underlying32 Tryd.underlying32 (by exact .inl rfl) ti5 rfl (fun m => Src.of_rd (m.ord 2 rfl)) b8s_one (by unfold maxLen; omega) (by omega) (fun u2 => ?_))
    refine hfactL (fun m => (m.own 0 rfl).slice) ?_
    rintro ⟨A_b172, c_b172, rfl, hc_b17⟩
    refine hfactL (fun m => (m.ord 0 rfl).2.1) fun hA_b17 => ?_
    refine hy (fun _ => y_assign rfl) <| hend <| hsub (ρ' := [(6, _), (4, _), (3, _), (14, _), (5, _), (2, _), (0, _)]) ⟨rfl, rfl, rfl, rfl, rfl, rfl, rfl, trivial⟩ <| hmemQ (X' := [_, _, _]) (S' := [_]) (fun _ m => m) <| hthen <| hseq <| hreg <| hy (fun _ => y_move rfl) <| hy (fun _ => y_move rfl) <| ?_
    refine hx (xh_call rfl Tryd.call117 (crcSumC (by omega)) [] rfl [0] rfl ?_)
    rintro _ _ _ ⟨rfl, rfl, rfl⟩
    refine hx (xh_call rfl Tryd.call116 (fnumberC (by omega)) [] rfl [] rfl ?_)
    rintro _ _ _ ⟨v3, rfl, rfl, rfl⟩
    refine hfactL (fun m => (m.own 0 rfl).slice) ?_
    rintro ⟨A_x2, c_x2, rfl, hc_x2⟩
    refine hfactL (fun m => (m.ord 0 rfl).2.1) fun hA_x2 => ?_
    refine hx (xh_app 1 rfl rfl rfl Tryd.underlying32 Tryd.underlying32 (by exact .inl rfl) ti5 rfl (fun m => Src.of_rd (m.ord 0 rfl)) b8s_one (by unfold maxLen; omega) (by omega) (fun u3 => ?_))
    refine hfactL (fun m => (m.own 0 rfl).slice) ?_
    rintro ⟨A_b173, c_b173, rfl, hc_b17⟩
    refine hfactL (fun m => (m.ord 0 rfl).2.1) fun hA_b17 => ?_
    refine hy (fun _ => y_assign rfl) <| hend <| hsub (ρ' := [(2, _), (6, _), (4, _), (3, _), (14, _), (5, _), (0, _)]) ⟨rfl, rfl, rfl, rfl, rfl, rfl, rfl, trivial⟩ <| hmemQ (X' := [_, _, _, _]) (S' := [_]) (fun _ m => m) <| hthen <| hret <| ?_
    have hol : 2 + 4 + (packL l).length + 4 = (sealL l).length := by rw [hq]; simp [le4_length, hl]; try omega
    rw [hol]
    have hsl : b8s [76, 1] ++ b8s (le4 n) ++ b8s (packL l) ++ b8s (le4 (crcSum l)) = b8s (sealL l) := by rw [hq, hl, b8s_append, b8s_append, b8s_append]
    rw [hsl]
    exact hret1 trivial rfl rfl [0] rfl [] rfl ⟨_, rfl, rfl, rfl⟩
  · have hq : sealL l = [76, 0] ++ le4 l.length ++ l ++ le4 (crcSum l) := by
      have : pkd l = false := by unfold pkd; exact decide_eq_false (by omega)
      unfold sealL fbody
      rw [this]; rfl
    refine hcskip <| hthen <| hseq <| hreg <| hy (fun _ => y_move rfl) <| ?_
    refine hx (xh_bsl Tryd.underlying32 ti5 rfl rfl rfl (by simp [Value.cells, B8]) (by decide) (by decide) (fun g17 => ?_))
    have hA_b17 : 0 < 2 → (some (⟨g17, 0, none⟩ : Addr)) ≠ none := fun _ h => by cases h
    refine hy (fun _ => y_move rfl) <| hy (fun _ => y_lenS rfl Tryd.underlying32) <| hy (fun _ => y_conv rfl Tryd.underlying3 Tryd.underlying120 (w32 (by omega) (by omega))) <| ?_
    refine hx (xh_call rfl Tryd.call116 (fnumberC (by omega)) [] rfl [] rfl ?_)
    rintro _ _ _ ⟨v2, rfl, rfl, rfl⟩
    refine hfactL (fun m => (m.own 0 rfl).slice) ?_
    rintro ⟨A_x, c_x, rfl, hc_x⟩
    refine hfactL (fun m => (m.ord 0 rfl).2.1) fun hA_x => ?_
    refine hmemL (fun w m => m.eqX 1 rfl (show _ = ROwn 5 1 (.slice (some ⟨g17, 0, none⟩) 2 2) 2 (b8s [76, 0]) from rfl)) ?_
    refine hx (xh_app 0 rfl rfl rfl Tryd.underlying32 Tryd.underlying32 (by exact .inl rfl) ti5 rfl (fun m => Src.of_rd (m.ord 1 rfl)) b8s_one (by unfold maxLen; omega) (by omega) (fun u => ?_))
    refine hfactL (fun m => (m.own 0 rfl).slice) ?_
    rintro ⟨A_b17, c_b17, rfl, hc_b17⟩
    refine hfactL (fun m => (m.ord 0 rfl).2.1) fun hA_b17 => ?_
    refine hy (fun _ => y_assign rfl) <| hend <| hsub (ρ' := [(6, _), (14, _), (5, _), (4, _), (3, _), (2, _), (0, _)]) ⟨rfl, rfl, rfl, rfl, rfl, rfl, rfl, trivial⟩ <| hmemQ (X' := [_, _, _]) (S' := [_]) (fun _ m => m) <| hthen <| hseq <| hreg <| hy (fun _ => y_move rfl) <| hy (fun _ => y_move rfl) <| ?_
    refine hx (xh_app 0 rfl rfl rfl Tryd.underlying32 Tryd.underlying32 (by exact .inl rfl) ti5 rfl (fun m => Src.of_rd (m.rd 0 rfl)) b8s_one (by unfold maxLen; omega) (by omega) (fun u2 => ?_))
    refine hfactL (fun m => (m.own 0 rfl).slice) ?_
    rintro ⟨A_b172, c_b172, rfl, hc_b17⟩
    refine hfactL (fun m => (m.ord 0 rfl).2.1) fun hA_b17 => ?_
    refine hy (fun _ => y_assign rfl) <| hend <| hsub (ρ' := [(6, _), (14, _), (5, _), (4, _), (3, _), (2, _), (0, _)]) ⟨rfl, rfl, rfl, rfl, rfl, rfl, rfl, trivial⟩ <| hmemQ (X' := [_, _, _]) (S' := [_]) (fun _ m => m) <| hthen <| hseq <| hreg <| hy (fun _ => y_move rfl) <| hy (fun _ => y_move rfl) <| ?_
    refine hx (xh_call rfl Tryd.call117 (crcSumC (by omega)) [] rfl [0] rfl ?_)
    rintro _ _ _ ⟨rfl, rfl, rfl⟩
    refine hx (xh_call rfl Tryd.call116 (fnumberC (by omega)) [] rfl [] rfl ?_)
    rintro _ _ _ ⟨v3, rfl, rfl, rfl⟩
    refine hfactL (fun m => (m.own 0 rfl).slice) ?_
    rintro ⟨A_x2, c_x2, rfl, hc_x2⟩
    refine hfactL (fun m => (m.ord 0 rfl).2.1) fun hA_x2 => ?_
    refine hx (xh_app 1 rfl rfl rfl Tryd.underlying32 Tryd.underlying32 (by exact .inl rfl) ti5 rfl (fun m => Src.of_rd (m.ord 0 rfl)) b8s_one (by unfold maxLen; omega) (by omega) (fun u3 => ?_))
    refine hfactL (fun m => (m.own 0 rfl).slice) ?_
    rintro ⟨A_b173, c_b173, rfl, hc_b17⟩
    refine hfactL (fun m => (m.ord 0 rfl).2.1) fun hA_b17 => ?_
    refine hy (fun _ => y_assign rfl) <| hend <| hsub (ρ' := [(2, _), (6, _), (14, _), (5, _), (4, _), (3, _), (0, _)]) ⟨rfl, rfl, rfl, rfl, rfl, rfl, rfl, trivial⟩ <| hmemQ (X' := [_, _, _, _]) (S' := [_]) (fun _ m => m) <| hthen <| hret <| ?_
    have hol : 2 + 4 + n + 4 = (sealL l).length := by rw [hq]; simp [le4_length, hl]; try omega
    rw [hol]
    have hsl : b8s [76, 0] ++ b8s (le4 n) ++ b8s l ++ b8s (le4 (crcSum l)) = b8s (sealL l) := by rw [hq, hl, b8s_append, b8s_append, b8s_append]
    rw [hsl]
    exact hret1 trivial rfl rfl [0] rfl [] rfl ⟨_, rfl, rfl, rfl⟩
theorem lenF_none {f : List UInt8} (h : f.length < 10 ∨ f.getD 0 0 ≠ 76 ∨ 1 < (f.getD 1 0).toNat) : lenF f = none := by unfold lenF; rw [if_pos h]
theorem lenF_some {f : List UInt8} (h : ¬ (f.length < 10 ∨ f.getD 0 0 ≠ 76 ∨ 1 < (f.getD 1 0).toNat)) : lenF f = some (num4 (f.drop 2)) := by unfold lenF; rw [if_neg h]
theorem lengthC {A : Option Addr} {n c : Nat} {f : List UInt8} (hc : n ≤ c) (hn : n ≤ 1000000000) (hl : f.length = n) : Con Tryd.prog 111 [.slice A n c] [] [RRd 1 A n (b8s f)] (fun v_ X_ S_ => v_ = (.tuple #[.int .i64 (((lenF f).getD 0 : Nat) : Int), .int .i64 (if (lenF f).isSome then 0 else 2)]) ∧ X_ = [] ∧ S_ = []) := by
  have b0 := (f.getD 0 0).toNat_lt
  have b1 := (f.getD 1 0).toNat_lt
  refine henter (N := 34) Tryd.func111 rfl rfl (by simp) fun b => ?_
  refine hfactC (fun m => rdB (m.rd 0 rfl)) ?_
  rintro ⟨hl_r, hA_r⟩
  refine hseq <| hreg <| hy (fun _ => y_assign rfl) <| hy (fun _ => y_assign rfl) <| hend <| hthen <| hseq <| hseq <| hreg <| hy (fun _ => y_move rfl) <| hy (fun _ => y_lenS rfl Tryd.underlying32) <| hy (fun _ => y_lss rfl rfl) <| hy (fun _ => y_move rfl) <| ?_
  refine hsplit 9 rfl (fun h1 => ?_) (fun h1 => ?_)
  · refine hskip rfl rfl rfl (by decide) <| hskip rfl rfl rfl (by decide) <| hskip rfl rfl rfl (by decide) <| hskip rfl rfl rfl (by decide) <| hy (fun _ => y_pickT rfl rfl) <| hy (fun _ => y_move rfl) <| ?_
    rw [lenF_none (.inl (by omega))]
    refine hskip rfl rfl rfl (by decide) <| hskip rfl rfl rfl (by decide) <| hskip rfl rfl rfl (by decide) <| hskip rfl rfl rfl (by decide) <| hy (fun _ => y_pickT rfl rfl) <| hend <| hsub (ρ' := [(20, _), (3, _), (2, _), (0, _)]) ⟨rfl, rfl, rfl, rfl, trivial⟩ <| hthen <| ?_
    refine hift rfl (rfl) ?_
    refine hseq <| hreg <| hy (fun _ => y_assign rfl) <| hy (fun _ => y_assign rfl) <| hend <| hthen <| hret <| hthen_ret <| ?_
    exact hret2 trivial rfl rfl rfl [] rfl [] rfl ⟨rfl, rfl, rfl⟩
  · refine hyg (o := _) rfl rfl rfl (fun _ => y_move rfl) <| hyg (o := _) rfl rfl rfl (fun _ => y_idxS1 rfl rfl Tryd.underlying32 sz5 hA_r (show ((0 : Nat) : Int) = 0 from rfl) (by omega)) <| hyg (o := _) rfl rfl rfl (fun m => y_ld1 rfl ag5 ((m.rd 0 rfl).cell (b8s_get (by omega)))) <| hyg (o := _) rfl rfl rfl (fun _ => y_neq rfl rfl) <| hy (fun _ => y_pickF rfl rfl) <| hy (fun _ => y_move rfl) <| ?_
    refine hsplit 15 rfl (fun h2 => ?_) (fun h2 => ?_)
    · rw [lenF_none (.inr (.inl (fun e => h2 (by rw [e]; rfl))))]
      refine hskip rfl rfl rfl (by decide) <| hskip rfl rfl rfl (by decide) <| hskip rfl rfl rfl (by decide) <| hskip rfl rfl rfl (by decide) <| hy (fun _ => y_pickT rfl rfl) <| hend <| hsub (ρ' := [(20, _), (3, _), (2, _), (0, _)]) ⟨rfl, rfl, rfl, rfl, trivial⟩ <| hthen <| ?_
      refine hift rfl (rfl) ?_
      refine hseq <| hreg <| hy (fun _ => y_assign rfl) <| hy (fun _ => y_assign rfl) <| hend <| hthen <| hret <| hthen_ret <| ?_
      exact hret2 trivial rfl rfl rfl [] rfl [] rfl ⟨rfl, rfl, rfl⟩
    · refine hyg (o := _) rfl rfl rfl (fun _ => y_move rfl) <| hyg (o := _) rfl rfl rfl (fun _ => y_idxS1 rfl rfl Tryd.underlying32 sz5 hA_r (show ((1 : Nat) : Int) = 1 from rfl) (by omega)) <| hyg (o := _) rfl rfl rfl (fun m => y_ld1 rfl ag5 ((m.rd 0 rfl).cell (b8s_get (by omega)))) <| hyg (o := _) rfl rfl rfl (fun _ => y_gtr rfl rfl) <| hy (fun _ => y_pickF rfl rfl) <| hend <| hsub (ρ' := [(20, _), (3, _), (2, _), (0, _)]) ⟨rfl, rfl, rfl, rfl, trivial⟩ <| hthen <| ?_
      refine hif rfl (fun h3 => ?_) (fun h3 => ?_)
      · rw [lenF_none (.inr (.inr (by omega)))]
        refine hseq <| hreg <| hy (fun _ => y_assign rfl) <| hy (fun _ => y_assign rfl) <| hend <| hthen <| hret <| hthen_ret <| ?_
        exact hret2 trivial rfl rfl rfl [] rfl [] rfl ⟨rfl, rfl, rfl⟩
      · have h2' : f.getD 0 0 = 76 := UInt8.toNat_inj.1 (by have := Decidable.not_not.1 h2; show _ = 76; omega)
        rw [lenF_some (by rintro (q | q | q); omega; exact q h2'; omega)]
        refine hcskip <| hthen <| hseq <| hreg <| hy (fun _ => y_assign rfl) <| hend <| hthen <| hseq <| hseq <| hreg <| hy (fun _ => y_assign rfl) <| hend <| hthen <| hblock <| ?_
        refine hloop1 (fun j => 4 - j) (fun j => [(4, .int .i64 ((acc ((f.drop 2).take 4) j : Nat) : Int)), (5, .int .i64 (5 - (j : Int)))]) (fun j => []) (fun j => []) (fun j => j ≤ 4) 0 [(20, _), (3, _), (2, _), (0, _)] ⟨rfl, rfl, rfl, rfl, trivial⟩ [] rfl [] rfl (Nat.zero_le _) ⟨rfl, rfl, trivial⟩ (fun j hI => ?_)
        refine hseq <| hseq <| hreg <| hy (fun _ => y_move rfl) <| hy (fun _ => y_gtr rfl rfl) <| hend <| hsub (ρ' := [(22, _), (4, _), (5, _), (20, _), (3, _), (2, _), (0, _)]) ⟨rfl, rfl, rfl, rfl, rfl, rfl, rfl, trivial⟩ <| hthen <| ?_
        refine hif rfl (fun hj => ?_) (fun hj => ?_)
        · have hl4 : ((f.drop 2).take 4).length = 4 := by rw [List.length_take, List.length_drop]; omega
          have hac := acc_le ((f.drop 2).take 4) (show j ≤ 4 by omega)
          have hby : (((f.drop 2).take 4).getD (3 - j) 0).toNat < 256 := UInt8.toNat_lt _
          have hget : f.getD (5 - j) 0 = ((f.drop 2).take 4).getD (3 - j) 0 := by
            simp only [List.getD, List.getElem?_take, List.getElem?_drop]
            rw [if_pos (by omega), show 2 + (3 - j) = 5 - j by omega]
          refine hcskip <| hthen <| hseq <| hblock <| hreg <| hy (fun _ => y_move rfl) <| hy (fun _ => y_shl (p := 256) rfl rfl (by decide) (by decide) (by decide) (w64 (by omega) (by omega))) <| hy (fun _ => y_move rfl) <| hy (fun _ => y_move rfl) <| hy (fun _ => y_idxS1 rfl rfl Tryd.underlying32 sz5 hA_r (show ((5 - j : Nat) : Int) = _ by omega) (by omega)) <| hy (fun m => yV (y_ld1 rfl ag5 ((m.rd 0 rfl).cell (b8s_get (by omega)))) ((show B8 (f.getD (5 - j) 0) = B8 (((f.drop 2).take 4).getD (3 - j) 0) by rw [hget]))) <| hy (fun _ => y_conv rfl Tryd.underlying5 Tryd.underlying3 (wb8 _)) <| hy (fun _ => y_bits (by simp) rfl rfl (or_byte _ _ hac hby)) <| hy (fun _ => y_assign rfl) <| hend <| hsub (ρ' := [(4, _), (22, _), (5, _), (20, _), (3, _), (2, _), (0, _)]) ⟨rfl, rfl, rfl, rfl, rfl, rfl, rfl, trivial⟩ <| hqblock <| hthen <| hreg <| hy (fun _ => y_move rfl) <| hy (fun _ => yV (y_sub rfl rfl (w64 (by omega) (by omega))) ((show Value.int .i64 ((5 - (j : Int)) - 1) = .int .i64 (5 - ((j + 1 : Nat) : Int)) by congr 1; omega))) <| hy (fun _ => y_assign rfl) <| hend <| hsub (ρ' := [(5, _), (4, _), (22, _), (20, _), (3, _), (2, _), (0, _)]) ⟨rfl, rfl, rfl, rfl, rfl, rfl, rfl, trivial⟩ <| ?_
          refine hnext1 (j + 1) ⟨rfl, rfl, rfl, rfl, rfl, rfl, trivial⟩ [] rfl [0] rfl (by omega) (by omega)
        · obtain rfl : j = 4 := by omega
          have e4 : acc ((f.drop 2).take 4) 4 = num4 (f.drop 2) := by
            rw [acc4]
            have hx : ∀ q : Nat, q < 4 → ((f.drop 2).take 4).getD q 0 = (f.drop 2).getD q 0 := fun q hq => by simp only [List.getD, List.getElem?_take, if_pos hq]
            unfold num4
            rw [hx 0 (by decide), hx 1 (by decide), hx 2 (by decide), hx 3 (by decide)]
          rw [e4]
          refine hexit <| hthen_exit <| hthen_exit <| hqblock_exit <| hthen <| hseq <| hreg <| hy (fun _ => y_move rfl) <| hy (fun _ => y_assign rfl) <| hy (fun _ => y_assign rfl) <| hend <| hsub (ρ' := [(3, _), (2, _), (22, _), (4, _), (5, _), (20, _), (0, _)]) ⟨rfl, rfl, rfl, rfl, rfl, rfl, rfl, trivial⟩ <| hthen <| hret <| ?_
          exact hret2 trivial rfl rfl rfl [] rfl [] rfl ⟨rfl, rfl, rfl⟩
theorem packedC {A : Option Addr} {n c : Nat} {f : List UInt8} (hc : n ≤ c) (hn : n ≤ 1000000000) (hl : f.length = n) : Con Tryd.prog 113 [.slice A n c] [] [RRd 1 A n (b8s f)] (fun v_ X_ S_ => v_ = (.bool (decide ((lenF f).isSome ∧ f.getD 1 0 = 1))) ∧ X_ = [] ∧ S_ = []) := by
  refine henter (N := 18) Tryd.func113 rfl rfl (by simp) fun b => ?_
  refine hfactC (fun m => rdB (m.rd 0 rfl)) ?_
  rintro ⟨hl_r, hA_r⟩
  refine hseq <| hreg <| hy (fun _ => y_assign rfl) <| hend <| hthen <| hseq <| hreg <| hy (fun _ => y_move rfl) <| ?_
  refine hx (xh_call rfl Tryd.call111 (lengthC (by omega) (by omega) (by omega)) [] rfl [0] rfl ?_)
  rintro _ _ _ ⟨rfl, rfl, rfl⟩
  refine hy (fun _ => y_move rfl) <| hy (fun _ => y_extract rfl rfl) <| hy (fun _ => y_extract rfl rfl) <| hy (fun _ => y_assign rfl) <| hy (fun _ => y_assign rfl) <| hend <| hsub (ρ' := [(4, _), (2, _), (0, _)]) ⟨rfl, rfl, rfl, trivial⟩ <| hmemQ (X' := []) (S' := [_]) (fun _ m => m) <| hthen <| hseq <| hreg <| hy (fun _ => y_move rfl) <| hy (fun _ => y_eql rfl rfl) <| hy (fun _ => y_move rfl) <| ?_
  refine hsplit 12 rfl (fun hs => ?_) (fun hs => ?_)
  · have hs1 : (lenF f).isSome = true := by
      cases h : (lenF f).isSome with
      | true => rfl
      | false => rw [h] at hs; exact absurd hs (by decide)
    have hn10 : ¬ n < 10 := fun h => by rw [lenF_none (.inl (by omega))] at hs1; cases hs1
    have hd : decide ((lenF f).isSome ∧ f.getD 1 0 = 1) = decide (((f.getD 1 0).toNat : Int) = 1) := decide_eq_decide.2 ⟨fun h => by rw [h.2]; rfl, fun h => ⟨hs1, UInt8.toNat_inj.1 (by show _ = 1; omega)⟩⟩
    rw [hd]
    refine hyg (o := _) rfl rfl rfl (fun _ => y_move rfl) <| hyg (o := _) rfl rfl rfl (fun _ => y_idxS1 rfl rfl Tryd.underlying32 sz5 hA_r (show ((1 : Nat) : Int) = 1 from rfl) (by omega)) <| hyg (o := _) rfl rfl rfl (fun m => y_ld1 rfl ag5 ((m.rd 0 rfl).cell (b8s_get (by omega)))) <| hyg (o := _) rfl rfl rfl (fun _ => y_eql rfl rfl) <| hy (fun _ => y_pickT rfl rfl) <| hy (fun _ => y_assign rfl) <| hend <| hsub (ρ' := [(2, _), (4, _), (0, _)]) ⟨rfl, rfl, rfl, trivial⟩ <| hthen <| hret <| ?_
    exact hret1 trivial rfl rfl [] rfl [] rfl ⟨rfl, rfl, rfl⟩
  · have hd : decide ((lenF f).isSome ∧ f.getD 1 0 = 1) = false := decide_eq_false fun h => hs (by rw [h.1]; rfl)
    rw [hd]
    refine hskip rfl rfl rfl (by decide) <| hskip rfl rfl rfl (by decide) <| hskip rfl rfl rfl (by decide) <| hskip rfl rfl rfl (by decide) <| hy (fun _ => y_pickF rfl rfl) <| hy (fun _ => y_assign rfl) <| hend <| hsub (ρ' := [(2, _), (4, _), (0, _)]) ⟨rfl, rfl, rfl, trivial⟩ <| hthen <| hret <| ?_
    exact hret1 trivial rfl rfl [] rfl [] rfl ⟨rfl, rfl, rfl⟩
end Go.Proofs.YtfikjheicjamhaaDoor
end
section
/- Contracts: frames (layer 6): what gives a frame up, and what recovers it. -/
set_option linter.unusedVariables false
set_option linter.unusedSimpArgs false
set_option maxRecDepth 20000
set_option maxHeartbeats 2000000
namespace Go.Proofs.YtfikjheicjamhaaDoor
open Go.Eng Go.Hx
theorem one1 {v : Value} (h : v.oneCell' = true := by rfl) : ∀ u ∈ [v], u.oneCell' = true := fun u hu => by rw [List.mem_singleton.1 hu]; exact h
theorem mustE {q : Bool} {e : Int} : ConE Tryd.prog 112 [.bool q, .int .i64 e] [] [] (fun v_ X_ S_ => v_ = (.tuple #[]) ∧ X_ = [] ∧ S_ = [] ∧ (q = true)) (fun v_ X_ S_ => v_ = (.iface 177 (.agg #[.int .i64 e])) ∧ X_ = [] ∧ S_ = [] ∧ (q = false)) := by
  refine henterE (N := 9) Tryd.func112 rfl rfl (by simp) fun b => ?_
  refine hseq <| hreg <| hy (fun _ => y_move rfl) <| hy (fun _ => (y_not rfl)) <| hend <| hsub (ρ' := [(5, _), (0, _), (1, _)]) ⟨rfl, rfl, rfl, trivial⟩ <| hthen <| ?_
  refine hifb rfl (fun hq => ?_) (fun hq => ?_)
  · refine hreg <| hy (fun _ => y_move rfl) <| hy (fun _ => y_build ti177 rfl rfl (by kernel_rfl) (.cons (o := 0) (sz := 1) (by kernel_rfl) rfl rfl (Nat.le_of_ble_eq_true rfl) .nil)) <| hy (fun _ => y_mki rfl Tryd.underlying177 (fun _ h => by cases h)) <| ?_
    refine hx0 (xh_panic rfl ?_)
    exact hpanE [] rfl [] rfl ⟨rfl, rfl, rfl, (by simpa using hq)⟩
  · refine hcskip <| ?_
    refine hretE ?_
    exact hret0 trivial rfl [] rfl [] rfl ⟨rfl, rfl, rfl, (by simpa using hq)⟩
theorem openCatch {g4 g5 : Nat} {v : Value} {e0 e : Int} : ConD Tryd.prog 110 [.pointer (some ⟨g4, 0, none⟩), .pointer (some ⟨g5, 0, none⟩)] (.panicking (pan (.iface 177 (.agg #[.int .i64 e])))) [RBlk g4 32 [v], RBlk g5 33 [.int .i64 e0]] [] (fun u_ X_ S_ => u_ = .returning ∧ X_ = [RBlk g4 32 [.slice none 0 0], RBlk g5 33 [.int .i64 e]] ∧ S_ = []) := by
  refine henterS (N := 12) Tryd.func110 rfl rfl (by simp) fun b c_0 cs_ hu_ => ?_
  show HSL _ _ _ _ _ [0, 1, 2, 3, 4, 5, 6, 7] _ _ _ _ _
  refine hsl_rec rfl hu_ ?_
  refine hsl_y rfl (fun _ => y_tas rfl (run_tasS Tryd.underlying177)) <| hsl_y rfl (fun _ => y_move rfl) <| hsl_y rfl (fun _ => y_extract rfl rfl) <| hsl_y rfl (fun _ => y_extract rfl rfl) <| ?_
  refine hsl_x rfl (xh_alloc ti177 (fun g2 => ?_))
  refine hsl_x0 rfl (xh_stA 0 rfl rfl rfl sz177 rfl one1 rfl ?_)
  refine hslmem (fun w m => m.eqX 0 rfl (show _ = RBlk g2 177 [.int .i64 e] from rfl)) ?_
  refine hsl_y rfl (fun _ => y_assign rfl) <| hsl_done <| hmemC (X' := [_, _, _]) (S' := []) (fun _ m => m) <| hseq <| hreg <| hy (fun _ => y_move rfl) <| hend <| hsub (ρ' := [(9, _), (3, _), (2, _), (0, _), (1, _)]) ⟨rfl, rfl, rfl, rfl, rfl, trivial⟩ <| hthen <| ?_
  refine hift rfl (rfl) ?_
  refine hdrwB [0] [] rfl rfl [2, 3] [(0, some 1), (1, some 1), (2, none), (3, none)] (by kernel_rfl) (by kernel_rfl) rfl 99 <| htyU (y_fld rfl fa177_0 (by decide)) <| hty (fun m => y_ld1 rfl ag33 (ld_blk (m.blk 0 rfl) (i := 0) rfl)) <| ?_
  refine htx0 (xh_st1 1 rfl rfl rfl sz32 rfl (by first | exact Nat.le_of_ble_eq_true rfl | simp) ⟨(fun _ => wk [1] [] rfl rfl), ?_⟩)
  refine htx0 (xh_st1 2 rfl rfl rfl sz33 rfl (by first | exact Nat.le_of_ble_eq_true rfl | simp) ⟨(fun _ => wk [2] [] rfl rfl), ?_⟩)
  refine htend <| hsub (ρ' := [(9, _), (3, _), (2, _), (0, _), (1, _)]) ⟨rfl, rfl, rfl, rfl, rfl, trivial⟩ <| hmemQ (X' := [_, _, _]) (S' := []) (fun _ m => m) <| ?_
  exact hret0 trivial rfl [1, 0] rfl [] rfl ⟨rfl, rfl, rfl, rfl⟩
theorem openIdle {g4 g5 : Nat} {v : Value} {e : Int} : ConD Tryd.prog 110 [.pointer (some ⟨g4, 0, none⟩), .pointer (some ⟨g5, 0, none⟩)] .returning [RBlk g4 32 [v], RBlk g5 33 [.int .i64 e]] [] (fun u_ X_ S_ => u_ = .returning ∧ X_ = [RBlk g4 32 [v], RBlk g5 33 [.int .i64 e]] ∧ S_ = []) := by
  refine henterS (N := 12) Tryd.func110 rfl rfl (by simp) fun b c_0 cs_ hu_ => ?_
  show HSL _ _ _ _ _ [0, 1, 2, 3, 4, 5, 6, 7] _ _ _ _ _
  refine hsl_rec0 rfl hu_ ?_
  refine hsl_y rfl (fun _ => y_tas rfl (run_tas0 Tryd.underlying177 ti177)) <| hsl_y rfl (fun _ => y_move rfl) <| hsl_y rfl (fun _ => y_extract rfl rfl) <| hsl_y rfl (fun _ => y_extract rfl rfl) <| ?_
  refine hsl_x rfl (xh_alloc ti177 (fun g2 => ?_))
  refine hsl_x0 rfl (xh_stA 0 rfl rfl rfl sz177 rfl one1 rfl ?_)
  refine hsl_y rfl (fun _ => y_assign rfl) <| hsl_done <| hmemC (X' := [_, _, _]) (S' := []) (fun _ m => m) <| hseq <| hreg <| hy (fun _ => y_move rfl) <| hend <| hsub (ρ' := [(9, _), (3, _), (2, _), (0, _), (1, _)]) ⟨rfl, rfl, rfl, rfl, rfl, trivial⟩ <| hthen <| ?_
  refine hiff rfl (rfl) ?_
  refine hcskip <| ?_
  exact hret0 trivial rfl [1, 1] rfl [] rfl ⟨rfl, rfl, rfl, rfl⟩
end Go.Proofs.YtfikjheicjamhaaDoor
end
