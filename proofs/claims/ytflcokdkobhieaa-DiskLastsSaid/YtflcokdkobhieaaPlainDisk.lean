/- The document's files and a map's files, over plain lists. No program walked. -/
import Derived.Test.YtflcokdkobhieaaList1
set_option linter.unusedVariables false
set_option linter.unusedSimpArgs false
namespace Go.Proofs.Ytflcokdkobhieaa
open Go.Eng Go.Hx
theorem bl_eq : ∀ (x y : List UInt8), Op.bytesLess x y = decide (x < y)
  | [], [] => by simp [Op.bytesLess]
  | _ :: _, [] => by simp [Op.bytesLess]
  | [], _ :: _ => by simp [Op.bytesLess]
  | a :: x, b :: y => by
    rw [Op.bytesLess, bl_eq x y]
    simp only [List.cons_lt_cons_iff]
    by_cases h1 : a < b <;> by_cases h2 : a = b <;> by_cases h3 : x < y <;> simp [h1, h2, h3]
theorem sless_iff {a b : List UInt8} : sless a b = decide (a < b) := by
  unfold sless
  rw [bl_eq, Lib.toList_data, Lib.toList_data]
  rfl
def insF : List FP → FP → List FP
  | [], f => [f]
  | x :: r, f => if x.1 < f.1 then x :: insF r f else f :: (x :: r).filter fun y => decide (y.1 ≠ f.1)
theorem fold_true (f : FP) : ∀ (l acc : List FP), l.foldl (wstep f) (acc, true) = (acc ++ l.filter (fun y => decide (y.1 ≠ f.1)), true)
  | [], acc => by simp
  | x :: r, acc => by
    rw [List.foldl_cons]
    by_cases h : x.1 = f.1
    · have : wstep f (acc, true) x = (acc, true) := by simp [wstep, h]
      rw [this, fold_true f r acc]; simp [h]
    · have : wstep f (acc, true) x = (acc ++ [x], true) := by simp [wstep, h]
      rw [this, fold_true f r (acc ++ [x])]; simp [h]
def wfin (f : FP) (st : List FP × Bool) : List FP := if st.2 then st.1 else st.1 ++ [f]
theorem fold_false (f : FP) : ∀ (l acc : List FP), wfin f (l.foldl (wstep f) (acc, false)) = acc ++ insF l f
  | [], acc => by simp [insF, wfin]
  | x :: r, acc => by
    rw [List.foldl_cons]
    by_cases h : x.1 < f.1
    · have hne : x.1 ≠ f.1 := fun e => by rw [e] at h; exact List.lt_irrefl _ h
      have : wstep f (acc, false) x = (acc ++ [x], false) := by simp [wstep, sless_iff, h, hne]
      rw [this, fold_false f r (acc ++ [x]), insF, if_pos h]; simp
    · have hs : sless x.1 f.1 = false := by rw [sless_iff]; simpa using h
      rw [insF, if_neg h]
      by_cases he : x.1 = f.1
      · have hs' : sless f.1 f.1 = false := he ▸ hs
        have : wstep f (acc, false) x = (acc ++ [f], true) := by simp [wstep, hs', he]
        rw [this, fold_true]; simp [he, wfin]
      · have : wstep f (acc, false) x = (acc ++ [f] ++ [x], true) := by simp [wstep, hs, he]
        rw [this, fold_true]; simp [he, wfin]
theorem withF_ins (l : List FP) (f : FP) : withF l f = insF l f := by
  have := fold_false f l []
  rw [List.nil_append] at this
  rw [← this]
  unfold withF wst wfin
  rw [List.take_of_length_le (Nat.le_refl _)]
/-- what stands under a name -/
def lk : List FP → List UInt8 → Option (List UInt8)
  | [], _ => none
  | x :: r, p => if x.1 = p then some x.2 else lk r p
theorem lk_find : ∀ (l : List FP) (p : List UInt8), (l[findN l p]?).map (·.2) = lk l p
  | [], p => rfl
  | x :: r, p => by
    have := lk_find r p
    unfold findN at this ⊢
    rw [List.findIdx_cons]
    by_cases h : x.1 = p
    · simp [h, lk]
    · simp [h, lk, this]
theorem lk_filter (q : List UInt8) : ∀ (l : List FP) (p : List UInt8), lk (l.filter fun y => decide (y.1 ≠ q)) p = if p = q then none else lk l p
  | [], p => by simp [lk]
  | x :: r, p => by
    have ih := lk_filter q r p
    by_cases h : x.1 = q
    · rw [List.filter_cons, if_neg (by simp [h]), ih]
      by_cases hp : p = q
      · simp [hp]
      · rw [if_neg hp, if_neg hp, lk, if_neg (fun e => hp (e.symm.trans h))]
    · rw [List.filter_cons, if_pos (by simp [h]), lk, ih]
      by_cases hp : p = q
      · rw [if_pos hp, if_pos hp, if_neg (fun e => h (e.trans hp))]
      · rw [if_neg hp, if_neg hp, lk]
theorem lk_ins : ∀ (l : List FP) (f : FP) (p : List UInt8), lk (insF l f) p = if p = f.1 then some f.2 else lk l p
  | [], f, p => by simp only [insF, lk, eq_comm]
  | x :: r, f, p => by
    unfold insF
    by_cases h : x.1 < f.1
    · rw [if_pos h, lk, lk_ins r f p, lk]
      have hne : x.1 ≠ f.1 := fun e => by rw [e] at h; exact List.lt_irrefl _ h
      by_cases hp : p = f.1
      · rw [if_pos hp, if_pos hp, if_neg (fun e => hne (e.trans hp))]
      · rw [if_neg hp, if_neg hp]
    · rw [if_neg h, lk, lk_filter]
      by_cases hp : p = f.1
      · rw [if_pos hp.symm, if_pos hp]
      · rw [if_neg (fun e => hp e.symm), if_neg hp, if_neg hp]
/-- in order, each name once -/
def Srtd (l : List FP) : Prop := (l.map (·.1)).Pairwise (· < ·)
theorem srtd_filter {l : List FP} (q : FP → Bool) (h : Srtd l) : Srtd (l.filter q) := List.Pairwise.sublist (List.Sublist.map _ List.filter_sublist) h
theorem mem_ins {l : List FP} {f y : FP} (h : y ∈ insF l f) : y = f ∨ y ∈ l := by
  induction l with
  | nil => exact .inl (by simpa [insF] using h)
  | cons x r ih =>
    unfold insF at h
    split at h
    · rcases List.mem_cons.1 h with h | h
      · exact .inr (by rw [h]; exact List.mem_cons_self ..)
      · rcases ih h with h | h
        · exact .inl h
        · exact .inr (List.mem_cons_of_mem _ h)
    · rcases List.mem_cons.1 h with h | h
      · exact .inl h
      · exact .inr ((List.mem_filter.1 h).1)
theorem srtd_ins {l : List FP} {f : FP} (h : Srtd l) : Srtd (insF l f) := by
  induction l with
  | nil => simp [Srtd, insF]
  | cons x r ih =>
    have hx : ∀ y ∈ r, x.1 < y.1 := by
      intro y hy
      exact (List.pairwise_cons.1 h).1 _ (List.mem_map.2 ⟨y, hy, rfl⟩)
    have hr : Srtd r := (List.pairwise_cons.1 h).2
    unfold insF
    by_cases hlt : x.1 < f.1
    · rw [if_pos hlt]
      refine List.pairwise_cons.2 ⟨?_, ih hr⟩
      intro a ha
      obtain ⟨y, hy, rfl⟩ := List.mem_map.1 ha
      rcases mem_ins hy with rfl | hy
      · exact hlt
      · exact hx y hy
    · rw [if_neg hlt]
      refine List.pairwise_cons.2 ⟨?_, srtd_filter _ h⟩
      intro a ha
      obtain ⟨y, hy, rfl⟩ := List.mem_map.1 ha
      have hy1 := (List.mem_filter.1 hy).1
      have hy2 : y.1 ≠ f.1 := by simpa using (List.mem_filter.1 hy).2
      have hge : ¬ y.1 < f.1 := by
        rcases List.mem_cons.1 hy1 with rfl | h1
        · exact hlt
        · exact fun e => hlt (List.lt_trans (hx y h1) e)
      exact Decidable.byContradiction fun hn => hy2 (List.le_antisymm (List.not_lt.1 hn) (List.not_lt.1 hge))
/-- a map's files are the document's -/
structure FSim (fs : Files) (l : List FP) : Prop where
  ord : Srtd l
  nd : (akeys fs).Nodup
  look : ∀ p, (aget fs p).map (·.l) = lk l p
  len : ∀ x ∈ fs, x.2.n = x.2.l.length
theorem FSim.nil : FSim [] [] := ⟨by simp [Srtd], by simp [akeys], fun p => rfl, fun x h => by cases h⟩
theorem lk_mem {l : List FP} {p : List UInt8} : lk l p ≠ none ↔ p ∈ l.map (·.1) := by
  induction l with
  | nil => simp [lk]
  | cons x r ih =>
    unfold lk
    by_cases h : x.1 = p
    · simp [h]
    · rw [if_neg h, ih]; simp [Ne.symm h]
theorem FSim.keys {fs : Files} {l : List FP} (h : FSim fs l) : (akeys fs).Perm (l.map (·.1)) := by
  have hn : (l.map (·.1)).Nodup := List.Pairwise.imp (fun hlt e => by rw [e] at hlt; exact List.lt_irrefl _ hlt) h.ord
  refine (List.perm_ext_iff_of_nodup h.nd hn).2 fun p => ?_
  rw [← lk_mem, ← h.look p]
  have := @aget_none (List UInt8) BRow _ fs p
  cases hq : aget fs p with
  | none => simp [this.1 hq]
  | some r => simp; exact Decidable.byContradiction fun hm => by rw [this.2 hm] at hq; cases hq
theorem FSim.names {fs : Files} {l : List FP} (h : FSim fs l) {ks : List (List UInt8)} (hk : ks.Perm (akeys fs)) : srt ks = l.map (·.1) := by
  have hle : ∀ a b : List UInt8, (decide (a ≤ b) = true) ↔ a ≤ b := fun a b => by simp
  have h1 : (srt ks).Perm (l.map (·.1)) := (List.mergeSort_perm _ _).trans (hk.trans h.keys)
  have h2 : (srt ks).Pairwise (· ≤ ·) := by
    have := List.pairwise_mergeSort (le := fun x y : List UInt8 => decide (x ≤ y)) (fun a b c hab hbc => by simpa using List.le_trans (by simpa using hab) (by simpa using hbc)) (fun a b => by simpa using List.le_total a b) ks
    exact this.imp (fun hab => by simpa using hab)
  have h3 : (l.map (·.1)).Pairwise (· ≤ ·) := h.ord.imp (fun hlt => List.le_of_lt hlt)
  exact h1.eq_of_pairwise (fun a b _ _ hab hba => List.le_antisymm hab hba) h2 h3
theorem FSim.put {fs : Files} {l : List FP} (h : FSim fs l) {p : List UInt8} {r : BRow} (hr : r.n = r.l.length) : FSim (aput fs p r) (withF l (p, r.l)) := by
  rw [withF_ins]
  refine ⟨srtd_ins h.ord, aput_nodup h.nd, fun q => ?_, fun x hx => ?_⟩
  · rw [aget_aput, lk_ins]
    by_cases hq : p = q
    · rw [if_pos hq, if_pos hq.symm]; rfl
    · rw [if_neg hq, if_neg (fun e => hq e.symm)]; exact h.look q
  · rcases aput_vals (List.mem_map.2 ⟨x, hx, rfl⟩) with h1 | h1
    · obtain ⟨y, hy, e⟩ := List.mem_map.1 h1
      rw [← e]; exact h.len y hy
    · rw [h1]; exact hr
theorem sum_perm {a b : List Nat} (h : a.Perm b) : a.sum = b.sum := by
  induction h with
  | nil => rfl
  | cons x _ ih => simp [ih]
  | swap x y l => simp; omega
  | trans _ _ h1 h2 => rw [h1, h2]
theorem lk_self {l : List FP} (h : Srtd l) {x : FP} (hx : x ∈ l) : lk l x.1 = some x.2 := by
  induction l with
  | nil => cases hx
  | cons y r ih =>
    unfold lk
    rcases List.mem_cons.1 hx with rfl | h1
    · rw [if_pos rfl]
    · have hlt : y.1 < x.1 := (List.pairwise_cons.1 h).1 _ (List.mem_map.2 ⟨x, h1, rfl⟩)
      rw [if_neg (fun e => by rw [e] at hlt; exact List.lt_irrefl _ hlt)]
      exact ih (List.pairwise_cons.1 h).2 h1
theorem FSim.tot {fs : Files} {l : List FP} (h : FSim fs l) : tot fs = totF l := by
  let g : List UInt8 → Nat := fun p => ((lk l p).getD []).length
  have h1 : fs.map (fun x => x.2.n) = (akeys fs).map g := by
    rw [akeys, List.map_map]
    refine List.map_congr_left fun x hx => ?_
    have := h.look x.1
    rw [aget_of_mem h.nd (show (x.1, x.2) ∈ fs from hx)] at this
    show x.2.n = ((lk l x.1).getD []).length
    rw [← this, h.len x hx]; rfl
  have h2 : l.map (fun x => x.2.length) = (l.map (·.1)).map g := by
    rw [List.map_map]
    refine List.map_congr_left fun x hx => ?_
    show x.2.length = ((lk l x.1).getD []).length
    rw [lk_self h.ord hx]; rfl
  show (fs.map fun x => x.2.n).sum = (l.map fun x => x.2.length).sum
  rw [h1, h2]
  exact sum_perm (h.keys.map g)
theorem FSim.len1 {fs : Files} {l : List FP} (h : FSim fs l) : fs.length = l.length := by
  have := h.keys.length_eq
  simpa [akeys] using this
theorem FSim.sz {fs : Files} {l : List FP} (h : FSim fs l) (p : List UInt8) : ((aget fs p).map (·.n)).getD 0 = ((l[findN l p]?).map (·.2.length)).getD 0 := by
  have h1 := h.look p
  rw [← lk_find] at h1
  cases hq : aget fs p with
  | none =>
    rw [hq] at h1
    cases hl : l[findN l p]? with
    | none => rfl
    | some x => rw [hl] at h1; cases h1
  | some r =>
    rw [hq] at h1
    cases hl : l[findN l p]? with
    | none => rw [hl] at h1; cases h1
    | some x =>
      rw [hl] at h1
      have e : r.l = x.2 := Option.some.inj h1
      have := h.len _ (aget_mem hq)
      simp only [Option.map_some, Option.getD_some]
      rw [← e]; exact this
/-- a disk is the document's -/
structure DSim (st : DSt) (d : RD) : Prop where
  room : st.room = d.room
  power : st.power = d.pw
  files : FSim st.seen d.seen
  waits : st.waits.length = d.waits.length
theorem DSim.writeE {st : DSt} {d : RD} (h : DSim st d) (p bb : List UInt8) : writeE st p bb.length = d.writeE p bb := by
  have h1 := h.files.sz p
  have h2 := h.files.tot
  unfold Go.Proofs.Ytflcokdkobhieaa.writeE RD.writeE RD.sz
  rw [h.power, h.room, h1, h2]
  by_cases hn : ¬ Named p
  · rw [if_pos hn, if_pos hn]
  · rw [if_neg hn, if_neg hn]
    by_cases h0 : d.pw = 0
    · rw [if_pos h0, if_pos h0]
    · rw [if_neg h0, if_neg h0]
      by_cases hr : d.room < (totF d.seen : Int) + (bb.length : Nat) - (((d.seen[findN d.seen p]?).map (·.2.length)).getD 0 : Nat)
      · rw [if_pos hr, if_pos (by omega)]
      · rw [if_neg hr, if_neg (by omega)]
theorem DSim.wrote {st : DSt} {d : RD} (h : DSim st d) {p : List UInt8} {r : BRow} (hr : r.n = r.l.length) {A : Option Addr} {c : Nat} : DSim (st.wrote p r A c) (d.did 0 p [] r.l) := by
  refine ⟨h.room, ?_, ?_, ?_⟩
  · show (if 0 < st.power then st.power - 1 else st.power) = lessP d.pw
    rw [h.power]; rfl
  · show FSim (aput st.seen p r) (makeF d.seen 0 p [] r.l)
    rw [makeF, if_pos rfl]; exact h.files.put hr
  · show (st.waits ++ [Chg.written p r]).length = (d.waits ++ [(0, p, [], r.l)]).length
    rw [List.length_append, List.length_append, h.waits]; rfl
end Go.Proofs.Ytflcokdkobhieaa
