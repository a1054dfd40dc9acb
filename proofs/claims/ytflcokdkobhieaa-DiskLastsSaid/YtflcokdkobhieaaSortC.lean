/- Contract: slices.Sort of texts, from the kit's shelf. -/
import Derived.Test.YtflcokdkobhieaaSort1
import Derived.Test.YtflcokdkobhieaaDisk6
import Derived.Test.YtflcokdkobhieaaSortLay
import Derived.Sort.OwnSorted
set_option linter.unusedVariables false
set_option linter.unusedSimpArgs false
set_option maxRecDepth 20000
namespace Go.Proofs.Ytflcokdkobhieaa
open Go.Eng Go.Hx Go.Sort
def srt (l : List (List UInt8)) : List (List UInt8) := l.mergeSort fun x y => decide (x ≤ y)
theorem heap_srt {w : World} {g n o : Nat} {os : Array Obj} {cur : Array Value} {e : TypeId} {fr : Nat × Nat} (d : Array (List UInt8)) (hb : w.heap[g]? = some (.cells cur e fr)) :
    (grow (putRow encStr (Go.Sort.ahead w n) g o d) os).heap[g]? = some (.cells (putCells encStr o d cur) e fr) := by
  have hg : g < w.heap.size := (Array.getElem?_eq_some_iff.1 hb).1
  rw [heap_grow_old _ _ (by simpa using hg)]
  simp [putRow, mapBlock, Go.Sort.ahead, Array.getElem?_modify, hb, onCells]
theorem fr_srt {w : World} {g n o : Nat} {os : Array Obj} (d : Array (List UInt8)) : Fr (fun k => k = g) w (grow (putRow encStr (Go.Sort.ahead w n) g o d) os) := by
  refine ⟨rfl, rfl, rfl, by simp, fun k hk hne => ?_⟩
  rw [heap_grow_old _ _ (by simpa using hk)]
  have : g ≠ k := fun e => hne e.symm
  simp [putRow, mapBlock, Go.Sort.ahead, Array.getElem?_modify, this]
theorem take_put (cur : List Value) (o : Nat) (ts : List (List UInt8)) (h : o + ts.length ≤ cur.length) : ((putCells encStr o ts.toArray cur.toArray).toList.drop o).take ts.length = ss ts := by
  apply List.ext_getElem?
  intro j
  by_cases hj : j < ts.length
  · rw [List.getElem?_take_of_lt hj, List.getElem?_drop, Array.getElem?_toList]
    simp [putCells, hj, ss, show o + j < cur.length by omega, SV, strOf]
  · rw [List.getElem?_take_eq_none (by omega), List.getElem?_eq_none (by simp [ss]; omega)]
theorem srt_len (l : List (List UInt8)) : (srt l).length = l.length := List.length_mergeSort ..
theorem sort_c {A : Option Addr} {n c base : Nat} {e : TypeId} {l : List (List UInt8)} {w : World} (h : Own w base e 1 (.slice A n c) n (ss l)) (hn6 : n ≤ 1000000) :
    Calls Try.prog 61 #[.slice A n c] w fun r w' => r = .returned (.tuple #[]) ∧ Own w' base e 1 (.slice A n c) n (ss (srt l)) ∧ Fr (vblk (.slice A n c)) w w' := by
  obtain ⟨h1, h2⟩ := h
  have hl : l.length = n := by simpa [ss] using h1
  rcases h2 with ⟨hv, hn⟩ | ⟨g, o, cap, cur, hv, hb, ⟨fr, hh, hf, hfl⟩, hnc, hcm, hfit, hcs⟩
  · cases hv
    obtain rfl : l = [] := List.eq_nil_of_length_eq_zero hl
    refine Calls.mono (con_calls sortNoC (by intro s hs; cases hs)) (fun r w' ⟨hr, hf⟩ => ⟨hr, ⟨by simp [srt, ss], .inl ⟨rfl, rfl⟩⟩, hf.mono (fun _ _ e => e.elim)⟩)
  · cases hv
    subst hl
    have hB : Blk w g e cur := ⟨fr, hh, hf, hfl⟩
    have hH : Holds encStr w g o l.toArray := by
      intro j hj
      have hj' : j < l.length := by simpa using hj
      have h3 : ((cur.drop o).take (l.length * 1))[j]? = (ss l)[j]? := by rw [hcs]
      rw [List.getElem?_take_of_lt (by omega), List.getElem?_drop, ss_get hj'] at h3
      refine ⟨?_, hB.frozen (by omega)⟩
      rw [hB.cell h3]
      simp [List.getD, List.getElem?_eq_getElem hj', hj', SV, strOf]
    refine Calls.mono (Any.slices_Sort_string Try.lays190 g o c l w hH hB.lt (by omega)) ?_
    rintro r w' ⟨hr, k, os, rfl⟩
    refine ⟨hr, ⟨by simp [ss, srt_len], .inr ⟨g, o, c, (putCells encStr o (srt l).toArray cur.toArray).toList, rfl, hb, ?_, hnc, hcm, by simp [putCells]; omega, ?_⟩⟩, fr_srt _⟩
    · have := heap_srt (n := k) (o := o) (os := os) (srt l).toArray hh
      exact ⟨fr, by simpa [srt] using this, fun i hi => hf i (by simpa [putCells] using hi), by simpa [putCells] using hfl⟩
    · have := take_put cur o (srt l) (by rw [srt_len]; omega)
      rw [srt_len] at this
      rw [Nat.mul_one]; exact this
theorem sortC {A : Option Addr} {n c : Nat} {e : TypeId} {l : List (List UInt8)} (hn : n ≤ 1000000) : Con Try.prog 61 [.slice A n c] [ROwn e 1 (.slice A n c) n (ss l)] [] (fun v_ X_ S_ => v_ = (.tuple #[]) ∧ X_ = [ROwn e 1 (.slice A n c) n (ss (srt l))] ∧ S_ = []) := by
  refine fun w m => Calls.mono (sort_c (m.own 0 rfl) hn) ?_
  rintro r w' ⟨hr, ho, hf⟩
  exact ⟨_, _, _, hr, ⟨rfl, rfl, rfl⟩, m.change (r' := ROwn e 1 (.slice A n c) n (ss (srt l))) hf ho (fun k hk => .inl hk)⟩
end Go.Proofs.Ytflcokdkobhieaa
