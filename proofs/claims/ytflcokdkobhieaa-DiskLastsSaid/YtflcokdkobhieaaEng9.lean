/- The engine, ninth part: bytes to bytes; a row of zeros put behind; copies. No statement is proved here. -/
import Derived.Test.YtflcokdkobhieaaEng8
set_option linter.unusedVariables false
set_option linter.unusedSimpArgs false
namespace Go.Eng
open Go.RowKit
theorem Blk.freeze {w : World} {g : Nat} {t : TypeId} {cs : List Value} (h : Blk w g t cs) : Blk (w.freeze ⟨g, cs.length, none⟩ 1) g t cs := by
  obtain ⟨f, h, hf⟩ := h
  have e1 : w.freeze ⟨g, cs.length, none⟩ 1 = { w with heap := w.heap.modify g fun | .cells c elem (lo, hi) => .cells c elem (if lo == hi then (cs.length, cs.length + 1) else (min lo cs.length, max hi (cs.length + 1))) | o => o } := rfl
  obtain ⟨lo, hi⟩ := f
  by_cases hlh : lo = hi
  · refine ⟨(cs.length, cs.length + 1), ?_, fun i hi => by simp; omega, Nat.le_succ _⟩
    rw [e1]
    simp only [Array.getElem?_modify, if_true, h, Option.map_some]
    simp [hlh]
  · refine ⟨(min lo cs.length, max hi (cs.length + 1)), ?_, fun i hi' => ?_, by simp; omega⟩
    · rw [e1]
      simp only [Array.getElem?_modify, if_true, h, Option.map_some]
      simp [hlh]
    · have hle : lo ≤ hi := hf.2
      have : cs.length ≤ lo := by
        rcases Nat.lt_or_ge lo cs.length with h1 | h1
        · have := hf.1 lo h1
          simp at this
          omega
        · exact h1
      simp
      omega
section
variable {P : Program} {Q : Exit → Act → World → Prop} {N : Nat} {D : List Deferred} {ρ : Env} {w : World} {x y : Operand} {ty t t' e : TypeId} {v : Value} {K : Value → World → Prop}
theorem x_cvS {g n c : Nat} {bt : TypeId} {cs : List Value} (hx : ev ρ x = some (.slice (some ⟨g, 0, none⟩) n c)) (ht : P.underlying t = some (.slice e)) (he : P.underlying e = some (.int .u8)) (hb : Blk w g bt cs)
    (k : ∀ w', Fr (fun i => i = g) w w' → Blk w' g bt cs → w'.heap.size = w.heap.size → K (.slice (some ⟨g, 0, none⟩) n c) w') : XW P Q N D ρ w (.convert t t x) ty K := by
  have hsh : w.shape? g = some (bt, cs.length) := by
    obtain ⟨f, h, _⟩ := hb
    simp only [World.shape?, h]
    simp
  refine xw_of_run (w' := w.freeze ⟨g, cs.length, none⟩ 1) (fun a _ _ _ _ ha => ?_) (k _ (freeze_fr w g cs.length) hb.freeze (by
    have e1 : w.freeze ⟨g, cs.length, none⟩ 1 = { w with heap := w.heap.modify g fun | .cells c elem (lo, hi) => .cells c elem (if lo == hi then (cs.length, cs.length + 1) else (min lo cs.length, max hi (cs.length + 1))) | o => o } := rfl
    rw [e1]; simp))
  simp [execOp, ha.eval hx, convert, run_underlying ht, run_underlying he, markStringish, shape, freeze, Sem.run, hsh]
end
end Go.Eng
