/- The engine over things in memory, seventh part: several things that are only read as one, contracts said over other things. No statement is proved here. -/
import Derived.Test.YtflcokdkobhieaaMem6
set_option linter.unusedVariables false
set_option linter.unusedSimpArgs false
set_option linter.unusedSectionVars false
namespace Go.Eng
open Go.RowKit
/-- several things that are only read, as one; they may share blocks -/
def RAll (L : List Res) : Res where
  foot := feet L
  holds w := ∀ x ∈ L, x.holds w
  keep f h p := fun x hx => x.keep f (fun k hk => h k ⟨x, hx, hk⟩) (p x hx)
  low p hk := by
    obtain ⟨x, hx, hk⟩ := hk
    exact x.low (p x hx) hk
theorem View.alls {L : List Res} {r : Res} (i : Nat) (h : L[i]? = some r) : View (RAll L) r := .of (fun w x => x r (List.mem_of_getElem? h)) (fun k hk => ⟨r, List.mem_of_getElem? h, hk⟩)
/-- what is read and comes of what is read -/
def Der (S S' : List Res) : Prop := ∀ s ∈ S', (∀ w, (∀ t ∈ S, t.holds w) → s.holds w) ∧ ∀ k, s.foot k → ∃ t ∈ S, t.foot k
theorem Mem.der {b : Base} {X S S' : List Res} {w : World} (m : Mem b X S w) (h : Der S S') : Mem b X S' w := by
  refine ⟨m.fr, m.xx, fun x hx s hs k hk hk' => ?_, m.hx, fun s hs => (h s hs).1 w m.hs, m.nx, fun s hs k hk => ?_⟩
  · obtain ⟨t, ht, htk⟩ := (h s hs).2 k hk'
    exact m.xs x hx t ht k hk htk
  · obtain ⟨t, ht, htk⟩ := (h s hs).2 k hk
    exact m.ns t ht k htk
theorem Der.all {S L : List Res} (h : ∀ s ∈ L, s ∈ S) : Der S (RAll L :: S) := by
  intro s hs
  rcases List.mem_cons.1 hs with rfl | hs
  · exact ⟨fun w hw x hx => hw x (h x hx), fun k hk => by obtain ⟨x, hx, hk⟩ := hk; exact ⟨x, h x hx, hk⟩⟩
  · exact ⟨fun w hw => hw s hs, fun k hk => ⟨s, hs, hk⟩⟩
theorem Mem.allS {b : Base} {X S L : List Res} {w : World} (m : Mem b X S w) (js : List Nat) (h : getR js S = some L) : Mem b X (RAll L :: S) w := m.der (Der.all (getR_sub _ _ _ h))
theorem Der.nil {S : List Res} : Der S [] := fun s hs => by cases hs
theorem Der.cons {S S' : List Res} {L : List Res} (h : ∀ s ∈ L, (∃ t ∈ S, View t s)) (k : Der S S') : Der S (RAll L :: S') := by
  intro s hs
  rcases List.mem_cons.1 hs with rfl | hs
  · refine ⟨fun w hw x hx => ?_, fun i hi => ?_⟩
    · obtain ⟨t, ht, hv⟩ := h x hx
      exact hv.ok.1 w (hw t ht)
    · obtain ⟨x, hx, hk⟩ := hi
      obtain ⟨t, ht, hv⟩ := h x hx
      exact ⟨t, ht, hv.ok.2 i hk⟩
  · exact k s hs
theorem Con.viaS {P : Program} {f : Nat} {vs : List Value} {X0 S0 T0 : List Res} {R R' : Value → List Res → List Res → Prop} (h : Con P f vs X0 S0 R) (hS : ∀ s ∈ S0, ∃ t ∈ T0, View t s)
    (hR : ∀ v X S, R v X S → ∃ S', R' v X S' ∧ Der (S ++ T0) S') : Con P f vs X0 T0 R' := fun w m => by
  have hd : Der T0 (S0 ++ T0) := by
    intro s hs
    rcases List.mem_append.1 hs with hs | hs
    · obtain ⟨t, ht, hv⟩ := hS s hs
      exact ⟨fun w hw => hv.ok.1 w (hw t ht), fun k hk => ⟨t, ht, hv.ok.2 k hk⟩⟩
    · exact ⟨fun w hw => hw s hs, fun k hk => ⟨s, hs, hk⟩⟩
  have m1 : Mem ⟨w, feet X0, feet T0⟩ (X0 ++ []) (S0 ++ T0) w := by rw [List.append_nil]; exact m.der hd
  refine Calls.mono (h w (m1.part (fun s hs => List.mem_append_left _ hs))) ?_
  rintro e w' ⟨v, X', S', rfl, hr, m'⟩
  obtain ⟨S2, hr2, hd2⟩ := hR v X' S' hr
  have m2 := Mem.frame m1 (fun s hs => List.mem_append_left _ hs) m'
  rw [List.append_nil] at m2
  refine ⟨v, X', S2, rfl, hr2, m2.der ?_⟩
  intro s hs
  refine ⟨fun w hw => (hd2 s hs).1 w (fun t ht => hw t ?_), fun k hk => ?_⟩
  · rcases List.mem_append.1 ht with ht | ht
    · exact List.mem_append_left _ ht
    · exact List.mem_append_right _ (List.mem_append_right _ ht)
  · obtain ⟨t, ht, hk⟩ := (hd2 s hs).2 k hk
    rcases List.mem_append.1 ht with ht | ht
    · exact ⟨t, List.mem_append_left _ ht, hk⟩
    · exact ⟨t, List.mem_append_right _ (List.mem_append_right _ ht), hk⟩
/-- other arguments, the same -/
theorem Con.mono {P : Program} {f : Nat} {vs : List Value} {X0 S0 : List Res} {R R' : Value → List Res → List Res → Prop} (h : Con P f vs X0 S0 R) (hR : ∀ v X S, R v X S → R' v X S) : Con P f vs X0 S0 R' := fun w m => by
  refine Calls.mono (h w m) ?_
  rintro e w' ⟨v, X', S', rfl, hr, m'⟩
  exact ⟨v, X', S', rfl, hR _ _ _ hr, m'⟩
end Go.Eng
