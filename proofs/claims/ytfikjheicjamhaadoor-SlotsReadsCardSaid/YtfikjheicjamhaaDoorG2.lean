import Derived.Test.YtfikjheicjamhaaDoorG1
import Derived.Laws.Pointers
import Derived.Maps.RangeRun
import Derived.Conc.MuLone
import Derived.Defers
import Derived.WalkSpells
import Derived.Laws.MakeOwn
import Derived.Laws.BitsAllLaws
section
/- The engine over things in memory: what a call owns and what it only reads, apart from each other; the world has no name. No statement is proved here. -/
set_option linter.unusedVariables false
set_option linter.unusedSimpArgs false
namespace Go.Eng
open Go.RowKit
/-- A thing in memory: its blocks, what is said of it. -/
structure Res where
  foot : Nat → Prop
  holds : World → Prop
  keep : ∀ {S : Nat → Prop} {w w' : World}, Fr S w w' → (∀ k, foot k → ¬ S k) → holds w → holds w'
  low : ∀ {w : World} {k : Nat}, holds w → foot k → k < w.heap.size
def feet (L : List Res) (k : Nat) : Prop := ∃ r ∈ L, r.foot k
structure Base where
  w : World
  M : Nat → Prop
  B : Nat → Prop
/-- X: things that are the call's own; S: things that are only read. -/
structure Mem (b : Base) (X S : List Res) (w : World) : Prop where
  fr : Fr b.M b.w w
  xx : X.Pairwise fun p q => ∀ k, p.foot k → ¬ q.foot k
  xs : ∀ x ∈ X, ∀ s ∈ S, ∀ k, x.foot k → ¬ s.foot k
  hx : ∀ x ∈ X, x.holds w
  hs : ∀ s ∈ S, s.holds w
  nx : ∀ x ∈ X, ∀ k, x.foot k → b.M k ∨ b.w.heap.size ≤ k
  ns : ∀ s ∈ S, ∀ k, s.foot k → b.B k ∨ b.M k ∨ b.w.heap.size ≤ k
section
variable {b : Base} {X X' X1 Xr S S' S1 : List Res} {w w' : World} {r r' : Res}
theorem Mem.lift {w' : World} (m : Mem b X S w) (f : Fr No w w') : Mem b X S w' :=
  ⟨m.fr.trans0 f, m.xx, m.xs, fun x hx => x.keep f (fun _ _ e => e) (m.hx x hx), fun s hs => s.keep f (fun _ _ e => e) (m.hs s hs), m.nx, m.ns⟩
theorem Mem.perm (m : Mem b X S w) (h : X.Perm X') : Mem b X' S w :=
  ⟨m.fr, (h.pairwise_iff (fun hxy k hy hx => hxy k hx hy)).1 m.xx, fun x hx => m.xs x (h.mem_iff.2 hx), fun x hx => m.hx x (h.mem_iff.2 hx), m.hs, fun x hx => m.nx x (h.mem_iff.2 hx), m.ns⟩
theorem Mem.subS (m : Mem b X S w) (h : ∀ s ∈ S', s ∈ S) : Mem b X S' w :=
  ⟨m.fr, m.xx, fun x hx s hs => m.xs x hx s (h s hs), m.hx, fun s hs => m.hs s (h s hs), m.nx, fun s hs => m.ns s (h s hs)⟩
theorem Mem.dropX (m : Mem b (X ++ X') S w) : Mem b X S w :=
  ⟨m.fr, (List.pairwise_append.1 m.xx).1, fun x hx => m.xs x (List.mem_append_left _ hx), fun x hx => m.hx x (List.mem_append_left _ hx), m.hs, fun x hx => m.nx x (List.mem_append_left _ hx), m.ns⟩
theorem Mem.dropX' (m : Mem b (X ++ X') S w) : Mem b X' S w :=
  ⟨m.fr, (List.pairwise_append.1 m.xx).2.1, fun x hx => m.xs x (List.mem_append_right _ hx), fun x hx => m.hx x (List.mem_append_right _ hx), m.hs, fun x hx => m.nx x (List.mem_append_right _ hx), m.ns⟩
/-- what a callee tells of its part -/
theorem Mem.frame {X0 S0 : List Res} (m : Mem b (X0 ++ Xr) S w) (hS : ∀ s ∈ S0, s ∈ S) (m' : Mem ⟨w, feet X0, feet S0⟩ X' S' w') : Mem b (X' ++ Xr) (S' ++ S) w' := by
  obtain ⟨h0, hr, h0r⟩ := List.pairwise_append.1 m.xx
  have hoff : ∀ y ∈ Xr, ∀ k, y.foot k → ¬ feet X0 k := fun y hy k hk ⟨x, hx, hxk⟩ => h0r x hx y hy k hxk hk
  have hoffS : ∀ s ∈ S, ∀ k, s.foot k → ¬ feet X0 k := fun s hs k hk ⟨x, hx, hxk⟩ => m.xs x (List.mem_append_left _ hx) s hs k hxk hk
  refine ⟨m.fr.trans m'.fr (fun _ e => e) (fun i hi e => ?_), List.pairwise_append.2 ⟨m'.xx, hr, fun x hx y hy k hk hy' => ?_⟩, fun x hx s hs k hk hk' => ?_, fun x hx => ?_, fun s hs => ?_, fun x hx k hk => ?_, fun s hs k hk => ?_⟩
  · obtain ⟨x, hx, hxk⟩ := e
    rcases m.nx x (List.mem_append_left _ hx) i hxk with h | h
    · exact h
    · omega
  · rcases m'.nx x hx k hk with h | h
    · exact hoff y hy k hy' h
    · have := y.low (m.hx y (List.mem_append_right _ hy)) hy'
      simp only at h
      omega
  · rcases List.mem_append.1 hx with hx | hx <;> rcases List.mem_append.1 hs with hs | hs
    · exact m'.xs x hx s hs k hk hk'
    · rcases m'.nx x hx k hk with h | h
      · exact hoffS s hs k hk' h
      · have := s.low (m.hs s hs) hk'
        simp only at h
        omega
    · rcases m'.ns s hs k hk' with ⟨s0, h0, h0k⟩ | h | h
      · exact m.xs x (List.mem_append_right _ hx) s0 (hS s0 h0) k hk h0k
      · exact hoff x hx k hk h
      · have := x.low (m.hx x (List.mem_append_right _ hx)) hk
        simp only at h
        omega
    · exact m.xs x (List.mem_append_right _ hx) s hs k hk hk'
  · rcases List.mem_append.1 hx with hx | hx
    · exact m'.hx x hx
    · exact x.keep m'.fr (hoff x hx) (m.hx x (List.mem_append_right _ hx))
  · rcases List.mem_append.1 hs with hs | hs
    · exact m'.hs s hs
    · exact s.keep m'.fr (hoffS s hs) (m.hs s hs)
  · rcases List.mem_append.1 hx with hx | hx
    · rcases m'.nx x hx k hk with ⟨y, hy, hyk⟩ | h
      · exact m.nx y (List.mem_append_left _ hy) k hyk
      · exact .inr (Nat.le_trans m.fr.size h)
    · exact m.nx x (List.mem_append_right _ hx) k hk
  · rcases List.mem_append.1 hs with hs | hs
    · rcases m'.ns s hs k hk with ⟨y, hy, hyk⟩ | ⟨y, hy, hyk⟩ | h
      · exact m.ns y (hS y hy) k hyk
      · exact .inr (m.nx y (List.mem_append_left _ hy) k hyk)
      · exact .inr (.inr (Nat.le_trans m.fr.size h))
    · exact m.ns s hs k hk
theorem Mem.start (hX : X.Pairwise fun p q => ∀ k, p.foot k → ¬ q.foot k) (hXS : ∀ x ∈ X, ∀ s ∈ S, ∀ k, x.foot k → ¬ s.foot k) (hx : ∀ x ∈ X, x.holds w) (hs : ∀ s ∈ S, s.holds w) : Mem ⟨w, feet X, feet S⟩ X S w :=
  ⟨.refl _ _, hX, hXS, hx, hs, fun x hx k hk => .inl ⟨x, hx, hk⟩, fun s hs k hk => .inl ⟨s, hs, hk⟩⟩
/-- the part that is handed to a callee -/
theorem Mem.part {X0 S0 : List Res} (m : Mem b (X0 ++ Xr) S w) (hS : ∀ s ∈ S0, s ∈ S) : Mem ⟨w, feet X0, feet S0⟩ X0 S0 w :=
  .start (List.pairwise_append.1 m.xx).1 (fun x hx s hs => m.xs x (List.mem_append_left _ hx) s (hS s hs)) (fun x hx => m.hx x (List.mem_append_left _ hx)) (fun s hs => m.hs s (hS s hs))
/-- one thing changes, and may move to new blocks -/
theorem Mem.change (m : Mem b (r :: X) S w) (f : Fr r.foot w w') (h' : r'.holds w') (hk : ∀ k, r'.foot k → r.foot k ∨ w.heap.size ≤ k) : Mem b (r' :: X) S w' := by
  have m' : Mem ⟨w, feet [r], feet []⟩ [r'] [] w' := ⟨f.mono (fun i _ e => ⟨r, by simp, e⟩), by simp, by simp, by simpa using h', by simp, fun x hx k hk' => by
    obtain rfl : x = r' := by simpa using hx
    rcases hk k hk' with h | h
    · exact .inl ⟨r, by simp, h⟩
    · exact .inr h, by simp⟩
  exact Mem.frame (X0 := [r]) (S0 := []) (S' := []) m (by simp) m'
/-- new things, nothing else changes -/
theorem Mem.addX (m : Mem b X S w) (f : Fr No w w') (h' : r'.holds w') (hk : ∀ k, r'.foot k → w.heap.size ≤ k) : Mem b (r' :: X) S w' := by
  have m' : Mem ⟨w, feet [], feet []⟩ [r'] [] w' := ⟨f.mono (fun i _ e => e.elim), by simp, by simp, by simpa using h', by simp, fun x hx k hk' => by
    obtain rfl : x = r' := by simpa using hx
    exact .inr (hk k hk'), by simp⟩
  exact Mem.frame (X0 := []) (S0 := []) (S' := []) m (by simp) m'
theorem Mem.addS (m : Mem b X S w) (f : Fr No w w') (h' : r'.holds w') (hk : ∀ k, r'.foot k → w.heap.size ≤ k ∨ feet S k) : Mem b X (r' :: S) w' := by
  have m' : Mem ⟨w, feet [], feet S⟩ [] [r'] w' := ⟨f.mono (fun i _ e => e.elim), by simp, by simp, by simp, by simpa using h', by simp, fun x hx k hk' => by
    obtain rfl : x = r' := by simpa using hx
    exact (hk k hk').elim (fun h => .inr (.inr h)) .inl⟩
  exact Mem.frame (X0 := []) (X' := []) m (fun _ h => h) m'
/-- what is one's own is only read from now on -/
theorem Mem.freeze (m : Mem b (r :: X) S w) : Mem b X (r :: S) w := by
  obtain ⟨h1, h2⟩ := List.pairwise_cons.1 m.xx
  refine ⟨m.fr, h2, fun x hx s hs k hk hk' => ?_, fun x hx => m.hx x (List.mem_cons_of_mem _ hx), fun s hs => ?_, fun x hx => m.nx x (List.mem_cons_of_mem _ hx), fun s hs k hk => ?_⟩
  · rcases List.mem_cons.1 hs with rfl | hs
    · exact h1 x hx k hk' hk
    · exact m.xs x (List.mem_cons_of_mem _ hx) s hs k hk hk'
  · rcases List.mem_cons.1 hs with rfl | hs
    · exact m.hx _ (List.mem_cons_self ..)
    · exact m.hs s hs
  · rcases List.mem_cons.1 hs with rfl | hs
    · exact .inr (m.nx _ (List.mem_cons_self ..) k hk)
    · exact m.ns s hs k hk
/-- the same thing, said otherwise -/
theorem Mem.asX (m : Mem b (r :: X) S w) (h : r.holds w → r'.holds w) (hk : ∀ k, r'.foot k → r.foot k) : Mem b (r' :: X) S w :=
  m.change (.refl _ _) (h (m.hx _ (List.mem_cons_self ..))) (fun k hk' => .inl (hk k hk'))
theorem Mem.asS (m : Mem b X S w) (i : Nat) (hi : S[i]? = some r) (h : r.holds w → r'.holds w) (hk : ∀ k, r'.foot k → r.foot k) : Mem b X (r' :: S) w :=
  m.addS (.refl _ _) (h (m.hs _ (List.mem_of_getElem? hi))) (fun k hk' => .inr ⟨r, List.mem_of_getElem? hi, hk k hk'⟩)
end
/-- things number i1, i2 .. of those (each number counts what is left) -/
def takeR : List Nat → List Res → Option (List Res × List Res)
  | [], X => some ([], X)
  | i :: is, X => match X[i]?, takeR is (X.eraseIdx i) with
    | some r, some (p, q) => some (r :: p, q)
    | _, _ => none
theorem eraseIdx_perm {α : Type} : ∀ (l : List α) (i : Nat) (h : i < l.length), (l[i] :: l.eraseIdx i).Perm l
  | [], i, h => by simp at h
  | a :: r, 0, h => by simp
  | a :: r, i + 1, h => by
    have hi : i < r.length := by simpa using h
    have := eraseIdx_perm r i hi
    simp only [List.getElem_cons_succ, List.eraseIdx_cons_succ]
    exact (List.Perm.swap a r[i] (r.eraseIdx i)).trans (this.cons a)
theorem takeR_perm : ∀ (is : List Nat) (X p q : List Res), takeR is X = some (p, q) → X.Perm (p ++ q)
  | [], X, p, q, h => by
    simp only [takeR, Option.some.injEq, Prod.mk.injEq] at h
    obtain ⟨rfl, rfl⟩ := h
    exact .refl _
  | i :: is, X, p, q, h => by
    unfold takeR at h
    split at h
    · rename_i r p' q' hr hp
      simp only [Option.some.injEq, Prod.mk.injEq] at h
      obtain ⟨rfl, rfl⟩ := h
      have hlt := (List.getElem?_eq_some_iff.1 hr).1
      have e : X[i] = r := (List.getElem?_eq_some_iff.1 hr).2
      have h1 := takeR_perm is _ _ _ hp
      rw [List.cons_append]
      refine .trans ?_ (h1.cons r)
      rw [← e]
      exact (eraseIdx_perm X i hlt).symm
    · cases h
def getR : List Nat → List Res → Option (List Res)
  | [], _ => some []
  | i :: is, S => match S[i]?, getR is S with
    | some r, some p => some (r :: p)
    | _, _ => none
theorem getR_sub : ∀ (is : List Nat) (S p : List Res), getR is S = some p → ∀ s ∈ p, s ∈ S
  | [], S, p, h => by
    simp only [getR, Option.some.injEq] at h
    subst h
    simp
  | i :: is, S, p, h => by
    unfold getR at h
    split at h
    · rename_i r p' hr hp
      simp only [Option.some.injEq] at h
      subst h
      intro s hs
      rcases List.mem_cons.1 hs with rfl | hs
      · exact List.mem_of_getElem? hr
      · exact getR_sub is S _ hp s hs
    · cases h
/-! ### Things -/
def RBlk (g : Nat) (t : TypeId) (cs : List Value) : Res := ⟨fun k => k = g, fun w => Blk w g t cs, fun f h b => b.fr f (h g rfl), fun b hk => hk ▸ b.lt⟩
def ROwn (e : TypeId) (sz : Nat) (v : Value) (n : Nat) (xs : List Value) : Res := ⟨vblk v, fun w => Own w 0 e sz v n xs, fun f h o => o.fr f h, fun o hk => (o.from hk).2⟩
theorem Rd.keep {w w' : World} {sz n : Nat} {A : Option Addr} {xs : List Value} {S : Nat → Prop} (h : Rd w sz A n xs) (f : Fr S w w') (ho : ∀ k, (xs ≠ [] ∧ ∃ a, A = Option.some a ∧ k = a.block) → ¬ S k) : Rd w' sz A n xs := by
  refine ⟨h.1, h.2.1, fun j u hu => cell_fr (h.2.2 j u hu) f ?_⟩
  have hne : xs ≠ [] := fun e => by rw [e] at hu; simp at hu
  have hn : 0 < n := by
    rcases Nat.eq_zero_or_pos n with e | e
    · have := h.1; rw [e, Nat.zero_mul] at this; exact absurd (List.eq_nil_of_length_eq_zero this) hne
    · exact e
  rw [add_block]
  exact ho _ ⟨hne, _, h.some hn, rfl⟩
def RRd (sz : Nat) (A : Option Addr) (n : Nat) (xs : List Value) : Res := ⟨fun k => xs ≠ [] ∧ ∃ a, A = some a ∧ k = a.block, fun w => Rd w sz A n xs, fun f h r => Rd.keep r f h, fun {w k} r hk => by
  obtain ⟨hne, a, rfl, rfl⟩ := hk
  cases xs with
  | nil => exact absurd rfl hne
  | cons u rest =>
    have := lt_of_cell (r.cell (j := 0) rfl)
    rwa [add_block] at this⟩
section
variable {b : Base} {X S : List Res} {w : World} {g sz n : Nat} {t e : TypeId} {cs xs : List Value} {v : Value} {A : Option Addr}
theorem Mem.blk (m : Mem b X S w) (i : Nat) (h : X[i]? = some (RBlk g t cs)) : Blk w g t cs := m.hx _ (List.mem_of_getElem? h)
theorem Mem.own (m : Mem b X S w) (i : Nat) (h : X[i]? = some (ROwn e sz v n xs)) : Own w 0 e sz v n xs := m.hx _ (List.mem_of_getElem? h)
theorem Mem.ownS (m : Mem b X S w) (i : Nat) (h : S[i]? = some (ROwn e sz v n xs)) : Own w 0 e sz v n xs := m.hs _ (List.mem_of_getElem? h)
theorem Mem.blkS (m : Mem b X S w) (i : Nat) (h : S[i]? = some (RBlk g t cs)) : Blk w g t cs := m.hs _ (List.mem_of_getElem? h)
theorem Mem.rd (m : Mem b X S w) (i : Nat) (h : S[i]? = some (RRd sz A n xs)) : Rd w sz A n xs := m.hs _ (List.mem_of_getElem? h)
/-- a slice of one's own, read -/
theorem Mem.ord {c : Nat} (m : Mem b X S w) (i : Nat) (h : X[i]? = some (ROwn e sz (.slice A n c) n xs)) : Rd w sz A n xs := (Own.rd (m.own i h)).2.2
theorem Own.base0 {b : Nat} (h : Own w b e sz v n xs) : Own w 0 e sz v n xs := h.wide (Nat.zero_le _)
theorem Own.rebase (h : Own w 0 e sz v n xs) {b : Nat} (hb : ∀ k, vblk v k → b ≤ k) : Own w b e sz v n xs := by
  rcases h with ⟨hl, h | ⟨g, o, cap, cur, rfl, hbb, h⟩⟩
  · exact ⟨hl, .inl h⟩
  · exact ⟨hl, .inr ⟨g, o, cap, cur, rfl, hb g rfl, h⟩⟩
end
/-- several things as one -/
def RPack (Xp : List Res) : Res where
  foot := feet Xp
  holds w := (Xp.Pairwise fun (p q : Res) => ∀ k : Nat, p.foot k → ¬ q.foot k) ∧ ∀ x ∈ Xp, x.holds w
  keep f h p := ⟨p.1, fun x hx => x.keep f (fun k hk => h k ⟨x, hx, hk⟩) (p.2 x hx)⟩
  low p hk := by
    obtain ⟨x, hx, hk⟩ := hk
    exact x.low (p.2 x hx) hk
section
variable {b : Base} {X S Xp : List Res} {w : World} {r r1 r2 : Res}
theorem Mem.unpack (m : Mem b (RPack Xp :: X) S w) : Mem b (Xp ++ X) S w := by
  obtain ⟨h1, h2⟩ := List.pairwise_cons.1 m.xx
  obtain ⟨p1, p3⟩ := m.hx _ (List.mem_cons_self ..)
  refine ⟨m.fr, List.pairwise_append.2 ⟨p1, h2, fun x hx y hy k hk hk' => h1 y hy k ⟨x, hx, hk⟩ hk'⟩, fun x hx s hs k hk hk' => ?_, fun x hx => ?_, m.hs, fun x hx k hk => ?_, m.ns⟩
  · rcases List.mem_append.1 hx with hx | hx
    · exact m.xs _ (List.mem_cons_self ..) s hs k ⟨x, hx, hk⟩ hk'
    · exact m.xs x (List.mem_cons_of_mem _ hx) s hs k hk hk'
  · rcases List.mem_append.1 hx with hx | hx
    · exact p3 x hx
    · exact m.hx x (List.mem_cons_of_mem _ hx)
  · rcases List.mem_append.1 hx with hx | hx
    · exact m.nx _ (List.mem_cons_self ..) k ⟨x, hx, hk⟩
    · exact m.nx x (List.mem_cons_of_mem _ hx) k hk
theorem Mem.pack (m : Mem b (Xp ++ X) S w) : Mem b (RPack Xp :: X) S w := by
  obtain ⟨p1, h2, h3⟩ := List.pairwise_append.1 m.xx
  refine ⟨m.fr, List.pairwise_cons.2 ⟨fun y hy k hk hk' => ?_, h2⟩, fun x hx s hs k hk hk' => ?_, fun x hx => ?_, m.hs, fun x hx k hk => ?_, m.ns⟩
  · obtain ⟨x, hx, hk⟩ := hk
    exact h3 x hx y hy k hk hk'
  · rcases List.mem_cons.1 hx with rfl | hx
    · obtain ⟨x, hx, hk⟩ := hk
      exact m.xs x (List.mem_append_left _ hx) s hs k hk hk'
    · exact m.xs x (List.mem_append_right _ hx) s hs k hk hk'
  · rcases List.mem_cons.1 hx with rfl | hx
    · exact ⟨p1, fun x hx => m.hx x (List.mem_append_left _ hx)⟩
    · exact m.hx x (List.mem_append_right _ hx)
  · rcases List.mem_cons.1 hx with rfl | hx
    · obtain ⟨x, hx, hk⟩ := hk
      exact m.nx x (List.mem_append_left _ hx) k hk
    · exact m.nx x (List.mem_append_right _ hx) k hk
/-- two as one -/
theorem Mem.merge (m : Mem b (r1 :: r2 :: X) S w) (h : r1.holds w → r2.holds w → r.holds w) (hk : ∀ k, r.foot k → r1.foot k ∨ r2.foot k) : Mem b (r :: X) S w := by
  have m' := (Mem.pack (Xp := [r1, r2]) m)
  exact m'.asX (fun p => h (p.2 r1 (by simp)) (p.2 r2 (by simp))) (fun k hr => by
    rcases hk k hr with h | h
    · exact ⟨r1, by simp, h⟩
    · exact ⟨r2, by simp, h⟩)
end
/-! ### Judgements without a world -/
def HL (P : Program) (ops : Array Oper) (Q : Exit → Act → World → Prop) (N : Nat) (D : List Deferred) (l : List Oper) (ρ : Env) (b : Base) (X S : List Res) : Prop := ∀ w, Mem b X S w → WL P ops Q N D l ρ w
def HC (P : Program) (Q : Exit → Act → World → Prop) (N : Nat) (D : List Deferred) (c : Code) (ρ : Env) (b : Base) (X S : List Res) : Prop := ∀ w, Mem b X S w → WC P Q N D c ρ w
def HQ (Q : Exit → Act → World → Prop) (N : Nat) (D : List Deferred) (e : Exit) (ρ : Env) (b : Base) (X S : List Res) : Prop := ∀ w, Mem b X S w → WQ Q N D e ρ w
def XH (P : Program) (Q : Exit → Act → World → Prop) (N : Nat) (D : List Deferred) (ρ : Env) (b : Base) (X S : List Res) (op : Op) (ty : TypeId) (K : Value → List Res → List Res → Prop) : Prop :=
  ∀ w, Mem b X S w → XW P Q N D ρ w op ty fun v w' => ∃ X' S', Mem b X' S' w' ∧ K v X' S'
/-- a region that draws: what is known at its start is known up to its c-th operation that changes the world -/
def HT (P : Program) (ops : Array Oper) (Q : Exit → Act → World → Prop) (T : Nat → World → Prop) (N : Nat) (D : List Deferred) (k : Nat) (l : List (Option Nat × Oper)) (ρ : Env) (b : Base) (X S : List Res) : Prop :=
  ∀ w, Mem b X S w → WT P ops Q T N D k l ρ w
def HP (P : Program) (ops : Array Oper) (Q : Exit → Act → World → Prop) (T : Nat → World → Prop) (N : Nat) (D : List Deferred) (k : Nat) (p : PlanO) (ρ : Env) (b : Base) (X S : List Res) : Prop :=
  ∀ w, Mem b X S w → WP P ops Q T N D k p ρ w
def TT (b : Base) (X S : List Res) (c k : Nat) (w : World) : Prop := k ≤ c → Mem b X S w
/-- the things at a region's start are among those now -/
def Wk (X S X' S' : List Res) : Prop := (∃ p, X'.Perm (X ++ p)) ∧ ∀ s ∈ S, s ∈ S'
theorem Wk.mem {b : Base} {X S X' S' : List Res} {w : World} (h : Wk X S X' S') (m : Mem b X' S' w) : Mem b X S w := by
  obtain ⟨⟨p, hp⟩, hS⟩ := h
  exact (m.perm hp).dropX.subS hS
theorem wk (is js : List Nat) {X S X' S' p : List Res} (h : takeR is X' = some (X, p)) (h' : getR js S' = some S) : Wk X S X' S' := ⟨⟨p, takeR_perm _ _ _ _ h⟩, getR_sub _ _ _ h'⟩
/-! environments -/
def SubB : Env → Env → Prop
  | [], _ => True
  | (t, v) :: r, ρ => get ρ t = some v ∧ SubB r ρ
theorem SubB.sub : ∀ {ρ' ρ : Env}, SubB ρ' ρ → Sub ρ' ρ
  | [], _, _ => sub_nil
  | (t, v) :: r, _, h => sub_cons h.1 h.2.sub
theorem sub_app {r q ρ : Env} (hr : Sub r ρ) (hq : Sub q ρ) : Sub (r ++ q) ρ := by
  intro t u ht
  induction r with
  | nil => exact hq t u ht
  | cons p r ih =>
    obtain ⟨k, x⟩ := p
    simp only [List.cons_append, get] at ht
    cases hb : Nat.beq k t with
    | true =>
      refine hr t u ?_
      simp only [get, hb, cond_true] at ht ⊢
      exact ht
    | false =>
      rw [hb] at ht
      simp only [cond_false] at ht
      by_cases hg : ∃ y, get r t = some y
      · obtain ⟨y, hy⟩ := hg
        have e1 : get (r ++ q) t = get r t := by
          clear ih hr ht
          induction r with
          | nil => simp [get] at hy
          | cons p r ih =>
            obtain ⟨k, x⟩ := p
            simp only [List.cons_append, get] at hy ⊢
            cases hb : Nat.beq k t with
            | true => rfl
            | false =>
              rw [hb] at hy
              simp only [cond_false] at hy ⊢
              exact ih hy
        refine hr t u ?_
        simp only [get, hb, cond_false]
        rw [← e1]; exact ht
      · have e1 : get (r ++ q) t = get q t := by
          clear ih hr ht
          induction r with
          | nil => rfl
          | cons p r ih =>
            obtain ⟨k, x⟩ := p
            simp only [List.cons_append, get] at hg ⊢
            cases hb : Nat.beq k t with
            | true => rw [hb] at hg; exact absurd ⟨x, rfl⟩ hg
            | false =>
              rw [hb] at hg
              simp only [cond_false] at hg ⊢
              exact ih hg
        rw [e1] at ht
        exact hq t u ht
/-- the values of slots -/
def keepE : List Nat → Env → Env
  | [], _ => []
  | t :: r, ρ => match get ρ t with
    | some v => (t, v) :: keepE r ρ
    | none => keepE r ρ
theorem keepE_sub : ∀ (l : List Nat) (ρ : Env), Sub (keepE l ρ) ρ
  | [], _ => sub_nil
  | t :: r, ρ => by
    unfold keepE
    split
    · rename_i v h
      exact sub_cons h (keepE_sub r ρ)
    · exact keepE_sub r ρ
section
variable {P : Program} {ops : Array Oper} {Q : Exit → Act → World → Prop} {N : Nat} {D : List Deferred} {ρ ρ' : Env} {b : Base} {X X' X0 Xr S S' S0 : List Res} {rest : List Oper}
  {op : Op} {ty : TypeId} {pos : String} {af : Array Edge} {d : Nat} {v : Value} {c c' : Code} {e : Exit}
theorem hy (h : ∀ {w}, Mem b X S w → Yl P N D ρ w op ty v) (k : HL P ops Q N D rest ((d, v) :: ρ) b X S) (hd : d < N := by decide) : HL P ops Q N D (⟨some d, op, ty, pos, af, none⟩ :: rest) ρ b X S :=
  fun w m => nq (h m) (k w m) hd
theorem hyg {g gd : Nat} {want : Bool} {o : Oper} (ho : ops[g]? = some o) (hod : o.dst = some gd) (hb : get ρ gd = some (.bool want)) (h : ∀ {w}, Mem b X S w → Yl P N D ρ w op ty v)
    (k : HL P ops Q N D rest ((d, v) :: ρ) b X S) (hd : d < N := by decide) : HL P ops Q N D (⟨some d, op, ty, pos, af, some (g, want)⟩ :: rest) ρ b X S :=
  fun w m => ng ho hod hb (h m) (k w m) hd
theorem hx (h : XH P Q N D ρ b X S op ty fun v X' S' => HL P ops Q N D rest ((d, v) :: ρ) b X' S') (hd : d < N := by decide) : HL P ops Q N D (⟨some d, op, ty, pos, af, none⟩ :: rest) ρ b X S := fun w m => nx (fun a dst pos af g ha => Oper.wp_mono (by
  rintro a' w' ⟨v, rfl, X', S', m', hk⟩
  exact ⟨v, rfl, hk w' m'⟩) (h w m a dst pos af g ha)) hd
theorem hx0 (h : XH P Q N D ρ b X S op ty fun _ X' S' => HL P ops Q N D rest ρ b X' S') : HL P ops Q N D (⟨none, op, ty, pos, af, none⟩ :: rest) ρ b X S := fun w m => nx0 (fun a dst pos af g ha => Oper.wp_mono (by
  rintro a' w' ⟨v, rfl, X', S', m', hk⟩
  exact ⟨v, rfl, hk w' m'⟩) (h w m a dst pos af g ha))
theorem hxg {g gd : Nat} {want : Bool} {o : Oper} (ho : ops[g]? = some o) (hod : o.dst = some gd) (hb : get ρ gd = some (.bool want)) (h : XH P Q N D ρ b X S op ty fun v X' S' => HL P ops Q N D rest ((d, v) :: ρ) b X' S') (hd : d < N := by decide) :
    HL P ops Q N D (⟨some d, op, ty, pos, af, some (g, want)⟩ :: rest) ρ b X S := fun w m => nxg ho hod hb (fun a dst pos af g ha => Oper.wp_mono (by
  rintro a' w' ⟨v, rfl, X', S', m', hk⟩
  exact ⟨v, rfl, hk w' m'⟩) (h w m a dst pos af g ha)) hd
theorem hskip {g gd : Nat} {want b' : Bool} {o : Oper} (ho : ops[g]? = some o) (hod : o.dst = some gd) (hb : get ρ gd = some (.bool b')) (hne : b' ≠ want) (k : HL P ops Q N D rest ((d, undef) :: ρ) b X S) (hd : d < N := by decide) :
    HL P ops Q N D (⟨some d, op, ty, pos, af, some (g, want)⟩ :: rest) ρ b X S := fun w m => nskip ho hod hb hne (k w m) hd
theorem hskipU {g gd : Nat} {want : Bool} {o : Oper} (ho : ops[g]? = some o) (hod : o.dst = some gd) (hb : get ρ gd = some undef) (k : HL P ops Q N D rest ((d, undef) :: ρ) b X S) (hd : d < N := by decide) :
    HL P ops Q N D (⟨some d, op, ty, pos, af, some (g, want)⟩ :: rest) ρ b X S := fun w m => nskipU ho hod hb (k w m) hd
theorem hend (h : HQ Q N D .normal ρ b X S) : HL P ops Q N D [] ρ b X S := fun w m => nend (h w m)
theorem hseq (h : HC P (Exit.then (c'.wp P Q) Q) N D c ρ b X S) : HC P Q N D (.seq c c') ρ b X S := fun w m => cseq (h w m)
theorem hreg {id : Nat} {l : List Oper} (h : HL P l.toArray Q N D l ρ b X S) : HC P Q N D (.region id l.toArray false) ρ b X S := fun w m => creg (h w m)
theorem hcskip (h : HQ Q N D .normal ρ b X S) : HC P Q N D .skip ρ b X S := fun w m => cskip (h w m)
theorem hexit {id : Nat} (h : HQ Q N D (.exit id) ρ b X S) : HC P Q N D (.exit id) ρ b X S := fun w m => cexit (h w m)
theorem hret (h : HQ Q N D .ret ρ b X S) : HC P Q N D .ret ρ b X S := fun w m => cret (h w m)
theorem hblock {id : Nat} (h : HC P (Exit.inBlock id Q) N D c ρ b X S) : HC P Q N D (.block id c) ρ b X S := fun w m => cblock (h w m)
theorem hif {p : Prop} [Decidable p] {x : Operand} (hc : ev ρ x = some (.bool (decide p))) (ht : p → HC P Q N D c ρ b X S) (he : ¬ p → HC P Q N D c' ρ b X S) : HC P Q N D (.cond x c c') ρ b X S := fun w m => cif hc (fun h => ht h w m) (fun h => he h w m)
theorem hifb {q : Bool} {x : Operand} (hc : ev ρ x = some (.bool q)) (ht : q = true → HC P Q N D c ρ b X S) (he : q = false → HC P Q N D c' ρ b X S) : HC P Q N D (.cond x c c') ρ b X S := fun w m => cifb hc (fun h => ht h w m) (fun h => he h w m)
theorem hift {x : Operand} {q : Bool} (hc : ev ρ x = some (.bool q)) (hb : q = true) (ht : HC P Q N D c ρ b X S) : HC P Q N D (.cond x c c') ρ b X S := fun w m => cift hc hb (ht w m)
theorem hiff {x : Operand} {q : Bool} (hc : ev ρ x = some (.bool q)) (hb : q = false) (ht : HC P Q N D c' ρ b X S) : HC P Q N D (.cond x c c') ρ b X S := fun w m => ciff hc hb (ht w m)
theorem hthen (h : HC P Q N D c ρ b X S) : HQ (Exit.then (c.wp P Q) Q) N D .normal ρ b X S := h
theorem hthen_exit {K : Act → World → Prop} {id : Nat} (h : HQ Q N D (.exit id) ρ b X S) : HQ (Exit.then K Q) N D (.exit id) ρ b X S := h
theorem hthen_ret {K : Act → World → Prop} (h : HQ Q N D .ret ρ b X S) : HQ (Exit.then K Q) N D .ret ρ b X S := h
theorem hqblock {id : Nat} (h : HQ Q N D .normal ρ b X S) : HQ (Exit.inBlock id Q) N D .normal ρ b X S := h
theorem hqblock_exit {id : Nat} (h : HQ Q N D .normal ρ b X S) : HQ (Exit.inBlock id Q) N D (.exit id) ρ b X S := fun w m => qblock_exit (h w m)
theorem hqblock_exit' {id id' : Nat} (hne : id' ≠ id) (h : HQ Q N D (.exit id') ρ b X S) : HQ (Exit.inBlock id Q) N D (.exit id') ρ b X S := fun w m => qblock_exit' hne (h w m)
theorem hqblock_ret {id : Nat} (h : HQ Q N D .ret ρ b X S) : HQ (Exit.inBlock id Q) N D .ret ρ b X S := h
theorem hsub (hs : SubB ρ' ρ) (h : HQ Q N D e ρ' b X S) : HQ Q N D e ρ b X S := fun w m => qsub hs.sub (h w m)
/-- only these slots are kept -/
theorem hkeep (l : List Nat) (h : HQ Q N D e (keepE l ρ) b X S) : HQ Q N D e ρ b X S := fun w m => qsub (keepE_sub l ρ) (h w m)
theorem hmemL (h : ∀ w, Mem b X S w → Mem b X' S' w) (k : HL P ops Q N D rest ρ b X' S') : HL P ops Q N D rest ρ b X S := fun w m => k w (h w m)
theorem hmemC (h : ∀ w, Mem b X S w → Mem b X' S' w) (k : HC P Q N D c ρ b X' S') : HC P Q N D c ρ b X S := fun w m => k w (h w m)
theorem hmemQ (h : ∀ w, Mem b X S w → Mem b X' S' w) (k : HQ Q N D e ρ b X' S') : HQ Q N D e ρ b X S := fun w m => k w (h w m)
/-- what the memory tells -/
theorem hfactL {p : Prop} (h : ∀ {w}, Mem b X S w → p) (k : p → HL P ops Q N D rest ρ b X S) : HL P ops Q N D rest ρ b X S := fun w m => k (h m) w m
theorem hfactC {p : Prop} (h : ∀ {w}, Mem b X S w → p) (k : p → HC P Q N D c ρ b X S) : HC P Q N D c ρ b X S := fun w m => k (h m) w m
theorem hfactQ {p : Prop} (h : ∀ {w}, Mem b X S w → p) (k : p → HQ Q N D e ρ b X S) : HQ Q N D e ρ b X S := fun w m => k (h m) w m
theorem hsplit {p : Prop} [Decidable p] (gd : Nat) (hg : get ρ gd = some (.bool (decide p))) (ht : p → HL P ops Q N D rest ((gd, .bool true) :: ρ) b X S) (hf : ¬ p → HL P ops Q N D rest ((gd, .bool false) :: ρ) b X S) : HL P ops Q N D rest ρ b X S :=
  fun w m => nsplit gd hg (fun h => ht h w m) (fun h => hf h w m)
theorem hsplitb {q : Bool} (gd : Nat) (hg : get ρ gd = some (.bool q)) (ht : q = true → HL P ops Q N D rest ((gd, .bool true) :: ρ) b X S) (hf : q = false → HL P ops Q N D rest ((gd, .bool false) :: ρ) b X S) : HL P ops Q N D rest ρ b X S :=
  fun w m => nsplit (p := q = true) gd (by rw [hg]; cases q <;> rfl) (fun h => ht h w m) (fun h => hf (by simpa using h) w m)
/-- a loop; X1 i: what its rounds change -/
theorem hloop {ι : Type} (μ : ι → Nat) (R : ι → Env) (X1 S1 : ι → List Res) (I : ι → Prop) (i0 : ι) (ρk : Env) (hk : SubB ρk ρ) (is : List Nat) (hX : takeR is X = some (X1 i0, Xr)) (js : List Nat) (hS : getR js S = some (S1 i0)) (hI : I i0) (hs : SubB (R i0) ρ)
    (round : ∀ i, I i → HC P (Exit.then (fun a' w' => ∃ j, Ag N D (R j ++ ρk) a' ∧ Mem b (X1 j ++ Xr) (S1 j ++ S) w' ∧ I j ∧ μ j < μ i) Q) N D c (R i ++ ρk) b (X1 i ++ Xr) (S1 i ++ S)) : HC P Q N D (.loop c) ρ b X S := by
  intro w m
  have m' := (m.perm (takeR_perm _ _ _ _ hX)).subS (S' := S1 i0 ++ S) (fun s hs => by
    rcases List.mem_append.1 hs with h | h
    · exact getR_sub _ _ _ hS s h
    · exact h)
  refine cloop μ (fun i => R i ++ ρk) (fun i w => I i ∧ Mem b (X1 i ++ Xr) (S1 i ++ S) w) i0 ⟨hI, m'⟩ ?_ (fun i w hi a ha => Code.wp_mono (fun e a' w' q => by
    cases e <;> first | exact q | (obtain ⟨j, h1, h2, h3, h4⟩ := q; exact ⟨j, h1, ⟨h3, h2⟩, h4⟩)) (round i hi.1 w hi.2 a ha))
  exact sub_app hs.sub hk.sub
theorem hloop1 {α : Type} (μ : α → Nat) (R : α → Env) (X1 S1 : α → List Res) (I : α → Prop) (a0 : α) (ρk : Env) (hk : SubB ρk ρ) (is : List Nat) (hX : takeR is X = some (X1 a0, Xr)) (js : List Nat) (hS : getR js S = some (S1 a0)) (hI : I a0) (hs : SubB (R a0) ρ)
    (round : ∀ a, I a → HC P (Exit.then (fun a' w' => ∃ x, Ag N D (R x ++ ρk) a' ∧ Mem b (X1 x ++ Xr) (S1 x ++ S) w' ∧ I x ∧ μ x < μ a) Q) N D c (R a ++ ρk) b (X1 a ++ Xr) (S1 a ++ S)) : HC P Q N D (.loop c) ρ b X S :=
  hloop (ι := α) (fun i => μ i) (fun i => R i) (fun i => X1 i) (fun i => S1 i) (fun i => I i) a0 ρk hk is hX js hS hI hs fun i hi w m a ha => Code.wp_mono (fun e a' w' q => by
    cases e <;> first | exact q | (obtain ⟨x, h⟩ := q; exact ⟨x, h⟩)) (round i hi w m a ha)
theorem hnext1 {α : Type} {M : Nat} {μ : α → Nat} {R : α → Env} {X1 S1 : α → List Res} {Xr Sr : List Res} {ρ0 : Env} {I : α → Prop} (x : α) (hs : SubB (R x ++ ρ0) ρ) (is : List Nat) {Xz : List Res} (hX : takeR is X = some (X1 x ++ Xr, Xz)) (js : List Nat) (hS : getR js S = some (S1 x ++ Sr)) (hI : I x) (hlt : μ x < M) :
    HQ (Exit.then (fun a' w' => ∃ x, Ag N D (R x ++ ρ0) a' ∧ Mem b (X1 x ++ Xr) (S1 x ++ Sr) w' ∧ I x ∧ μ x < M) Q) N D .normal ρ b X S :=
  fun w m a ha => ⟨x, ha.sub hs.sub, ((m.perm (takeR_perm _ _ _ _ hX)).dropX).subS (getR_sub _ _ _ hS), hI, hlt⟩
theorem hloop2 {α β : Type} (μ : α → β → Nat) (R : α → β → Env) (X1 S1 : α → β → List Res) (I : α → β → Prop) (a0 : α) (b_0 : β) (ρk : Env) (hk : SubB ρk ρ) (is : List Nat) (hX : takeR is X = some (X1 a0 b_0, Xr)) (js : List Nat) (hS : getR js S = some (S1 a0 b_0)) (hI : I a0 b_0) (hs : SubB (R a0 b_0) ρ)
    (round : ∀ a b_, I a b_ → HC P (Exit.then (fun a' w' => ∃ x y, Ag N D (R x y ++ ρk) a' ∧ Mem b (X1 x y ++ Xr) (S1 x y ++ S) w' ∧ I x y ∧ μ x y < μ a b_) Q) N D c (R a b_ ++ ρk) b (X1 a b_ ++ Xr) (S1 a b_ ++ S)) : HC P Q N D (.loop c) ρ b X S :=
  hloop (ι := α × β) (fun i => μ i.1 i.2) (fun i => R i.1 i.2) (fun i => X1 i.1 i.2) (fun i => S1 i.1 i.2) (fun i => I i.1 i.2) (a0, b_0) ρk hk is hX js hS hI hs fun i hi w m a ha => Code.wp_mono (fun e a' w' q => by
    cases e <;> first | exact q | (obtain ⟨x, y, h⟩ := q; exact ⟨(x, y), h⟩)) (round i.1 i.2 hi w m a ha)
theorem hnext2 {α β : Type} {M : Nat} {μ : α → β → Nat} {R : α → β → Env} {X1 S1 : α → β → List Res} {Xr Sr : List Res} {ρ0 : Env} {I : α → β → Prop} (x : α) (y : β) (hs : SubB (R x y ++ ρ0) ρ) (is : List Nat) {Xz : List Res} (hX : takeR is X = some (X1 x y ++ Xr, Xz)) (js : List Nat) (hS : getR js S = some (S1 x y ++ Sr)) (hI : I x y) (hlt : μ x y < M) :
    HQ (Exit.then (fun a' w' => ∃ x y, Ag N D (R x y ++ ρ0) a' ∧ Mem b (X1 x y ++ Xr) (S1 x y ++ Sr) w' ∧ I x y ∧ μ x y < M) Q) N D .normal ρ b X S :=
  fun w m a ha => ⟨x, y, ha.sub hs.sub, ((m.perm (takeR_perm _ _ _ _ hX)).dropX).subS (getR_sub _ _ _ hS), hI, hlt⟩
theorem hloop3 {α β γ : Type} (μ : α → β → γ → Nat) (R : α → β → γ → Env) (X1 S1 : α → β → γ → List Res) (I : α → β → γ → Prop) (a0 : α) (b_0 : β) (c_0 : γ) (ρk : Env) (hk : SubB ρk ρ) (is : List Nat) (hX : takeR is X = some (X1 a0 b_0 c_0, Xr)) (js : List Nat) (hS : getR js S = some (S1 a0 b_0 c_0)) (hI : I a0 b_0 c_0) (hs : SubB (R a0 b_0 c_0) ρ)
    (round : ∀ a b_ c_, I a b_ c_ → HC P (Exit.then (fun a' w' => ∃ x y z, Ag N D (R x y z ++ ρk) a' ∧ Mem b (X1 x y z ++ Xr) (S1 x y z ++ S) w' ∧ I x y z ∧ μ x y z < μ a b_ c_) Q) N D c (R a b_ c_ ++ ρk) b (X1 a b_ c_ ++ Xr) (S1 a b_ c_ ++ S)) : HC P Q N D (.loop c) ρ b X S :=
  hloop (ι := α × β × γ) (fun i => μ i.1 i.2.1 i.2.2) (fun i => R i.1 i.2.1 i.2.2) (fun i => X1 i.1 i.2.1 i.2.2) (fun i => S1 i.1 i.2.1 i.2.2) (fun i => I i.1 i.2.1 i.2.2) (a0, b_0, c_0) ρk hk is hX js hS hI hs fun i hi w m a ha => Code.wp_mono (fun e a' w' q => by
    cases e <;> first | exact q | (obtain ⟨x, y, z, h⟩ := q; exact ⟨(x, y, z), h⟩)) (round i.1 i.2.1 i.2.2 hi w m a ha)
theorem hnext3 {α β γ : Type} {M : Nat} {μ : α → β → γ → Nat} {R : α → β → γ → Env} {X1 S1 : α → β → γ → List Res} {Xr Sr : List Res} {ρ0 : Env} {I : α → β → γ → Prop} (x : α) (y : β) (z : γ) (hs : SubB (R x y z ++ ρ0) ρ) (is : List Nat) {Xz : List Res} (hX : takeR is X = some (X1 x y z ++ Xr, Xz)) (js : List Nat) (hS : getR js S = some (S1 x y z ++ Sr)) (hI : I x y z) (hlt : μ x y z < M) :
    HQ (Exit.then (fun a' w' => ∃ x y z, Ag N D (R x y z ++ ρ0) a' ∧ Mem b (X1 x y z ++ Xr) (S1 x y z ++ Sr) w' ∧ I x y z ∧ μ x y z < M) Q) N D .normal ρ b X S :=
  fun w m a ha => ⟨x, y, z, ha.sub hs.sub, ((m.perm (takeR_perm _ _ _ _ hX)).dropX).subS (getR_sub _ _ _ hS), hI, hlt⟩
theorem hloop4 {α β γ δ : Type} (μ : α → β → γ → δ → Nat) (R : α → β → γ → δ → Env) (X1 S1 : α → β → γ → δ → List Res) (I : α → β → γ → δ → Prop) (a0 : α) (b_0 : β) (c_0 : γ) (d_0 : δ) (ρk : Env) (hk : SubB ρk ρ) (is : List Nat) (hX : takeR is X = some (X1 a0 b_0 c_0 d_0, Xr)) (js : List Nat) (hS : getR js S = some (S1 a0 b_0 c_0 d_0)) (hI : I a0 b_0 c_0 d_0) (hs : SubB (R a0 b_0 c_0 d_0) ρ)
    (round : ∀ a b_ c_ d_, I a b_ c_ d_ → HC P (Exit.then (fun a' w' => ∃ x y z u, Ag N D (R x y z u ++ ρk) a' ∧ Mem b (X1 x y z u ++ Xr) (S1 x y z u ++ S) w' ∧ I x y z u ∧ μ x y z u < μ a b_ c_ d_) Q) N D c (R a b_ c_ d_ ++ ρk) b (X1 a b_ c_ d_ ++ Xr) (S1 a b_ c_ d_ ++ S)) : HC P Q N D (.loop c) ρ b X S :=
  hloop (ι := α × β × γ × δ) (fun i => μ i.1 i.2.1 i.2.2.1 i.2.2.2) (fun i => R i.1 i.2.1 i.2.2.1 i.2.2.2) (fun i => X1 i.1 i.2.1 i.2.2.1 i.2.2.2) (fun i => S1 i.1 i.2.1 i.2.2.1 i.2.2.2) (fun i => I i.1 i.2.1 i.2.2.1 i.2.2.2) (a0, b_0, c_0, d_0) ρk hk is hX js hS hI hs fun i hi w m a ha => Code.wp_mono (fun e a' w' q => by
    cases e <;> first | exact q | (obtain ⟨x, y, z, u, h⟩ := q; exact ⟨(x, y, z, u), h⟩)) (round i.1 i.2.1 i.2.2.1 i.2.2.2 hi w m a ha)
theorem hnext4 {α β γ δ : Type} {M : Nat} {μ : α → β → γ → δ → Nat} {R : α → β → γ → δ → Env} {X1 S1 : α → β → γ → δ → List Res} {Xr Sr : List Res} {ρ0 : Env} {I : α → β → γ → δ → Prop} (x : α) (y : β) (z : γ) (u : δ) (hs : SubB (R x y z u ++ ρ0) ρ) (is : List Nat) {Xz : List Res} (hX : takeR is X = some (X1 x y z u ++ Xr, Xz)) (js : List Nat) (hS : getR js S = some (S1 x y z u ++ Sr)) (hI : I x y z u) (hlt : μ x y z u < M) :
    HQ (Exit.then (fun a' w' => ∃ x y z u, Ag N D (R x y z u ++ ρ0) a' ∧ Mem b (X1 x y z u ++ Xr) (S1 x y z u ++ Sr) w' ∧ I x y z u ∧ μ x y z u < M) Q) N D .normal ρ b X S :=
  fun w m a ha => ⟨x, y, z, u, ha.sub hs.sub, ((m.perm (takeR_perm _ _ _ _ hX)).dropX).subS (getR_sub _ _ _ hS), hI, hlt⟩
theorem hloop5 {α β γ δ ε : Type} (μ : α → β → γ → δ → ε → Nat) (R : α → β → γ → δ → ε → Env) (X1 S1 : α → β → γ → δ → ε → List Res) (I : α → β → γ → δ → ε → Prop) (a0 : α) (b_0 : β) (c_0 : γ) (d_0 : δ) (e_0 : ε) (ρk : Env) (hk : SubB ρk ρ) (is : List Nat) (hX : takeR is X = some (X1 a0 b_0 c_0 d_0 e_0, Xr)) (js : List Nat) (hS : getR js S = some (S1 a0 b_0 c_0 d_0 e_0)) (hI : I a0 b_0 c_0 d_0 e_0) (hs : SubB (R a0 b_0 c_0 d_0 e_0) ρ)
    (round : ∀ a b_ c_ d_ e_, I a b_ c_ d_ e_ → HC P (Exit.then (fun a' w' => ∃ x y z u v_, Ag N D (R x y z u v_ ++ ρk) a' ∧ Mem b (X1 x y z u v_ ++ Xr) (S1 x y z u v_ ++ S) w' ∧ I x y z u v_ ∧ μ x y z u v_ < μ a b_ c_ d_ e_) Q) N D c (R a b_ c_ d_ e_ ++ ρk) b (X1 a b_ c_ d_ e_ ++ Xr) (S1 a b_ c_ d_ e_ ++ S)) : HC P Q N D (.loop c) ρ b X S :=
  hloop (ι := α × β × γ × δ × ε) (fun i => μ i.1 i.2.1 i.2.2.1 i.2.2.2.1 i.2.2.2.2) (fun i => R i.1 i.2.1 i.2.2.1 i.2.2.2.1 i.2.2.2.2) (fun i => X1 i.1 i.2.1 i.2.2.1 i.2.2.2.1 i.2.2.2.2) (fun i => S1 i.1 i.2.1 i.2.2.1 i.2.2.2.1 i.2.2.2.2) (fun i => I i.1 i.2.1 i.2.2.1 i.2.2.2.1 i.2.2.2.2) (a0, b_0, c_0, d_0, e_0) ρk hk is hX js hS hI hs fun i hi w m a ha => Code.wp_mono (fun e a' w' q => by
    cases e <;> first | exact q | (obtain ⟨x, y, z, u, v_, h⟩ := q; exact ⟨(x, y, z, u, v_), h⟩)) (round i.1 i.2.1 i.2.2.1 i.2.2.2.1 i.2.2.2.2 hi w m a ha)
theorem hnext5 {α β γ δ ε : Type} {M : Nat} {μ : α → β → γ → δ → ε → Nat} {R : α → β → γ → δ → ε → Env} {X1 S1 : α → β → γ → δ → ε → List Res} {Xr Sr : List Res} {ρ0 : Env} {I : α → β → γ → δ → ε → Prop} (x : α) (y : β) (z : γ) (u : δ) (v_ : ε) (hs : SubB (R x y z u v_ ++ ρ0) ρ) (is : List Nat) {Xz : List Res} (hX : takeR is X = some (X1 x y z u v_ ++ Xr, Xz)) (js : List Nat) (hS : getR js S = some (S1 x y z u v_ ++ Sr)) (hI : I x y z u v_) (hlt : μ x y z u v_ < M) :
    HQ (Exit.then (fun a' w' => ∃ x y z u v_, Ag N D (R x y z u v_ ++ ρ0) a' ∧ Mem b (X1 x y z u v_ ++ Xr) (S1 x y z u v_ ++ Sr) w' ∧ I x y z u v_ ∧ μ x y z u v_ < M) Q) N D .normal ρ b X S :=
  fun w m a ha => ⟨x, y, z, u, v_, ha.sub hs.sub, ((m.perm (takeR_perm _ _ _ _ hX)).dropX).subS (getR_sub _ _ _ hS), hI, hlt⟩
theorem hloop6 {α β γ δ ε ζ : Type} (μ : α → β → γ → δ → ε → ζ → Nat) (R : α → β → γ → δ → ε → ζ → Env) (X1 S1 : α → β → γ → δ → ε → ζ → List Res) (I : α → β → γ → δ → ε → ζ → Prop) (a0 : α) (b_0 : β) (c_0 : γ) (d_0 : δ) (e_0 : ε) (f_0 : ζ) (ρk : Env) (hk : SubB ρk ρ) (is : List Nat) (hX : takeR is X = some (X1 a0 b_0 c_0 d_0 e_0 f_0, Xr)) (js : List Nat) (hS : getR js S = some (S1 a0 b_0 c_0 d_0 e_0 f_0)) (hI : I a0 b_0 c_0 d_0 e_0 f_0) (hs : SubB (R a0 b_0 c_0 d_0 e_0 f_0) ρ)
    (round : ∀ a b_ c_ d_ e_ f_, I a b_ c_ d_ e_ f_ → HC P (Exit.then (fun a' w' => ∃ x y z u v_ t_, Ag N D (R x y z u v_ t_ ++ ρk) a' ∧ Mem b (X1 x y z u v_ t_ ++ Xr) (S1 x y z u v_ t_ ++ S) w' ∧ I x y z u v_ t_ ∧ μ x y z u v_ t_ < μ a b_ c_ d_ e_ f_) Q) N D c (R a b_ c_ d_ e_ f_ ++ ρk) b (X1 a b_ c_ d_ e_ f_ ++ Xr) (S1 a b_ c_ d_ e_ f_ ++ S)) : HC P Q N D (.loop c) ρ b X S :=
  hloop (ι := α × β × γ × δ × ε × ζ) (fun i => μ i.1 i.2.1 i.2.2.1 i.2.2.2.1 i.2.2.2.2.1 i.2.2.2.2.2) (fun i => R i.1 i.2.1 i.2.2.1 i.2.2.2.1 i.2.2.2.2.1 i.2.2.2.2.2) (fun i => X1 i.1 i.2.1 i.2.2.1 i.2.2.2.1 i.2.2.2.2.1 i.2.2.2.2.2) (fun i => S1 i.1 i.2.1 i.2.2.1 i.2.2.2.1 i.2.2.2.2.1 i.2.2.2.2.2) (fun i => I i.1 i.2.1 i.2.2.1 i.2.2.2.1 i.2.2.2.2.1 i.2.2.2.2.2) (a0, b_0, c_0, d_0, e_0, f_0) ρk hk is hX js hS hI hs fun i hi w m a ha => Code.wp_mono (fun e a' w' q => by
    cases e <;> first | exact q | (obtain ⟨x, y, z, u, v_, t_, h⟩ := q; exact ⟨(x, y, z, u, v_, t_), h⟩)) (round i.1 i.2.1 i.2.2.1 i.2.2.2.1 i.2.2.2.2.1 i.2.2.2.2.2 hi w m a ha)
theorem hnext6 {α β γ δ ε ζ : Type} {M : Nat} {μ : α → β → γ → δ → ε → ζ → Nat} {R : α → β → γ → δ → ε → ζ → Env} {X1 S1 : α → β → γ → δ → ε → ζ → List Res} {Xr Sr : List Res} {ρ0 : Env} {I : α → β → γ → δ → ε → ζ → Prop} (x : α) (y : β) (z : γ) (u : δ) (v_ : ε) (t_ : ζ) (hs : SubB (R x y z u v_ t_ ++ ρ0) ρ) (is : List Nat) {Xz : List Res} (hX : takeR is X = some (X1 x y z u v_ t_ ++ Xr, Xz)) (js : List Nat) (hS : getR js S = some (S1 x y z u v_ t_ ++ Sr)) (hI : I x y z u v_ t_) (hlt : μ x y z u v_ t_ < M) :
    HQ (Exit.then (fun a' w' => ∃ x y z u v_ t_, Ag N D (R x y z u v_ t_ ++ ρ0) a' ∧ Mem b (X1 x y z u v_ t_ ++ Xr) (S1 x y z u v_ t_ ++ Sr) w' ∧ I x y z u v_ t_ ∧ μ x y z u v_ t_ < M) Q) N D .normal ρ b X S :=
  fun w m a ha => ⟨x, y, z, u, v_, t_, ha.sub hs.sub, ((m.perm (takeR_perm _ _ _ _ hX)).dropX).subS (getR_sub _ _ _ hS), hI, hlt⟩
theorem hloop7 {α β γ δ ε ζ η : Type} (μ : α → β → γ → δ → ε → ζ → η → Nat) (R : α → β → γ → δ → ε → ζ → η → Env) (X1 S1 : α → β → γ → δ → ε → ζ → η → List Res) (I : α → β → γ → δ → ε → ζ → η → Prop) (a0 : α) (b_0 : β) (c_0 : γ) (d_0 : δ) (e_0 : ε) (f_0 : ζ) (g_0 : η) (ρk : Env) (hk : SubB ρk ρ) (is : List Nat) (hX : takeR is X = some (X1 a0 b_0 c_0 d_0 e_0 f_0 g_0, Xr)) (js : List Nat) (hS : getR js S = some (S1 a0 b_0 c_0 d_0 e_0 f_0 g_0)) (hI : I a0 b_0 c_0 d_0 e_0 f_0 g_0) (hs : SubB (R a0 b_0 c_0 d_0 e_0 f_0 g_0) ρ)
    (round : ∀ a b_ c_ d_ e_ f_ g_, I a b_ c_ d_ e_ f_ g_ → HC P (Exit.then (fun a' w' => ∃ x y z u v_ t_ s_, Ag N D (R x y z u v_ t_ s_ ++ ρk) a' ∧ Mem b (X1 x y z u v_ t_ s_ ++ Xr) (S1 x y z u v_ t_ s_ ++ S) w' ∧ I x y z u v_ t_ s_ ∧ μ x y z u v_ t_ s_ < μ a b_ c_ d_ e_ f_ g_) Q) N D c (R a b_ c_ d_ e_ f_ g_ ++ ρk) b (X1 a b_ c_ d_ e_ f_ g_ ++ Xr) (S1 a b_ c_ d_ e_ f_ g_ ++ S)) : HC P Q N D (.loop c) ρ b X S :=
  hloop (ι := α × β × γ × δ × ε × ζ × η) (fun i => μ i.1 i.2.1 i.2.2.1 i.2.2.2.1 i.2.2.2.2.1 i.2.2.2.2.2.1 i.2.2.2.2.2.2) (fun i => R i.1 i.2.1 i.2.2.1 i.2.2.2.1 i.2.2.2.2.1 i.2.2.2.2.2.1 i.2.2.2.2.2.2) (fun i => X1 i.1 i.2.1 i.2.2.1 i.2.2.2.1 i.2.2.2.2.1 i.2.2.2.2.2.1 i.2.2.2.2.2.2) (fun i => S1 i.1 i.2.1 i.2.2.1 i.2.2.2.1 i.2.2.2.2.1 i.2.2.2.2.2.1 i.2.2.2.2.2.2) (fun i => I i.1 i.2.1 i.2.2.1 i.2.2.2.1 i.2.2.2.2.1 i.2.2.2.2.2.1 i.2.2.2.2.2.2) (a0, b_0, c_0, d_0, e_0, f_0, g_0) ρk hk is hX js hS hI hs fun i hi w m a ha => Code.wp_mono (fun e a' w' q => by
    cases e <;> first | exact q | (obtain ⟨x, y, z, u, v_, t_, s_, h⟩ := q; exact ⟨(x, y, z, u, v_, t_, s_), h⟩)) (round i.1 i.2.1 i.2.2.1 i.2.2.2.1 i.2.2.2.2.1 i.2.2.2.2.2.1 i.2.2.2.2.2.2 hi w m a ha)
theorem hnext7 {α β γ δ ε ζ η : Type} {M : Nat} {μ : α → β → γ → δ → ε → ζ → η → Nat} {R : α → β → γ → δ → ε → ζ → η → Env} {X1 S1 : α → β → γ → δ → ε → ζ → η → List Res} {Xr Sr : List Res} {ρ0 : Env} {I : α → β → γ → δ → ε → ζ → η → Prop} (x : α) (y : β) (z : γ) (u : δ) (v_ : ε) (t_ : ζ) (s_ : η) (hs : SubB (R x y z u v_ t_ s_ ++ ρ0) ρ) (is : List Nat) {Xz : List Res} (hX : takeR is X = some (X1 x y z u v_ t_ s_ ++ Xr, Xz)) (js : List Nat) (hS : getR js S = some (S1 x y z u v_ t_ s_ ++ Sr)) (hI : I x y z u v_ t_ s_) (hlt : μ x y z u v_ t_ s_ < M) :
    HQ (Exit.then (fun a' w' => ∃ x y z u v_ t_ s_, Ag N D (R x y z u v_ t_ s_ ++ ρ0) a' ∧ Mem b (X1 x y z u v_ t_ s_ ++ Xr) (S1 x y z u v_ t_ s_ ++ Sr) w' ∧ I x y z u v_ t_ s_ ∧ μ x y z u v_ t_ s_ < M) Q) N D .normal ρ b X S :=
  fun w m a ha => ⟨x, y, z, u, v_, t_, s_, ha.sub hs.sub, ((m.perm (takeR_perm _ _ _ _ hX)).dropX).subS (getR_sub _ _ _ hS), hI, hlt⟩
/-- what is said behind a piece of code -/
theorem hcut {ι : Type} (R : ι → Env) (X1 S1 : ι → List Res) (I : ι → Prop) (h : HC P (CutQ N D R fun i w => Mem b (X1 i) (S1 i) w ∧ I i) N D c ρ b X S) (k : ∀ i, I i → HQ Q N D .normal (R i) b (X1 i) (S1 i)) : HC P Q N D c ρ b X S :=
  fun w m => ccut R _ (h w m) fun i w' hi => k i hi.2 w' hi.1
theorem hqcut {ι : Type} {R : ι → Env} {X1 S1 : ι → List Res} {I : ι → Prop} (i : ι) (hs : SubB (R i) ρ) (is : List Nat) {Xz : List Res} (hX : takeR is X = some (X1 i, Xz)) (js : List Nat) (hS : getR js S = some (S1 i)) (hI : I i) :
    HQ (CutQ N D R fun i w => Mem b (X1 i) (S1 i) w ∧ I i) N D .normal ρ b X S :=
  fun w m => qcut i hs.sub ⟨((m.perm (takeR_perm _ _ _ _ hX)).dropX).subS (getR_sub _ _ _ hS), hI⟩
end
/-! ### What changes memory -/
section
variable {P : Program} {Q : Exit → Act → World → Prop} {N : Nat} {D : List Deferred} {ρ : Env} {b : Base} {X X' X0 Xr S S' S0 : List Res} {ty t u e : TypeId} {x y : Operand} {v : Value} {K : Value → List Res → List Res → Prop}
theorem xh_of {op : Op} (h : ∀ w, Mem b X S w → XW P Q N D ρ w op ty fun v w' => ∃ X' S', Mem b X' S' w' ∧ K v X' S') : XH P Q N D ρ b X S op ty K := h
theorem xh_y {op : Op} (h : ∀ {w}, Mem b X S w → Yl P N D ρ w op ty v) (k : K v X S) : XH P Q N D ρ b X S op ty K := fun w m => x_of_y (h m) ⟨X, S, m, k⟩
theorem xh_box (hx : ev ρ x = some v) (k : ∀ g, K (.pointer (some ⟨g, 0, none⟩)) (RBlk g t v.cells.toList :: X) S) : XH P Q N D ρ b X S (.box t x) ty K := fun w m => x_box hx fun g w' hg hf hb => ⟨_, _, m.addX (r' := RBlk g t _) hf hb (fun i hi => Nat.le_trans hg (Nat.le_of_eq (Eq.symm hi))), k g⟩
theorem xh_alloc {z : Value} {sz bytes : Nat} (hT : TI P t z sz bytes) (k : ∀ g, K (.pointer (some ⟨g, 0, none⟩)) (RBlk g t z.cells.toList :: X) S) : XH P Q N D ρ b X S (.alloc t) ty K := fun w m => x_alloc hT fun g w' hg hf hb => ⟨_, _, m.addX (r' := RBlk g t _) hf hb (fun i hi => Nat.le_trans hg (Nat.le_of_eq (Eq.symm hi))), k g⟩
theorem xh_bsl {z : Value} {sz bytes n : Nat} {parts : List (Nat × Operand)} {vs : List Value} (ht : P.underlying t = some (.slice e)) (hT : TI P e z sz bytes) (hv : evs ρ (parts.map (·.2)) = some vs) (hi : parts.map (·.1) = List.range' 0 n) (hl : vs.length = n)
    (hc : ∀ v ∈ vs, v.cells.size = sz) (h0 : n * sz ≠ 0) (hsm : n * sz ≤ 16777216)
    (k : ∀ g, K (.slice (some ⟨g, 0, none⟩) n n) (ROwn e sz (.slice (some ⟨g, 0, none⟩) n n) n (vs.flatMap (·.cells.toList)) :: X) S) : XH P Q N D ρ b X S (.buildSlice t n parts.toArray) ty K := fun w m => x_bsl ht hT hv hi hl hc h0 hsm fun g w' hg hf hb => ⟨_, _, m.addX (r' := ROwn e sz (.slice (some ⟨g, 0, none⟩) n n) n (vs.flatMap (·.cells.toList))) hf (by
    have hlen : (vs.flatMap (·.cells.toList)).length = n * sz := by
      subst hl
      clear hv hi hsm h0 hb k
      induction vs with
      | nil => simp
      | cons a r ih =>
        have h1 := hc a (by simp)
        have h2 := ih (fun v hv => hc v (by simp [hv]))
        simp only [List.flatMap_cons, List.length_append, Array.length_toList, h1, h2, List.length_cons, Nat.add_mul]
        omega
    have := Own.made (base := 0) hb (Nat.zero_le _) (Nat.le_refl n) (by unfold maxLen; have : n ≤ n * sz := Nat.le_mul_of_pos_right _ (Nat.pos_of_ne_zero (fun e => h0 (by rw [e, Nat.mul_zero]))); omega) hlen
    rwa [List.take_of_length_le (by omega)] at this) (fun i hi => Nat.le_trans hg (Nat.le_of_eq (Eq.symm hi))), k g⟩
theorem xh_app {sz bytes n m : Nat} {src z : Value} {xs news : List Value} {du : TypeDesc} (i : Nat) (hi : X[i]? = some (ROwn e sz v n xs)) (hx : ev ρ x = some v) (hy : ev ρ y = some src) (ht : P.underlying t = some (.slice e)) (hu : P.underlying u = some du) (hnu : du = .slice e ∨ du = .string)
    (hT : TI P e z sz bytes) (hz : z.cells.size = sz) (hs : ∀ {w}, Mem b X S w → Src P w sz m src news) (h1 : ∀ u ∈ news, u.oneCell' = true) (hm : n + m ≤ maxLen) (hb : (n + m) * bytes ≤ 140737488355328)
    (k : ∀ v', K v' (ROwn e sz v' (n + m) (xs ++ news) :: X.eraseIdx i) S) : XH P Q N D ρ b X S (.call ⟨.builtin .append, #[x, y], #[t, u]⟩) ty K := fun w m => x_app hx hy ht hu hnu hT hz (m.own i hi) (hs m) h1 hm hb (Nat.zero_le _) fun v' w' ho hf hk => ⟨_, _, by
    have m' := m.perm (takeR_perm [i] X [ROwn e sz v n xs] (X.eraseIdx i) (by simp [takeR, hi]))
    exact m'.change hf ho hk, k v'⟩
theorem xh_st1 {g o : Nat} {bt : TypeId} {cs : List Value} (i : Nat) (hi : X[i]? = some (RBlk g bt cs)) (hx : ev ρ x = some (.pointer (some ⟨g, o, none⟩))) (hy : ev ρ y = some v) (hs : szB P t = some 1) (hv : v.oneCell' = true) (ho : o < cs.length)
    (k : K undef (RBlk g bt (cs.set o v) :: X.eraseIdx i) S) : XH P Q N D ρ b X S (.store t x y) ty K := fun w m => x_st1 hx hy hs hv (m.blk i hi) ho fun w' hf hb hsz => ⟨_, _, by
    have m' := m.perm (takeR_perm [i] X [RBlk g bt cs] (X.eraseIdx i) (by simp [takeR, hi]))
    exact m'.change hf hb (fun k hk => .inl hk), k⟩
theorem xh_st1a {g o j : Nat} {bt : TypeId} {cs : List Value} (i : Nat) (hi : X[i]? = some (RBlk g bt cs)) (hx : ev ρ x = some (.pointer (some ((⟨g, o, none⟩ : Addr).add j)))) (hy : ev ρ y = some v) (hs : szB P t = some 1) (hv : v.oneCell' = true) (ho : o + j < cs.length)
    (k : K undef (RBlk g bt (cs.set (o + j) v) :: X.eraseIdx i) S) : XH P Q N D ρ b X S (.store t x y) ty K := xh_st1 i hi (by rw [hx, addr_add]) hy hs hv ho k
theorem xh_stN {g o sz : Nat} {bt : TypeId} {cs vs : List Value} (i : Nat) (hi : X[i]? = some (RBlk g bt cs)) (hx : ev ρ x = some (.pointer (some ⟨g, o, none⟩))) (hy : ev ρ y = some (.agg vs.toArray)) (hs : szB P t = some sz) (hl : vs.length = sz) (hv : ∀ v ∈ vs, v.oneCell' = true) (ho : o + sz ≤ cs.length)
    (k : K undef (RBlk g bt (splice cs o vs) :: X.eraseIdx i) S) : XH P Q N D ρ b X S (.store t x y) ty K := fun w m => x_stN hx hy hs hl hv (m.blk i hi) ho fun w' hf hb hsz => ⟨_, _, by
    have m' := m.perm (takeR_perm [i] X [RBlk g bt cs] (X.eraseIdx i) (by simp [takeR, hi]))
    exact m'.change hf hb (fun k hk => .inl hk), k⟩
theorem xh_stNa {g o j sz : Nat} {bt : TypeId} {cs vs : List Value} (i : Nat) (hi : X[i]? = some (RBlk g bt cs)) (hx : ev ρ x = some (.pointer (some ((⟨g, o, none⟩ : Addr).add j)))) (hy : ev ρ y = some (.agg vs.toArray)) (hs : szB P t = some sz) (hl : vs.length = sz) (hv : ∀ v ∈ vs, v.oneCell' = true) (ho : o + j + sz ≤ cs.length)
    (k : K undef (RBlk g bt (splice cs (o + j) vs) :: X.eraseIdx i) S) : XH P Q N D ρ b X S (.store t x y) ty K := xh_stN i hi (by rw [hx, addr_add]) hy hs hl hv ho k
theorem xh_stA {g n : Nat} {bt : TypeId} {cs vs : List Value} (i : Nat) (hi : X[i]? = some (RBlk g bt cs)) (hx : ev ρ x = some (.pointer (some ⟨g, 0, none⟩))) (hy : ev ρ y = some (.agg vs.toArray)) (hs : szB P t = some n) (hl : vs.length = n) (h1 : ∀ u ∈ vs, u.oneCell' = true) (hcl : cs.length = n)
    (k : K undef (RBlk g bt vs :: X.eraseIdx i) S) : XH P Q N D ρ b X S (.store t x y) ty K := xh_stN i hi hx hy hs hl h1 (by omega) (by rwa [splice_all (by omega)])
theorem xh_stO {A : Option Addr} {n c sz j : Nat} {xs : List Value} (i : Nat) (hi : X[i]? = some (ROwn e sz (.slice A n c) n xs)) (hx : ev ρ x = some (.pointer (some ((A.getD d0).add j)))) (hy : ev ρ y = some v) (hs : szB P t = some 1) (hv : v.oneCell' = true) (hj : j < n * sz)
    (k : K undef (ROwn e sz (.slice A n c) n (xs.set j v) :: X.eraseIdx i) S) : XH P Q N D ρ b X S (.store t x y) ty K := fun w m => x_stO hx hy hs hv (m.own i hi) hj fun w' hf hb hsz => ⟨_, _, by
    have m' := m.perm (takeR_perm [i] X [ROwn e sz (.slice A n c) n xs] (X.eraseIdx i) (by simp [takeR, hi]))
    exact m'.change hf hb (fun k hk => .inl hk), k⟩
theorem xh_s2b {s : ByteArray} {td : TypeDesc} {t' : TypeId} (hx : ev ρ x = some (.string s)) (ht : P.underlying t = some td) (ht' : P.underlying t' = some (.slice e)) (he : P.underlying e = some (.int .u8)) (hm : (bytesOf s).length ≤ maxLen)
    (k : ∀ v, K v (ROwn e 1 v (bytesOf s).length (b8s (bytesOf s)) :: X) S) : XH P Q N D ρ b X S (.convert t t' x) ty K := fun w m => x_s2b hx ht ht' he hm fun v w' hf ho => ⟨_, _, m.addX (r' := ROwn e 1 v (bytesOf s).length (b8s (bytesOf s))) hf ho.base0 (fun k hk => (ho.from hk).1), k v⟩
/-- a contract: X0: what the callee may change; S0: what it reads -/
def Con (P : Program) (f : Nat) (args : List Value) (X0 S0 : List Res) (R : Value → List Res → List Res → Prop) : Prop :=
  ∀ w, Mem ⟨w, feet X0, feet S0⟩ X0 S0 w → Calls P f args.toArray w fun e w' => ∃ v X' S', e = .returned v ∧ R v X' S' ∧ Mem ⟨w, feet X0, feet S0⟩ X' S' w'
def RB (b : Base) (R : Value → List Res → List Res → Prop) : Ending → World → Prop := fun e w' => ∃ v X' S', e = .returned v ∧ R v X' S' ∧ Mem b X' S' w'
theorem xh_call {f : Nat} {l : List Operand} {vs : List Value} {tys : Array TypeId} {R : Value → List Res → List Res → Prop} (hv : evs ρ l = some vs) (hf : ∀ args w, (callFunc f args).run P w = .ok (.enter f args) w)
    (hc : Con P f vs X0 S0 R) (is : List Nat) (hX : takeR is X = some (X0, Xr)) (js : List Nat) (hS : getR js S = some S0) (k : ∀ v X' S', R v X' S' → K v (X' ++ Xr) (S' ++ S)) : XH P Q N D ρ b X S (.call ⟨.value (.func f), l.toArray, tys⟩) ty K := fun w m => by
  have m1 := m.perm (takeR_perm _ _ _ _ hX)
  refine x_call hv hf (hc w (m1.part (getR_sub _ _ _ hS))) ?_
  rintro e w' ⟨v, X', S', rfl, hR, m'⟩
  exact ⟨v, rfl, _, _, m1.frame (getR_sub _ _ _ hS) m', k v X' S' hR⟩
theorem xh_callv {f : Nat} {l : List Operand} {vs first cap : List Value} {tys : Array TypeId} {R : Value → List Res → List Res → Prop} (hx : ev ρ x = some (.func (.func f) first.toArray cap.toArray)) (hv : evs ρ l = some vs) (hf : ∀ args w, (callFunc f args).run P w = .ok (.enter f args) w)
    (hc : Con P f (first ++ vs ++ cap) X0 S0 R) (is : List Nat) (hX : takeR is X = some (X0, Xr)) (js : List Nat) (hS : getR js S = some S0) (k : ∀ v X' S', R v X' S' → K v (X' ++ Xr) (S' ++ S)) : XH P Q N D ρ b X S (.call ⟨.value x, l.toArray, tys⟩) ty K := fun w m => by
  have m1 := m.perm (takeR_perm _ _ _ _ hX)
  refine x_callv hx hv hf (hc w (m1.part (getR_sub _ _ _ hS))) ?_
  rintro e w' ⟨v, X', S', rfl, hR, m'⟩
  exact ⟨v, rfl, _, _, m1.frame (getR_sub _ _ _ hS) m', k v X' S' hR⟩
end
/-- what is one's own, lent to be read -/
inductive View : Res → Res → Prop
  | own {e : TypeId} {sz n c : Nat} {A : Option Addr} {xs : List Value} : View (ROwn e sz (.slice A n c) n xs) (RRd sz A n xs)
  | blk {g sz n : Nat} {t : TypeId} {cs : List Value} (h : cs.length = n * sz) : View (RBlk g t cs) (RRd sz (some ⟨g, 0, none⟩) n cs)
  | same {r : Res} : View r r
  | of {r r' : Res} (h : ∀ w, r.holds w → r'.holds w) (hk : ∀ k, r'.foot k → r.foot k) : View r r'
theorem View.ok {r r' : Res} (h : View r r') : (∀ w, r.holds w → r'.holds w) ∧ ∀ k, r'.foot k → r.foot k := by
  cases h with
  | own =>
    refine ⟨fun w h => (Own.rd h).2.2, fun k hk => ?_⟩
    obtain ⟨_, a, rfl, rfl⟩ := hk
    rfl
  | blk hl => exact ⟨fun w h => Rd.of_blk h hl, fun k hk => by obtain ⟨_, a, ha, rfl⟩ := hk; cases ha; rfl⟩
  | same => exact ⟨fun _ h => h, fun _ h => h⟩
  | of h hk => exact ⟨h, hk⟩
inductive Lend (X S : List Res) : List Res → Prop
  | nil : Lend X S []
  | s {r : Res} {rest : List Res} (j : Nat) (h : S[j]? = some r) (t : Lend X S rest) : Lend X S (r :: rest)
  | x {r r' : Res} {rest : List Res} (i : Nat) (h : X[i]? = some r') (hv : View r' r) (t : Lend X S rest) : Lend X S (r :: rest)
theorem Lend.ok {X S S0 : List Res} (h : Lend X S S0) : ∀ s ∈ S0, s ∈ S ∨ ∃ x ∈ X, View x s := by
  induction h with
  | nil => simp
  | s j h t ih =>
    intro s hs
    rcases List.mem_cons.1 hs with rfl | hs
    · exact .inl (List.mem_of_getElem? h)
    · exact ih s hs
  | x i h hv t ih =>
    intro s hs
    rcases List.mem_cons.1 hs with rfl | hs
    · exact .inr ⟨_, List.mem_of_getElem? h, hv⟩
    · exact ih s hs
theorem Mem.lent {b : Base} {X0 Xr S S0 : List Res} {w : World} (m : Mem b (X0 ++ Xr) S w) (hl : Lend Xr S S0) : Mem ⟨w, feet X0, feet S0⟩ X0 S0 w := by
  obtain ⟨h0, hr, h0r⟩ := List.pairwise_append.1 m.xx
  refine .start h0 (fun x hx s hs k hk hk' => ?_) (fun x hx => m.hx x (List.mem_append_left _ hx)) (fun s hs => ?_)
  · rcases hl.ok s hs with h | ⟨y, hy, hv⟩
    · exact m.xs x (List.mem_append_left _ hx) s h k hk hk'
    · exact h0r x hx y hy k hk (hv.ok.2 k hk')
  · rcases hl.ok s hs with h | ⟨y, hy, hv⟩
    · exact m.hs s h
    · exact hv.ok.1 _ (m.hx y (List.mem_append_right _ hy))
section
variable {P : Program} {Q : Exit → Act → World → Prop} {N : Nat} {D : List Deferred} {ρ : Env} {b : Base} {X X' X0 Xr S S' S0 : List Res} {ty t u e : TypeId} {x y : Operand} {v : Value} {K : Value → List Res → List Res → Prop}
theorem xh_calll {f : Nat} {l : List Operand} {vs : List Value} {tys : Array TypeId} {R : Value → List Res → List Res → Prop} (hv : evs ρ l = some vs) (hf : ∀ args w, (callFunc f args).run P w = .ok (.enter f args) w)
    (hc : Con P f vs X0 S0 R) (is : List Nat) (hX : takeR is X = some (X0, Xr)) (hl : Lend Xr S S0) (k : ∀ v X' S', R v X' S' → S' = [] ∧ K v (X' ++ Xr) S) : XH P Q N D ρ b X S (.call ⟨.value (.func f), l.toArray, tys⟩) ty K := fun w m => by
  have m1 := m.perm (takeR_perm _ _ _ _ hX)
  refine x_call hv hf (hc w (m1.lent hl)) ?_
  rintro e w' ⟨v, X', S', rfl, hR, m'⟩
  obtain ⟨rfl, hk⟩ := k v X' S' hR
  have m2 : Mem ⟨w, feet X0, feet []⟩ X' [] w' := ⟨m'.fr, m'.xx, by simp, m'.hx, by simp, m'.nx, by simp⟩
  exact ⟨v, rfl, _, _, Mem.frame (S0 := []) m1 (by simp) m2, hk⟩
theorem xh_callvl {f : Nat} {l : List Operand} {vs first cap : List Value} {tys : Array TypeId} {R : Value → List Res → List Res → Prop} (hx : ev ρ x = some (.func (.func f) first.toArray cap.toArray)) (hv : evs ρ l = some vs) (hf : ∀ args w, (callFunc f args).run P w = .ok (.enter f args) w)
    (hc : Con P f (first ++ vs ++ cap) X0 S0 R) (is : List Nat) (hX : takeR is X = some (X0, Xr)) (hl : Lend Xr S S0) (k : ∀ v X' S', R v X' S' → S' = [] ∧ K v (X' ++ Xr) S) : XH P Q N D ρ b X S (.call ⟨.value x, l.toArray, tys⟩) ty K := fun w m => by
  have m1 := m.perm (takeR_perm _ _ _ _ hX)
  refine x_callv hx hv hf (hc w (m1.lent hl)) ?_
  rintro e w' ⟨v, X', S', rfl, hR, m'⟩
  obtain ⟨rfl, hk⟩ := k v X' S' hR
  have m2 : Mem ⟨w, feet X0, feet []⟩ X' [] w' := ⟨m'.fr, m'.xx, by simp, m'.hx, by simp, m'.nx, by simp⟩
  exact ⟨v, rfl, _, _, Mem.frame (S0 := []) m1 (by simp) m2, hk⟩
end
/-! ### In and out -/
theorem henter {P : Program} {f : Nat} {fn : Func} {c : Code} {vs : List Value} {R : Value → List Res → List Res → Prop} {N : Nat} {X0 S0 : List Res} (hf : P.funcs[f]? = some fn) (hb : fn.body = some c) (hN : fn.ntmps = N) (hl : vs.length ≤ N)
    (h : ∀ b, HC P (bodyPost P fn (RB b R)) N [] c (argsEnv vs 0) b X0 S0) : Con P f vs X0 S0 R := fun w m => enter hf hb hN hl (h _ w m)
theorem henter0 {P : Program} {f : Nat} {fn : Func} {c : Code} {vs : List Value} {R : Value → List Res → List Res → Prop} {N : Nat} {S0 : List Res} (hf : P.funcs[f]? = some fn) (hb : fn.body = some c) (hN : fn.ntmps = N) (hl : vs.length ≤ N)
    (h : ∀ b, (∀ k, ¬ b.M k) → HC P (bodyPost P fn (RB b R)) N [] c (argsEnv vs 0) b [] S0) : Con P f vs [] S0 R := fun w m => enter hf hb hN hl (h _ (fun k hk => by obtain ⟨r, hr, _⟩ := hk; simp at hr) w m)
section
variable {P : Program} {fn : Func} {R : Value → List Res → List Res → Prop} {N : Nat} {ρ : Env} {b : Base} {X X' Xz S S' : List Res} {e : Exit}
theorem Mem.out {w : World} (m : Mem b X S w) (is : List Nat) (hX : takeR is X = some (X', Xz)) (js : List Nat) (hS : getR js S = some S') : Mem b X' S' w := ((m.perm (takeR_perm _ _ _ _ hX)).dropX).subS (getR_sub _ _ _ hS)
theorem hret0 (he : Leaves e) (hr : fn.results = #[]) (is : List Nat) (hX : takeR is X = some (X', Xz)) (js : List Nat) (hS : getR js S = some S') (hR : R (.tuple #[]) X' S') : HQ (bodyPost P fn (RB b R)) N [] e ρ b X S :=
  fun w m => ret0 he hr ⟨_, _, _, rfl, hR, m.out is hX js hS⟩
theorem hret1 {t : Nat} {v : Value} (he : Leaves e) (hr : fn.results = #[.tmp t]) (hv : get ρ t = some v) (is : List Nat) (hX : takeR is X = some (X', Xz)) (js : List Nat) (hS : getR js S = some S') (hR : R v X' S') : HQ (bodyPost P fn (RB b R)) N [] e ρ b X S :=
  fun w m => ret1 he hr hv ⟨_, _, _, rfl, hR, m.out is hX js hS⟩
theorem hret2 {t t' : Nat} {v v' : Value} (he : Leaves e) (hr : fn.results = #[.tmp t, .tmp t']) (hv : get ρ t = some v) (hv' : get ρ t' = some v') (is : List Nat) (hX : takeR is X = some (X', Xz)) (js : List Nat) (hS : getR js S = some S') (hR : R (.tuple #[v, v']) X' S') : HQ (bodyPost P fn (RB b R)) N [] e ρ b X S :=
  fun w m => ret2 he hr hv hv' ⟨_, _, _, rfl, hR, m.out is hX js hS⟩
theorem hretN {t sz : Nat} {ty : TypeId} {p : Addr} {cs : List Value} (he : Leaves e) (hr : fn.results = #[.cell t ty]) (hv : get ρ t = some (.pointer (some p))) (ha : aggB P ty = some true) (hs : szB P ty = some sz) (hl : cs.length = sz)
    (hc : ∀ {w}, Mem b X S w → ∀ j u, cs[j]? = some u → w.cell? (p.add j) = some u) (is : List Nat) (hX : takeR is X = some (X', Xz)) (js : List Nat) (hS : getR js S = some S') (hR : R (.agg cs.toArray) X' S') : HQ (bodyPost P fn (RB b R)) N [] e ρ b X S :=
  fun w m => retN he hr hv ha hs hl (hc m) ⟨_, _, _, rfl, hR, m.out is hX js hS⟩
theorem hretN1 {t t' sz : Nat} {ty : TypeId} {p : Addr} {cs : List Value} {v' : Value} (he : Leaves e) (hr : fn.results = #[.cell t ty, .tmp t']) (hv : get ρ t = some (.pointer (some p))) (hv' : get ρ t' = some v') (ha : aggB P ty = some true) (hs : szB P ty = some sz) (hl : cs.length = sz)
    (hc : ∀ {w}, Mem b X S w → ∀ j u, cs[j]? = some u → w.cell? (p.add j) = some u) (is : List Nat) (hX : takeR is X = some (X', Xz)) (js : List Nat) (hS : getR js S = some S') (hR : R (.tuple #[.agg cs.toArray, v']) X' S') : HQ (bodyPost P fn (RB b R)) N [] e ρ b X S :=
  fun w m => retN1 he hr hv hv' ha hs hl (hc m) ⟨_, _, _, rfl, hR, m.out is hX js hS⟩
end
/-- an old contract, one thing of the callee's own -/
theorem con_own {P : Program} {f : Nat} {vs : List Value} {S0 : List Res} {R : Value → List Res → List Res → Prop} (h : ∀ {w b}, Mem b [] S0 w → Calls P f vs.toArray w fun e w' => ∃ v e_ sz n xs, e = .returned v ∧ (∃ u, R v [ROwn e_ sz u n xs] [] ∧ Own w' w.heap.size e_ sz u n xs) ∧ Fr No w w') : Con P f vs [] S0 R := fun w m => by
  refine Calls.mono (h m) ?_
  rintro e w' ⟨v, e_, sz, n, xs, rfl, ⟨u, hR, ho⟩, hf⟩
  exact ⟨v, [ROwn e_ sz u n xs], [], rfl, hR, (((m.lift hf).subS (S' := []) (by simp)).fr.size |> fun _ => by
    have m0 : Mem ⟨w, feet [], feet S0⟩ [] [] w := m.subS (by simp)
    exact m0.addX (r' := ROwn e_ sz u n xs) hf ho.base0 (fun k hk => (ho.from hk).1))⟩
theorem con_pure {P : Program} {f : Nat} {vs : List Value} {S0 : List Res} {R : Value → List Res → List Res → Prop} (h : ∀ {w b}, Mem b [] S0 w → Calls P f vs.toArray w fun e w' => ∃ v, e = .returned v ∧ R v [] [] ∧ Fr No w w') : Con P f vs [] S0 R := fun w m => by
  refine Calls.mono (h m) ?_
  rintro e w' ⟨v, rfl, hR, hf⟩
  exact ⟨v, [], [], rfl, hR, (m.subS (by simp)).lift hf⟩
end Go.Eng
end
section
/- The engine over things in memory, second part: statements whose order is open. No statement is proved here. -/
set_option linter.unusedVariables false
set_option linter.unusedSimpArgs false
namespace Go.Eng
open Go.RowKit
section
variable {P : Program} {ops : Array Oper} {Q : Exit → Act → World → Prop} {N : Nat} {D : List Deferred} {ρ ρ' : Env} {b : Base} {X X' X0 Xr S S' S0 X1 S1 : List Res} {rest : List (Option Nat × Oper)}
  {op : Op} {ty : TypeId} {pos : String} {af : Array Edge} {d k m c : Nat} {v : Value}
theorem hdrw {id : Nat} {l : List (Option Nat × Oper)} (Xs : List Nat) (L : List (Nat × Option Nat)) (hm : P.follows .mixedOrders = true) (hk : (Region.noSelect ops && seqOkG ops Xs L (Array.replicate ops.size false) && decide (L.length ≤ ops.size)) = true)
    (hp : pickG ops L = some l) (c : Nat) (h : HT P ops (NoPan Q) (TT b X S c) N D 0 l ρ b X S) : HC P Q N D (.region id ops true) ρ b X S := fun w m =>
  cdrwT Xs L hm hk hp (TT b X S c) (fun _ => m.lift (Fr.drew w)) fun w' f _ => h w' (m.lift f)
theorem hty (h : ∀ {w}, Mem b X1 S1 w → Yl P N D ρ w op ty v) (kk : HT P ops Q (TT b X1 S1 c) N D k rest ((d, v) :: ρ) b X S) (hmc : m ≤ c := by decide) (hd : d < N := by decide) : HT P ops Q (TT b X1 S1 c) N D k ((some m, ⟨some d, op, ty, pos, af, none⟩) :: rest) ρ b X S :=
  fun w mm => tq (fun k' w' h1 h2 hT => h (hT (Nat.le_trans h2 hmc))) (kk w mm) hd
theorem htyg {g gd : Nat} {want : Bool} {o : Oper} (ho : ops[g]? = some o) (hod : o.dst = some gd) (hb : get ρ gd = some (.bool want)) (h : ∀ {w}, Mem b X1 S1 w → Yl P N D ρ w op ty v) (kk : HT P ops Q (TT b X1 S1 c) N D k rest ((d, v) :: ρ) b X S) (hmc : m ≤ c := by decide) (hd : d < N := by decide) :
    HT P ops Q (TT b X1 S1 c) N D k ((some m, ⟨some d, op, ty, pos, af, some (g, want)⟩) :: rest) ρ b X S :=
  fun w mm => tqg ho hod hb (fun k' w' h1 h2 hT => h (hT (Nat.le_trans h2 hmc))) (kk w mm) hd
theorem htyU {T : Nat → World → Prop} (h : ∀ {w}, Yl P N D ρ w op ty v) (kk : HT P ops Q T N D k rest ((d, v) :: ρ) b X S) (hd : d < N := by decide) : HT P ops Q T N D k ((some m, ⟨some d, op, ty, pos, af, none⟩) :: rest) ρ b X S :=
  fun w mm => tq (fun k' w' h1 h2 hT => h) (kk w mm) hd
theorem htyUg {T : Nat → World → Prop} {g gd : Nat} {want : Bool} {o : Oper} (ho : ops[g]? = some o) (hod : o.dst = some gd) (hb : get ρ gd = some (.bool want)) (h : ∀ {w}, Yl P N D ρ w op ty v) (kk : HT P ops Q T N D k rest ((d, v) :: ρ) b X S) (hd : d < N := by decide) :
    HT P ops Q T N D k ((some m, ⟨some d, op, ty, pos, af, some (g, want)⟩) :: rest) ρ b X S :=
  fun w mm => tqg ho hod hb (fun k' w' h1 h2 hT => h) (kk w mm) hd
theorem htx (h : XH P Q N D ρ b X S op ty fun v X' S' => (k + 1 ≤ c → Wk X1 S1 X' S') ∧ HT P ops Q (TT b X1 S1 c) N D (k + 1) rest ((d, v) :: ρ) b X' S') (hd : d < N := by decide) :
    HT P ops Q (TT b X1 S1 c) N D k ((none, ⟨some d, op, ty, pos, af, none⟩) :: rest) ρ b X S := fun w m => tx (fun a dst pos af g ha => Oper.wp_mono (by
  rintro a' w' ⟨v, rfl, X', S', m', hw, hk⟩
  exact ⟨v, rfl, fun h => (hw h).mem m', hk w' m'⟩) (h w m a dst pos af g ha)) hd
theorem htx0 (h : XH P Q N D ρ b X S op ty fun _ X' S' => (k + 1 ≤ c → Wk X1 S1 X' S') ∧ HT P ops Q (TT b X1 S1 c) N D (k + 1) rest ρ b X' S') :
    HT P ops Q (TT b X1 S1 c) N D k ((none, ⟨none, op, ty, pos, af, none⟩) :: rest) ρ b X S := fun w m => tx0 (fun a dst pos af g ha => Oper.wp_mono (by
  rintro a' w' ⟨v, rfl, X', S', m', hw, hk⟩
  exact ⟨v, rfl, fun h => (hw h).mem m', hk w' m'⟩) (h w m a dst pos af g ha))
theorem htxg {g gd : Nat} {want : Bool} {o : Oper} (ho : ops[g]? = some o) (hod : o.dst = some gd) (hb : get ρ gd = some (.bool want)) (h : XH P Q N D ρ b X S op ty fun v X' S' => (k + 1 ≤ c → Wk X1 S1 X' S') ∧ HT P ops Q (TT b X1 S1 c) N D (k + 1) rest ((d, v) :: ρ) b X' S') (hd : d < N := by decide) :
    HT P ops Q (TT b X1 S1 c) N D k ((none, ⟨some d, op, ty, pos, af, some (g, want)⟩) :: rest) ρ b X S := fun w m => txg ho hod hb (fun a dst pos af g ha => Oper.wp_mono (by
  rintro a' w' ⟨v, rfl, X', S', m', hw, hk⟩
  exact ⟨v, rfl, fun h => (hw h).mem m', hk w' m'⟩) (h w m a dst pos af g ha)) hd
/-- a yield that comes alone: the things at hand count -/
theorem hts (hw : k + 1 ≤ c → Wk X1 S1 X S) (h : ∀ {w}, Mem b X S w → Yl P N D ρ w op ty v) (kk : HT P ops Q (TT b X1 S1 c) N D (k + 1) rest ((d, v) :: ρ) b X S) (hd : d < N := by decide) :
    HT P ops Q (TT b X1 S1 c) N D k ((none, ⟨some d, op, ty, pos, af, none⟩) :: rest) ρ b X S := fun w m => tsolo (fun h => (hw h).mem m) (h m) (kk w m) hd
theorem htsg {g gd : Nat} {want : Bool} {o : Oper} (ho : ops[g]? = some o) (hod : o.dst = some gd) (hb : get ρ gd = some (.bool want)) (hw : k + 1 ≤ c → Wk X1 S1 X S) (h : ∀ {w}, Mem b X S w → Yl P N D ρ w op ty v) (kk : HT P ops Q (TT b X1 S1 c) N D (k + 1) rest ((d, v) :: ρ) b X S) (hd : d < N := by decide) :
    HT P ops Q (TT b X1 S1 c) N D k ((none, ⟨some d, op, ty, pos, af, some (g, want)⟩) :: rest) ρ b X S := fun w m => tsolog ho hod hb (fun h => (hw h).mem m) (h m) (kk w m) hd
theorem htskip {T : Nat → World → Prop} {g gd : Nat} {want q : Bool} {o : Oper} (ho : ops[g]? = some o) (hod : o.dst = some gd) (hb : get ρ gd = some (.bool q)) (hne : q ≠ want) (kk : HT P ops Q T N D k rest ((d, undef) :: ρ) b X S) (hd : d < N := by decide) :
    HT P ops Q T N D k ((some m, ⟨some d, op, ty, pos, af, some (g, want)⟩) :: rest) ρ b X S := fun w mm => tskip ho hod hb hne (kk w mm) hd
theorem htskipU {T : Nat → World → Prop} {g gd : Nat} {want : Bool} {o : Oper} (ho : ops[g]? = some o) (hod : o.dst = some gd) (hb : get ρ gd = some undef) (kk : HT P ops Q T N D k rest ((d, undef) :: ρ) b X S) (hd : d < N := by decide) :
    HT P ops Q T N D k ((some m, ⟨some d, op, ty, pos, af, some (g, want)⟩) :: rest) ρ b X S := fun w mm => tskipU ho hod hb (kk w mm) hd
theorem htskipx {g gd : Nat} {want q : Bool} {o : Oper} (ho : ops[g]? = some o) (hod : o.dst = some gd) (hb : get ρ gd = some (.bool q)) (hne : q ≠ want) (hw : k + 1 ≤ c → Wk X1 S1 X S) (kk : HT P ops Q (TT b X1 S1 c) N D (k + 1) rest ((d, undef) :: ρ) b X S) (hd : d < N := by decide) :
    HT P ops Q (TT b X1 S1 c) N D k ((none, ⟨some d, op, ty, pos, af, some (g, want)⟩) :: rest) ρ b X S := fun w m => tskipx ho hod hb hne (fun h => (hw h).mem m) (kk w m) hd
theorem htend {T : Nat → World → Prop} (h : HQ Q N D .normal ρ b X S) : HT P ops (NoPan Q) T N D k [] ρ b X S := fun w m => tend (h w m)
theorem htsplit {T : Nat → World → Prop} {p : Prop} [Decidable p] {l : List (Option Nat × Oper)} (gd : Nat) (hg : get ρ gd = some (.bool (decide p))) (ht : p → HT P ops Q T N D k l ((gd, .bool true) :: ρ) b X S) (hf : ¬ p → HT P ops Q T N D k l ((gd, .bool false) :: ρ) b X S) : HT P ops Q T N D k l ρ b X S :=
  fun w m => tsplit gd hg (fun h => ht h w m) (fun h => hf h w m)
theorem htsplitb {T : Nat → World → Prop} {q : Bool} {l : List (Option Nat × Oper)} (gd : Nat) (hg : get ρ gd = some (.bool q)) (ht : q = true → HT P ops Q T N D k l ((gd, .bool true) :: ρ) b X S) (hf : q = false → HT P ops Q T N D k l ((gd, .bool false) :: ρ) b X S) : HT P ops Q T N D k l ρ b X S :=
  fun w m => tsplit (p := q = true) gd (by rw [hg]; cases q <;> rfl) (fun h => ht h w m) (fun h => hf (by simpa using h) w m)
theorem htmem {T : Nat → World → Prop} {l : List (Option Nat × Oper)} (h : ∀ w, Mem b X S w → Mem b X' S' w) (kk : HT P ops Q T N D k l ρ b X' S') : HT P ops Q T N D k l ρ b X S := fun w m => kk w (h w m)
theorem htfact {T : Nat → World → Prop} {l : List (Option Nat × Oper)} {p : Prop} (h : ∀ {w}, Mem b X S w → p) (kk : p → HT P ops Q T N D k l ρ b X S) : HT P ops Q T N D k l ρ b X S := fun w m => kk (h m) w m
/-! a tree of orders -/
theorem hdrwP {id : Nat} {po : PlanO} (Xs : List Nat) (p : Plan) (hm : P.follows .mixedOrders = true) (hk : (Region.noSelect ops && okP ops Xs p true (Array.replicate ops.size false) && decide (depthP p ≤ ops.size)) = true)
    (hp : fillP ops p = some po) (c : Nat) (h : HP P ops (NoPan Q) (TT b X S c) N D 0 po ρ b X S) : HC P Q N D (.region id ops true) ρ b X S := fun w m =>
  cdrwP Xs p hm hk hp (TT b X S c) (fun _ => m.lift (Fr.drew w)) fun w' f _ => h w' (m.lift f)
theorem hpy {q : PlanO} (h : ∀ {w}, Mem b X1 S1 w → Yl P N D ρ w op ty v) (kk : HP P ops Q (TT b X1 S1 c) N D k q ((d, v) :: ρ) b X S) (hmc : m ≤ c := by decide) (hd : d < N := by decide) : HP P ops Q (TT b X1 S1 c) N D k (.take ⟨some d, op, ty, pos, af, none⟩ m q) ρ b X S :=
  fun w mm => pq (fun k' w' h1 h2 hT => h (hT (Nat.le_trans h2 hmc))) (kk w mm) hd
theorem hpyg {q : PlanO} {g gd : Nat} {want : Bool} {o : Oper} (ho : ops[g]? = some o) (hod : o.dst = some gd) (hb : get ρ gd = some (.bool want)) (h : ∀ {w}, Mem b X1 S1 w → Yl P N D ρ w op ty v) (kk : HP P ops Q (TT b X1 S1 c) N D k q ((d, v) :: ρ) b X S) (hmc : m ≤ c := by decide) (hd : d < N := by decide) :
    HP P ops Q (TT b X1 S1 c) N D k (.take ⟨some d, op, ty, pos, af, some (g, want)⟩ m q) ρ b X S :=
  fun w mm => pqg ho hod hb (fun k' w' h1 h2 hT => h (hT (Nat.le_trans h2 hmc))) (kk w mm) hd
theorem hpyU {T : Nat → World → Prop} {q : PlanO} (h : ∀ {w}, Yl P N D ρ w op ty v) (kk : HP P ops Q T N D k q ((d, v) :: ρ) b X S) (hd : d < N := by decide) : HP P ops Q T N D k (.take ⟨some d, op, ty, pos, af, none⟩ m q) ρ b X S :=
  fun w mm => pq (fun k' w' h1 h2 hT => h) (kk w mm) hd
theorem hpyUg {T : Nat → World → Prop} {q : PlanO} {g gd : Nat} {want : Bool} {o : Oper} (ho : ops[g]? = some o) (hod : o.dst = some gd) (hb : get ρ gd = some (.bool want)) (h : ∀ {w}, Yl P N D ρ w op ty v) (kk : HP P ops Q T N D k q ((d, v) :: ρ) b X S) (hd : d < N := by decide) :
    HP P ops Q T N D k (.take ⟨some d, op, ty, pos, af, some (g, want)⟩ m q) ρ b X S := fun w mm => pqg ho hod hb (fun k' w' h1 h2 hT => h) (kk w mm) hd
theorem hpx {q : PlanO} (h : XH P Q N D ρ b X S op ty fun v X' S' => (k + 1 ≤ c → Wk X1 S1 X' S') ∧ HP P ops Q (TT b X1 S1 c) N D (k + 1) q ((d, v) :: ρ) b X' S') (hd : d < N := by decide) :
    HP P ops Q (TT b X1 S1 c) N D k (.alt ⟨some d, op, ty, pos, af, none⟩ q .stop) ρ b X S := fun w m => px (fun a dst pos af g ha => Oper.wp_mono (by
  rintro a' w' ⟨v, rfl, X', S', m', hw, hk⟩
  exact ⟨v, rfl, fun h => (hw h).mem m', hk w' m'⟩) (h w m a dst pos af g ha)) hd
theorem hpx0 {q : PlanO} (h : XH P Q N D ρ b X S op ty fun _ X' S' => (k + 1 ≤ c → Wk X1 S1 X' S') ∧ HP P ops Q (TT b X1 S1 c) N D (k + 1) q ρ b X' S') :
    HP P ops Q (TT b X1 S1 c) N D k (.alt ⟨none, op, ty, pos, af, none⟩ q .stop) ρ b X S := fun w m => px0 (fun a dst pos af g ha => Oper.wp_mono (by
  rintro a' w' ⟨v, rfl, X', S', m', hw, hk⟩
  exact ⟨v, rfl, fun h => (hw h).mem m', hk w' m'⟩) (h w m a dst pos af g ha))
theorem hpxg {q : PlanO} {g gd : Nat} {want : Bool} {o : Oper} (ho : ops[g]? = some o) (hod : o.dst = some gd) (hb : get ρ gd = some (.bool want)) (h : XH P Q N D ρ b X S op ty fun v X' S' => (k + 1 ≤ c → Wk X1 S1 X' S') ∧ HP P ops Q (TT b X1 S1 c) N D (k + 1) q ((d, v) :: ρ) b X' S') (hd : d < N := by decide) :
    HP P ops Q (TT b X1 S1 c) N D k (.alt ⟨some d, op, ty, pos, af, some (g, want)⟩ q .stop) ρ b X S := fun w m => pxg ho hod hb (fun a dst pos af g ha => Oper.wp_mono (by
  rintro a' w' ⟨v, rfl, X', S', m', hw, hk⟩
  exact ⟨v, rfl, fun h => (hw h).mem m', hk w' m'⟩) (h w m a dst pos af g ha)) hd
theorem hdrwB {id : Nat} {l : List (Option Nat × Oper)} (is js : List Nat) (hX : takeR is X = some (X1, Xr)) (hS : getR js S = some S1) (Xs : List Nat) (L : List (Nat × Option Nat)) (hm : P.follows .mixedOrders = true) (hk : (Region.noSelect ops && seqOkG ops Xs L (Array.replicate ops.size false) && decide (L.length ≤ ops.size)) = true)
    (hp : pickG ops L = some l) (c : Nat) (h : HT P ops (NoPan Q) (TT b X1 S1 c) N D 0 l ρ b X S) : HC P Q N D (.region id ops true) ρ b X S := fun w m =>
  cdrwT Xs L hm hk hp (TT b X1 S1 c) (fun _ => (wk is js hX hS).mem (m.lift (Fr.drew w))) fun w' f _ => h w' (m.lift f)
theorem hdrwPB {id : Nat} {po : PlanO} (is js : List Nat) (hX : takeR is X = some (X1, Xr)) (hS : getR js S = some S1) (Xs : List Nat) (p : Plan) (hm : P.follows .mixedOrders = true) (hk : (Region.noSelect ops && okP ops Xs p true (Array.replicate ops.size false) && decide (depthP p ≤ ops.size)) = true)
    (hp : fillP ops p = some po) (c : Nat) (h : HP P ops (NoPan Q) (TT b X1 S1 c) N D 0 po ρ b X S) : HC P Q N D (.region id ops true) ρ b X S := fun w m =>
  cdrwP Xs p hm hk hp (TT b X1 S1 c) (fun _ => (wk is js hX hS).mem (m.lift (Fr.drew w))) fun w' f _ => h w' (m.lift f)
theorem hpfork {T : Nat → World → Prop} {o : Oper} {q q' : PlanO} (h : HP P ops Q T N D k (.alt o q .stop) ρ b X S) (hq : HP P ops Q T N D k q' ρ b X S) : HP P ops Q T N D k (.alt o q q') ρ b X S := fun w m => pfork (h w m) (hq w m)
theorem hpend {T : Nat → World → Prop} (h : HQ Q N D .normal ρ b X S) : HP P ops (NoPan Q) T N D k .done ρ b X S := fun w m => pend (h w m)
theorem hpmem {T : Nat → World → Prop} {q : PlanO} (h : ∀ w, Mem b X S w → Mem b X' S' w) (kk : HP P ops Q T N D k q ρ b X' S') : HP P ops Q T N D k q ρ b X S := fun w m => kk w (h w m)
theorem hpfact {T : Nat → World → Prop} {q : PlanO} {p : Prop} (h : ∀ {w}, Mem b X S w → p) (kk : p → HP P ops Q T N D k q ρ b X S) : HP P ops Q T N D k q ρ b X S := fun w m => kk (h m) w m
end
end Go.Eng
end
section
/- The engine over things in memory, third part: small facts; more operations. No statement is proved here. -/
set_option linter.unusedVariables false
set_option linter.unusedSimpArgs false
namespace Go.Eng
open Go.RowKit
theorem rdB {w : World} {A : Option Addr} {n : Nat} {l : List UInt8} (h : Rd w 1 A n (b8s l)) : l.length = n ∧ (0 < n → A ≠ none) := ⟨by have := h.1; rw [b8s_length] at this; omega, h.2.1⟩
theorem rdX {w : World} {A : Option Addr} {n sz : Nat} {l : List Value} (h : Rd w sz A n l) : l.length = n * sz ∧ (0 < n → A ≠ none) := ⟨h.1, h.2.1⟩
theorem ownB {w : World} {b : Nat} {e : TypeId} {v : Value} {n : Nat} {l : List UInt8} (h : Own w b e 1 v n (b8s l)) : l.length = n := by
  have := h.1
  rw [b8s_length] at this
  omega
theorem ld_blk {w : World} {g i : Nat} {t : TypeId} {cs : List Value} {v : Value} (h : Blk w g t cs) (hv : cs[i]? = some v) : w.cell? ⟨g, i, none⟩ = some v := h.cell hv
theorem Mem.asV {b : Base} {X S : List Res} {w : World} {r r' : Res} (m : Mem b X S w) (i : Nat) (hi : S[i]? = some r) (v : View r r') : Mem b X (r' :: S) w := m.asS i hi (v.ok.1 w) v.ok.2
theorem View.trans {a b c : Res} (h : View a b) (k : View b c) : View a c := .of (fun w x => k.ok.1 w (h.ok.1 w x)) (fun i x => h.ok.2 i (k.ok.2 i x))
theorem Rd.takeM {w : World} {A : Option Addr} {n : Nat} {l : List UInt8} (h : Rd w 1 A n (b8s l)) {k : Nat} (hk : k ≤ n) : Rd w 1 A k (b8s (l.take k)) := by
  have := Rd.take h hk
  rwa [Nat.mul_one, ← b8s_take] at this
theorem b8s_ne {l : List UInt8} : b8s l ≠ [] ↔ l ≠ [] := by cases l <;> simp [b8s]
theorem View.takeV {A : Option Addr} {n k sz : Nat} {xs : List Value} (hk : k ≤ n) : View (RRd sz A n xs) (RRd sz A k (xs.take (k * sz))) := .of (fun w h => Rd.take h hk) (fun i h => by
  obtain ⟨hne, a, ha, hi⟩ := h
  exact ⟨fun e => by rw [e] at hne; simp at hne, a, ha, hi⟩)
theorem View.dropV {A : Option Addr} {n k c sz : Nat} {xs : List Value} (hc : n ≤ c) (hk : k ≤ n) : View (RRd sz A n xs) (RRd sz (if c = k then A else A.map (·.add (k * sz))) (n - k) (xs.drop (k * sz))) := .of (fun w h => Rd.cut h hk hc) (fun i h => by
  obtain ⟨hne, a, ha, hi⟩ := h
  refine ⟨fun e => by rw [e] at hne; simp at hne, ?_⟩
  split at ha
  · exact ⟨a, ha, hi⟩
  · cases A with
    | none => cases ha
    | some q =>
      cases ha
      exact ⟨q, rfl, by rw [hi, add_block]⟩)
theorem View.take {A : Option Addr} {n k : Nat} {l : List UInt8} (hk : k ≤ n) : View (RRd 1 A n (b8s l)) (RRd 1 A k (b8s (l.take k))) := .of (fun w h => Rd.takeM h hk) (fun i h => by
  obtain ⟨hne, a, ha, hi⟩ := h
  exact ⟨b8s_ne.2 (fun e => by rw [e] at hne; simp [b8s] at hne), a, ha, hi⟩)
theorem View.drop {A : Option Addr} {n k c : Nat} {l : List UInt8} (hc : n ≤ c) (hk : k ≤ n) : View (RRd 1 A n (b8s l)) (RRd 1 (if c = k then A else A.map (·.add (k * 1))) (n - k) (b8s (l.drop k))) := .of (fun w h => by
    have h1 := Rd.cut h hk hc
    rw [Nat.mul_one, ← b8s_drop] at h1
    rw [Nat.mul_one]
    exact h1) (fun i h => by
  obtain ⟨hne, a, ha, hi⟩ := h
  refine ⟨b8s_ne.2 (fun e => by rw [e] at hne; simp [b8s] at hne), ?_⟩
  split at ha
  · exact ⟨a, ha, hi⟩
  · cases A with
    | none => cases ha
    | some q =>
      cases ha
      exact ⟨q, rfl, by rw [hi, add_block]⟩)
theorem View.sub {A : Option Addr} {n k m c : Nat} {l : List UInt8} (hc : n ≤ c) (hk : k + m ≤ n) : View (RRd 1 A n (b8s l)) (RRd 1 (if c = k then A else A.map (·.add (k * 1))) m (b8s ((l.drop k).take m))) :=
  (View.drop hc (by omega)).trans (View.take (by omega))
theorem Mem.eqX {b : Base} {X S : List Res} {w : World} {r r' : Res} (m : Mem b X S w) (i : Nat) (hi : X[i]? = some r) (h : r = r') : Mem b (r' :: X.eraseIdx i) S w := by
  subst h
  exact m.perm (takeR_perm [i] X [r] (X.eraseIdx i) (by simp [takeR, hi]))
theorem Mem.inP {b : Base} {X S Xp : List Res} {w : World} {r : Res} (m : Mem b X S w) (i : Nat) (hi : X[i]? = some (RPack Xp)) (j : Nat) (hj : Xp[j]? = some r) : r.holds w := (m.hx _ (List.mem_of_getElem? hi)).2 _ (List.mem_of_getElem? hj)
theorem Mem.inPS {b : Base} {X S Xp : List Res} {w : World} {r : Res} (m : Mem b X S w) (i : Nat) (hi : S[i]? = some (RPack Xp)) (j : Nat) (hj : Xp[j]? = some r) : r.holds w := (m.hs _ (List.mem_of_getElem? hi)).2 _ (List.mem_of_getElem? hj)
theorem View.comp {Xp : List Res} {r : Res} (j : Nat) (hj : Xp[j]? = some r) : View (RPack Xp) r := .of (fun w h => h.2 _ (List.mem_of_getElem? hj)) (fun k hk => ⟨r, List.mem_of_getElem? hj, hk⟩)
theorem con_calls {P : Program} {f : Nat} {vs : List Value} {S0 : List Res} {u : Value} (h : Con P f vs [] S0 (fun v X S => v = u ∧ X = [] ∧ S = [])) {w : World} (hs : ∀ s ∈ S0, s.holds w) : Calls P f vs.toArray w fun e w' => e = .returned u ∧ Fr No w w' := by
  refine Calls.mono (h w (.start (by simp) (by simp) (by simp) hs)) ?_
  rintro e w' ⟨v, X', S', rfl, ⟨rfl, rfl, rfl⟩, m⟩
  exact ⟨rfl, m.fr.mono (fun i _ hi => by obtain ⟨r, hr, _⟩ := hi; simp at hr)⟩
theorem con_own1 {P : Program} {f : Nat} {vs : List Value} {S0 : List Res} {R : Value → List Res → List Res → Prop} (h : ∀ {w b}, Mem b [] S0 w → Calls P f vs.toArray w fun e w' => ∃ v u e_ sz n xs, e = .returned v ∧ R v [ROwn e_ sz u n xs] [] ∧ Own w' w.heap.size e_ sz u n xs ∧ Fr No w w') : Con P f vs [] S0 R := fun w m => by
  refine Calls.mono (h m) ?_
  rintro e w' ⟨v, u, e_, sz, n, xs, rfl, hR, ho, hf⟩
  have m0 : Mem ⟨w, feet [], feet S0⟩ [] [] w := m.subS (by simp)
  exact ⟨v, [ROwn e_ sz u n xs], [], rfl, hR, m0.addX (r' := ROwn e_ sz u n xs) hf ho.base0 (fun k hk => (ho.from hk).1)⟩
/-! rows of bytes -/
structure BRow where
  A : Option Addr
  n : Nat
  c : Nat
  l : List UInt8
def BRow.val (r : BRow) : Value := .slice r.A r.n r.c
def BRow.res (r : BRow) : Res := RRd 1 r.A r.n (b8s r.l)
def RRows (rows : List BRow) : Res := ⟨fun k => ∃ r ∈ rows, r.res.foot k, fun w => ∀ r ∈ rows, r.res.holds w ∧ r.n ≤ r.c, fun f h x r hr => ⟨r.res.keep f (fun k hk => h k ⟨r, hr, hk⟩) (x r hr).1, (x r hr).2⟩, fun x hk => by
  obtain ⟨r, hr, hk⟩ := hk
  exact r.res.low (x r hr).1 hk⟩
inductive RowsIn (S : List Res) : List BRow → Prop
  | nil : RowsIn S []
  | cons {r : BRow} {rest : List BRow} (j : Nat) (h : S[j]? = some (RRd 1 r.A r.n (b8s r.l))) (hc : r.n ≤ r.c) (t : RowsIn S rest) : RowsIn S (r :: rest)
theorem RowsIn.all {S : List Res} {rows : List BRow} (h : RowsIn S rows) : ∀ r ∈ rows, r.res ∈ S ∧ r.n ≤ r.c := by
  induction h with
  | nil => simp
  | cons j h hc t ih =>
    intro r hr
    rcases List.mem_cons.1 hr with rfl | hr
    · exact ⟨List.mem_of_getElem? h, hc⟩
    · exact ih r hr
theorem Mem.rows {b : Base} {X S : List Res} {w : World} {rows : List BRow} (m : Mem b X S w) (h : RowsIn S rows) : Mem b X (RRows rows :: S) w :=
  m.addS (.refl _ _) (fun r hr => ⟨m.hs _ (h.all r hr).1, (h.all r hr).2⟩) (fun k hk => by
    obtain ⟨r, hr, hk⟩ := hk
    exact .inr ⟨_, (h.all r hr).1, hk⟩)
theorem View.row {rows : List BRow} {r : BRow} {i : Nat} (h : rows[i]? = some r) : View (RRows rows) (RRd 1 r.A r.n (b8s r.l)) :=
  .of (fun w x => (x r (List.mem_of_getElem? h)).1) (fun k hk => ⟨r, List.mem_of_getElem? h, hk⟩)
theorem rows_le {rows : List BRow} {r : BRow} {i : Nat} {w : World} (x : (RRows rows).holds w) (h : rows[i]? = some r) : r.n ≤ r.c := (x r (List.mem_of_getElem? h)).2
theorem Mem.sres {b : Base} {X S : List Res} {w : World} {r : Res} (m : Mem b X S w) (i : Nat) (h : S[i]? = some r) : r.holds w := m.hs _ (List.mem_of_getElem? h)
theorem Mem.xres {b : Base} {X S : List Res} {w : World} {r : Res} (m : Mem b X S w) (i : Nat) (h : X[i]? = some r) : r.holds w := m.hx _ (List.mem_of_getElem? h)
section
variable {P : Program} {N : Nat} {D : List Deferred} {ρ : Env} {w : World} {ty t t' : TypeId} {x y : Operand}
theorem y_eqPn {a : Option Addr} (hx : ev ρ x = some (.pointer a)) (hy : ev ρ y = some (.pointer none)) (ht : P.underlying t = some (.pointer (P.pointee t))) : Yl P N D ρ w (.binOp .eql t x y t') ty (.bool a.isNone) :=
  fun _ _ _ _ _ ha => by
    simp only [execOp, ha.eval hx, ha.eval hy]
    simp [eqGuard, run_eql_pointer_nil (P := P) w t a ht]
end
section
variable {P : Program} {fn : Func} {R : Value → List Res → List Res → Prop} {N : Nat} {ρ : Env} {b : Base} {X X' Xz S S' : List Res} {e : Exit}
theorem hret3 {t t' t'' : Nat} {v v' v'' : Value} (he : Leaves e) (hr : fn.results = #[.tmp t, .tmp t', .tmp t'']) (hv : get ρ t = some v) (hv' : get ρ t' = some v') (hv'' : get ρ t'' = some v'') (is : List Nat) (hX : takeR is X = some (X', Xz)) (js : List Nat) (hS : getR js S = some S') (hR : R (.tuple #[v, v', v'']) X' S') : HQ (bodyPost P fn (RB b R)) N [] e ρ b X S :=
  fun w m => wq_leave (w := w) he (fun a ha => by have h1 := ha.getD hv; have h2 := ha.getD hv'; have h3 := ha.getD hv''; simp at h1 h2 h3; simp [results, hr, h1, h2, h3]) ⟨_, _, _, rfl, hR, m.out is hX js hS⟩
end
end Go.Eng
end
section
/- The engine over things in memory, fourth part: maps. No statement is proved here. -/
set_option linter.unusedVariables false
set_option linter.unusedSimpArgs false
set_option linter.unusedSectionVars false
namespace Go.Eng
open Go.RowKit
open Go.ChangeMaps (setBlock)
/-! ### Lists by keys -/
section
variable {κ α : Type} [DecidableEq κ]
def aget : List (κ × α) → κ → Option α
  | [], _ => none
  | (k, v) :: r, q => if k = q then some v else aget r q
def aput : List (κ × α) → κ → α → List (κ × α)
  | [], q, u => [(q, u)]
  | (k, v) :: r, q, u => if k = q then (k, u) :: r else (k, v) :: aput r q u
def adel : List (κ × α) → κ → List (κ × α)
  | [], _ => []
  | (k, v) :: r, q => if k = q then r else (k, v) :: adel r q
def akeys (l : List (κ × α)) : List κ := l.map (·.1)
theorem aput_keys : ∀ (l : List (κ × α)) (q : κ) (u : α), akeys (aput l q u) = if q ∈ akeys l then akeys l else akeys l ++ [q]
  | [], q, u => by simp [akeys, aput]
  | (k, v) :: r, q, u => by
    have ih := aput_keys r q u
    unfold aput
    by_cases h : k = q
    · simp [h, akeys]
    · have h' : ¬ q = k := fun e => h e.symm
      rw [if_neg h]
      simp only [akeys, List.map_cons, List.mem_cons, h', false_or] at ih ⊢
      by_cases hm : q ∈ List.map (fun x => x.fst) r <;> simp [hm, ih]
theorem nodup_snoc {l : List κ} {q : κ} (h : l.Nodup) (hq : ¬ q ∈ l) : (l ++ [q]).Nodup := by
  rw [List.nodup_append]
  refine ⟨h, by simp, fun a ha b hb e => ?_⟩
  rcases List.mem_singleton.1 hb with rfl
  exact hq (e ▸ ha)
theorem aput_nodup {l : List (κ × α)} {q : κ} {u : α} (h : (akeys l).Nodup) : (akeys (aput l q u)).Nodup := by
  rw [aput_keys]
  split
  · exact h
  · rename_i hq
    exact nodup_snoc h hq
theorem adel_keys : ∀ (l : List (κ × α)) (q : κ), akeys (adel l q) = (akeys l).erase q
  | [], q => by simp [akeys, adel]
  | (k, v) :: r, q => by
    have ih := adel_keys r q
    unfold adel
    by_cases h : k = q
    · simp [h, akeys]
    · rw [if_neg h]
      simp only [akeys, List.map_cons] at ih ⊢
      rw [List.erase_cons, ih]
      simp [h]
theorem adel_nodup {l : List (κ × α)} {q : κ} (h : (akeys l).Nodup) : (akeys (adel l q)).Nodup := by
  rw [adel_keys]
  exact h.sublist List.erase_sublist
theorem aget_none {l : List (κ × α)} {q : κ} : aget l q = none ↔ ¬ q ∈ akeys l := by
  induction l with
  | nil => simp [aget, akeys]
  | cons p r ih =>
    obtain ⟨k, v⟩ := p
    simp only [aget, akeys, List.map_cons, List.mem_cons] at ih ⊢
    by_cases h : k = q
    · simp [h]
    · have h' : ¬ q = k := fun e => h e.symm
      rw [if_neg h, ih]; simp [h']
theorem aget_mem {l : List (κ × α)} {q : κ} {v : α} (h : aget l q = some v) : (q, v) ∈ l := by
  induction l with
  | nil => simp [aget] at h
  | cons p r ih =>
    obtain ⟨k, u⟩ := p
    simp only [aget] at h
    split at h
    · rename_i e; cases h; simp [e]
    · exact List.mem_cons_of_mem _ (ih h)
theorem aget_of_mem {l : List (κ × α)} {q : κ} {v : α} (hn : (akeys l).Nodup) (h : (q, v) ∈ l) : aget l q = some v := by
  induction l with
  | nil => simp at h
  | cons p r ih =>
    obtain ⟨k, u⟩ := p
    simp only [akeys, List.map_cons, List.nodup_cons] at hn
    simp only [aget]
    rcases List.mem_cons.1 h with e | h
    · cases e; simp
    · have : k ≠ q := fun e => hn.1 (by rw [e]; exact List.mem_map.2 ⟨_, h, rfl⟩)
      rw [if_neg this]
      exact ih hn.2 h
theorem aget_aput {l : List (κ × α)} {q p : κ} {u : α} : aget (aput l q u) p = if q = p then some u else aget l p := by
  induction l with
  | nil => simp only [aput, aget]
  | cons x r ih =>
    obtain ⟨k, v⟩ := x
    simp only [aput]
    by_cases h : k = q
    · subst h
      rw [if_pos rfl]
      simp only [aget]
      split <;> simp_all
    · rw [if_neg h]
      simp only [aget, ih]
      by_cases h1 : k = p
      · have : ¬ q = p := fun e => h (by rw [h1, e])
        simp [h1, this]
      · simp [h1]
theorem aget_adel {l : List (κ × α)} {q p : κ} (hn : (akeys l).Nodup) : aget (adel l q) p = if q = p then none else aget l p := by
  induction l with
  | nil => simp [adel, aget]
  | cons x r ih =>
    obtain ⟨k, v⟩ := x
    simp only [akeys, List.map_cons, List.nodup_cons] at hn
    simp only [adel]
    by_cases h : k = q
    · subst h
      rw [if_pos rfl]
      simp only [aget]
      by_cases h1 : k = p
      · subst h1
        rw [if_pos rfl]
        exact aget_none.2 hn.1
      · rw [if_neg h1, if_neg h1]
    · rw [if_neg h]
      simp only [aget, ih hn.2]
      by_cases h1 : k = p
      · have : ¬ q = p := fun e => h (by rw [h1, e])
        simp [h1, this]
      · simp [h1]
end
/-! ### Keys -/
/-- what the machine does with keys of a type -/
structure KeyK (P : Program) (kt : TypeId) {κ : Type} (enc : κ → Value) : Prop where
  inj : ∀ a b, enc a = enc b → a = b
  check : ∀ w e k, (Instr.checkKey e 10000 kt (enc k)).run P w = .ok () w
  find : ∀ w (k : κ) (es : List MapEntry), (∀ x ∈ es, ∃ q, x.key = enc q) →
    (∃ i x, es[i]? = some x ∧ x.key = enc k ∧ (Instr.findKey kt (enc k) es).run P w = .ok (some (i, x.val)) w) ∨ ((∀ x ∈ es, x.key ≠ enc k) ∧ (Instr.findKey kt (enc k) es).run P w = .ok none w)
  stays : ∀ w k, (Instr.keyThatStays (enc k) (enc k)).run P w = .ok (enc k) w
def SV (s : List UInt8) : Value := .string (strOf s)
def DV (d : List UInt8) : Value := .agg (b8s d).toArray
theorem SV_inj {a b : List UInt8} (h : SV a = SV b) : a = b := by
  simp only [SV, Value.string.injEq] at h
  exact strOf_inj.1 h
theorem DV_inj {a b : List UInt8} (h : DV a = DV b) : a = b := by
  simp only [DV, Value.agg.injEq] at h
  exact b8s_inj (List.toArray_inj h)
theorem strBeq (a b : ByteArray) : (a == b) = decide (a = b) := by
  by_cases h : a = b
  · subst h
    rw [decide_eq_true rfl]
    cases a with | mk d =>
    show (d == d) = true
    simp
  · rw [decide_eq_false h]
    cases a with | mk d =>
    cases b with | mk d' =>
    show (d == d') = false
    have : d ≠ d' := fun e => h (by rw [e])
    simpa using this
theorem findNow_str (k : List UInt8) : ∀ (es : List MapEntry) (i : Nat), (∀ x ∈ es, ∃ q, x.key = SV q) →
    (∃ j x, es[j]? = some x ∧ x.key = SV k ∧ Instr.findNow .string (SV k) es i = some (some (i + j, x.val))) ∨ ((∀ x ∈ es, x.key ≠ SV k) ∧ Instr.findNow .string (SV k) es i = some none)
  | [], i, _ => .inr ⟨by simp, rfl⟩
  | e :: es, i, h => by
    obtain ⟨q, hq⟩ := h e (by simp)
    have hs : Instr.sameNow .string (SV k) e.key = some (decide (k = q)) := by
      rw [hq, show Instr.sameNow .string (SV k) (SV q) = some (strOf k == strOf q) from rfl, strBeq]
      congr 1
      simp only [strOf_inj]
    by_cases hk : k = q
    · refine .inl ⟨0, e, rfl, by rw [hq, hk], ?_⟩
      subst hk
      unfold Instr.findNow
      rw [hs]
      simp
    · rw [decide_eq_false hk] at hs
      rcases findNow_str k es (i + 1) (fun x hx => h x (by simp [hx])) with ⟨j, x, hj, hx, hf⟩ | ⟨hall, hf⟩
      · refine .inl ⟨j + 1, x, by simpa using hj, hx, ?_⟩
        unfold Instr.findNow
        rw [hs]
        simp only [hf]
        rw [show i + 1 + j = i + (j + 1) by omega]
      · refine .inr ⟨fun x hx => ?_, ?_⟩
        · rcases List.mem_cons.1 hx with rfl | hx
          · rw [hq]; exact fun e => hk (SV_inj e).symm
          · exact hall x hx
        · unfold Instr.findNow
          rw [hs]
          exact hf
theorem strKey {P : Program} {kt : TypeId} (ht : P.underlying kt = some .string) : KeyK P kt SV where
  inj _ _ := SV_inj
  check w e k := by
    unfold Instr.checkKey
    simp [run_underlying ht, SV]
  find w k es h := by
    rcases findNow_str k es 0 h with ⟨j, x, hj, hx, hf⟩ | ⟨hall, hf⟩
    · refine .inl ⟨j, x, hj, hx, ?_⟩
      simp [Instr.findKey, run_underlying ht, hf]
    · exact .inr ⟨hall, by simp [Instr.findKey, run_underlying ht, hf]⟩
  stays w k := by
    have : Instr.sameBits 10000 (SV k) (SV k) = true := by
      show (strOf k == strOf k) = true
      rw [strBeq]; simp
    simp [Instr.keyThatStays, this]
/-! ### A map -/
section
variable {κ : Type} {enc : κ → Value}
/-- Block b is a map of these, in the order in which they came. -/
def MapAt (enc : κ → Value) (w : World) (b : Nat) (l : List (κ × Value)) : Prop :=
  ∃ es clock, w.heap[b]? = some (.map es clock) ∧ es.toList.map (fun e => (e.key, e.val)) = l.map (fun p => (enc p.1, p.2)) ∧ (akeys l).Nodup ∧ (∀ e ∈ es.toList, e.born < clock) ∧ (es.toList.map (·.born)).Nodup
def RMap (enc : κ → Value) (b : Nat) (l : List (κ × Value)) : Res where
  foot k := k = b
  holds w := MapAt enc w b l
  keep f h m := by
    obtain ⟨es, clock, hb, rest⟩ := m
    exact ⟨es, clock, (f.block b (lt_of_heap hb) (h b rfl)).trans hb, rest⟩
  low m hk := by
    obtain ⟨es, clock, hb, rest⟩ := m
    exact hk ▸ lt_of_heap hb
variable {P : Program} {w : World} {b : Nat} {l : List (κ × Value)} {kt et t : TypeId}
theorem MapAt.keys (h : MapAt enc w b l) : (akeys l).Nodup := by
  obtain ⟨_, _, _, _, hn, _⟩ := h
  exact hn
theorem map_pairs_get {es : List MapEntry} {l : List (κ × Value)} (h : es.map (fun e => (e.key, e.val)) = l.map (fun p => (enc p.1, p.2))) {i : Nat} {x : MapEntry} (hx : es[i]? = some x) : ∃ p, l[i]? = some p ∧ x.key = enc p.1 ∧ x.val = p.2 := by
  have := congrArg (fun q : List (Value × Value) => q[i]?) h
  simp only [List.getElem?_map, hx, Option.map_some] at this
  cases hp : l[i]? with
  | none => rw [hp] at this; simp at this
  | some p =>
    rw [hp] at this
    simp only [Option.map_some, Option.some.injEq, Prod.mk.injEq] at this
    exact ⟨p, rfl, this.1, this.2⟩
theorem entries_enc {es : List MapEntry} {l : List (κ × Value)} (h : es.map (fun e => (e.key, e.val)) = l.map (fun p => (enc p.1, p.2))) : ∀ x ∈ es, ∃ q, x.key = enc q := by
  intro x hx
  obtain ⟨i, hi⟩ := List.mem_iff_getElem?.1 hx
  obtain ⟨p, _, hk, _⟩ := map_pairs_get h hi
  exact ⟨p.1, hk⟩
variable [DecidableEq κ]
theorem aget_at {l : List (κ × Value)} (hn : (akeys l).Nodup) {i : Nat} {p : κ × Value} (h : l[i]? = some p) : aget l p.1 = some p.2 := aget_of_mem hn (List.mem_of_getElem? h)
/-- what stands at a key -/
theorem MapAt.found (h : MapAt enc w b l) (K : KeyK P kt enc) (k : κ) : ∃ es clock, w.heap[b]? = some (.map es clock) ∧ es.toList.map (fun e => (e.key, e.val)) = l.map (fun p => (enc p.1, p.2)) ∧
    (∀ e ∈ es.toList, e.born < clock) ∧ (es.toList.map (·.born)).Nodup ∧
    ((∃ i x, es.toList[i]? = some x ∧ l[i]? = some (k, x.val) ∧ aget l k = some x.val ∧ x.key = enc k ∧ (Instr.findKey kt (enc k) es.toList).run P w = .ok (some (i, x.val)) w) ∨
     (aget l k = none ∧ (Instr.findKey kt (enc k) es.toList).run P w = .ok none w)) := by
  obtain ⟨es, clock, hb, hl, hn, hborn, hnb⟩ := h
  refine ⟨es, clock, hb, hl, hborn, hnb, ?_⟩
  rcases K.find w k es.toList (entries_enc hl) with ⟨i, x, hi, hx, hf⟩ | ⟨hall, hf⟩
  · obtain ⟨p, hp, hpk, hpv⟩ := map_pairs_get hl hi
    have e : p.1 = k := K.inj _ _ (hpk.symm.trans hx)
    have hp' : l[i]? = some (k, x.val) := by rw [hp, hpv, ← e]
    exact .inl ⟨i, x, hi, hp', by have := aget_at hn hp'; exact this, hx, hf⟩
  · refine .inr ⟨aget_none.2 fun hk => ?_, hf⟩
    obtain ⟨p, hp, e⟩ := List.mem_map.1 hk
    obtain ⟨i, hi⟩ := List.mem_iff_getElem?.1 hp
    have h1 := congrArg (fun q : List (Value × Value) => q[i]?) hl
    simp only [List.getElem?_map, hi, Option.map_some] at h1
    cases hx : es.toList[i]? with
    | none => simp [hx] at h1
    | some x =>
      simp only [hx, Option.map_some, Option.some.injEq, Prod.mk.injEq] at h1
      exact hall x (List.mem_of_getElem? hx) (by rw [h1.1, e])
def lookVal (ok : Bool) (z : Value) (o : Option Value) : Value := if ok then .tuple #[o.getD z, .bool o.isSome] else o.getD z
theorem run_zero {z : Value} {sz bytes : Nat} (hT : TI P et z sz bytes) : (zeroValue et).run P w = .ok z w := by
  obtain ⟨i, hi, hz, _, _⟩ := hT.get
  simp [zeroValue, typeInfo, hi, hz]
theorem run_lookupM {z : Value} {sz bytes : Nat} {ok : Bool} (ht : P.underlying t = some (.map kt et)) (hT : TI P et z sz bytes) (K : KeyK P kt enc) (h : MapAt enc w b l) (k : κ) :
    (Instr.lookup t (.map (some b)) (enc k) ok).run P w = .ok (lookVal ok z (aget l k)) w := by
  obtain ⟨es, clock, hb, hl, hborn, hnb, hf⟩ := h.found K k
  have hg : (getObj b).run P w = .ok (.map es clock) w := by simp [getObj, Sem.run, hb]
  have hc := K.check w es.isEmpty k
  have hz := run_zero (w := w) hT
  rcases hf with ⟨i, x, hi, hp, ha, hx, hf⟩ | ⟨ha, hf⟩ <;> cases ok <;> simp [Instr.lookup, run_underlying ht, hg, hc, hf, ha, hz, lookVal]
theorem run_lenM (ht : P.underlying t = some (.map kt et)) (h : MapAt enc w b l) (ty : TypeId) : (Builtin.len_ #[t] ty #[.map (some b)]).run P w = .ok (.int .i64 (l.length : Nat)) w := by
  obtain ⟨es, clock, hb, hl, _⟩ := h
  have hg : (getObj b).run P w = .ok (.map es clock) w := by simp [getObj, Sem.run, hb]
  have : es.size = l.length := by
    have := congrArg List.length hl
    simpa using this
  simp [Builtin.len_, run_underlying ht, hg, goInt, this]
theorem setBlock_fr {o' : Obj} : Fr (fun k => k = b) w (setBlock w b o') :=
  ⟨rfl, rfl, rfl, by simp [setBlock], fun k hk hn => by
    simp only [setBlock]
    rw [Array.getElem?_setIfInBounds_ne (fun e => hn e.symm)]⟩
theorem setBlock_at {o o' : Obj} (h : w.heap[b]? = some o) : (setBlock w b o').heap[b]? = some o' := by
  have hlt := lt_of_heap h
  simp [setBlock, hlt]
theorem run_setObjM {es es' : Array MapEntry} {c c' : Nat} (hb : w.heap[b]? = some (.map es c)) : (setObj b (.map es' c')).run P w = .ok () (setBlock w b (.map es' c')) := by
  simp [setObj, Sem.run, hb, setBlock]
theorem aput_at {l : List (κ × Value)} {k : κ} {v u : Value} : ∀ {i : Nat}, (akeys l).Nodup → l[i]? = some (k, u) → aput l k v = l.set i (k, v) := by
  induction l with
  | nil => intro i _ h; simp at h
  | cons p r ih =>
    intro i hn h
    obtain ⟨q, x⟩ := p
    simp only [akeys, List.map_cons, List.nodup_cons] at hn
    cases i with
    | zero =>
      simp only [List.getElem?_cons_zero, Option.some.injEq, Prod.mk.injEq] at h
      simp [aput, h.1]
    | succ i =>
      simp only [List.getElem?_cons_succ] at h
      have hne : q ≠ k := fun e => hn.1 (by rw [e]; exact List.mem_map.2 ⟨_, List.mem_of_getElem? h, rfl⟩)
      simp only [aput, hne, if_false, List.set_cons_succ]
      rw [ih hn.2 h]
theorem adel_at {l : List (κ × Value)} {k : κ} {u : Value} : ∀ {i : Nat}, (akeys l).Nodup → l[i]? = some (k, u) → adel l k = l.eraseIdx i := by
  induction l with
  | nil => intro i _ h; simp at h
  | cons p r ih =>
    intro i hn h
    obtain ⟨q, x⟩ := p
    simp only [akeys, List.map_cons, List.nodup_cons] at hn
    cases i with
    | zero =>
      simp only [List.getElem?_cons_zero, Option.some.injEq, Prod.mk.injEq] at h
      simp [adel, h.1]
    | succ i =>
      simp only [List.getElem?_cons_succ] at h
      have hne : q ≠ k := fun e => hn.1 (by rw [e]; exact List.mem_map.2 ⟨_, List.mem_of_getElem? h, rfl⟩)
      simp only [adel, hne, if_false, List.eraseIdx_cons_succ]
      rw [ih hn.2 h]
theorem aput_new {l : List (κ × Value)} {k : κ} {v : Value} (h : aget l k = none) : aput l k v = l ++ [(k, v)] := by
  induction l with
  | nil => rfl
  | cons p r ih =>
    obtain ⟨q, x⟩ := p
    simp only [aget] at h
    split at h
    · cases h
    · rename_i hne
      simp only [aput, hne, if_false, ih h, List.cons_append]
theorem adel_none {l : List (κ × Value)} {k : κ} (h : aget l k = none) : adel l k = l := by
  induction l with
  | nil => rfl
  | cons p r ih =>
    obtain ⟨q, x⟩ := p
    simp only [aget] at h
    split at h
    · cases h
    · rename_i hne
      simp only [adel, hne, if_false, ih h]
theorem run_updateM (ht : P.underlying t = some (.map kt et)) (K : KeyK P kt enc) (h : MapAt enc w b l) (k : κ) (v : Value) :
    ∃ w', (Instr.mapUpdate t (.map (some b)) (enc k) v).run P w = .ok () w' ∧ MapAt enc w' b (aput l k v) ∧ Fr (fun i => i = b) w w' ∧ w'.heap.size = w.heap.size := by
  have hn := h.keys
  obtain ⟨es, clock, hb, hl, hborn, hnb, hf⟩ := h.found K k
  have hg : (getObj b).run P w = .ok (.map es clock) w := by simp [getObj, Sem.run, hb]
  have hc := K.check w false k
  rcases hf with ⟨i, x, hi, hp, ha, hx, hf⟩ | ⟨ha, hf⟩
  · have hst := K.stays w k
    have hxi : es[i]? = some x := by simpa using hi
    refine ⟨setBlock w b (.map (es.modify i fun e => { e with key := enc k, val := v }) clock), ?_, ⟨_, clock, setBlock_at hb, ?_, aput_nodup hn, ?_, ?_⟩, setBlock_fr, by simp [setBlock]⟩
    · simp [Instr.mapUpdate, run_underlying ht, hg, hc, hf, hxi, hx, hst, run_setObjM hb]
    · rw [aput_at hn hp, Array.toList_modify]
      apply List.ext_getElem?
      intro j
      have hj := congrArg (fun q : List (Value × Value) => q[j]?) hl
      simp only [List.getElem?_map] at hj
      simp only [List.getElem?_map, List.getElem?_modify, List.getElem?_set]
      by_cases hij : i = j
      · subst hij
        have hlt := (List.getElem?_eq_some_iff.1 hp).1
        simp [hi, hlt]
      · simp only [hij, if_false]
        simpa using hj
    · intro e he
      rw [Array.toList_modify] at he
      obtain ⟨j, hj⟩ := List.mem_iff_getElem?.1 he
      rw [List.getElem?_modify] at hj
      cases hej : es.toList[j]? with
      | none => rw [hej] at hj; simp at hj
      | some e0 =>
        have := hborn e0 (List.mem_of_getElem? hej)
        rw [hej] at hj
        simp only [Option.map_eq_map, Option.map_some, Option.some.injEq] at hj
        subst hj
        split <;> exact this
    · have : (es.modify i fun e => { e with key := enc k, val := v }).toList.map (·.born) = es.toList.map (·.born) := by
        apply List.ext_getElem?
        intro j
        rw [Array.toList_modify]
        simp only [List.getElem?_map, List.getElem?_modify]
        cases es.toList[j]? with
        | none => rfl
        | some e0 => simp only [Option.map_eq_map, Option.map_some]; split <;> rfl
      rw [this]
      exact hnb
  · refine ⟨setBlock w b (.map (es.push { key := enc k, val := v, born := clock }) (clock + 1)), ?_, ⟨_, _, setBlock_at hb, ?_, aput_nodup hn, ?_, ?_⟩, setBlock_fr, by simp [setBlock]⟩
    · simp [Instr.mapUpdate, run_underlying ht, hg, hc, hf, run_setObjM hb]
    · rw [aput_new ha, Array.toList_push, List.map_append, hl]
      simp
    · intro e he
      rw [Array.toList_push] at he
      rcases List.mem_append.1 he with he | he
      · have := hborn e he; omega
      · rcases List.mem_singleton.1 he with rfl
        exact Nat.lt_succ_self _
    · rw [Array.toList_push, List.map_append]
      refine nodup_snoc hnb (fun hm => ?_)
      obtain ⟨e, he, hk⟩ := List.mem_map.1 hm
      have := hborn e he
      simp only at hk
      omega
theorem map_eraseIdx {α β : Type} (f : α → β) : ∀ (l : List α) (i : Nat), (l.eraseIdx i).map f = (l.map f).eraseIdx i
  | [], i => by simp
  | a :: r, 0 => by simp
  | a :: r, i + 1 => by simp [map_eraseIdx f r i]
theorem run_deleteM (ht : P.underlying t = some (.map kt et)) (K : KeyK P kt enc) (h : MapAt enc w b l) (k : κ) (t' ty : TypeId) :
    ∃ w', (Builtin.delete_ #[t, t'] ty #[.map (some b), enc k]).run P w = .ok (.tuple #[]) w' ∧ MapAt enc w' b (adel l k) ∧ Fr (fun i => i = b) w w' ∧ w'.heap.size = w.heap.size := by
  have hn := h.keys
  obtain ⟨es, clock, hb, hl, hborn, hnb, hf⟩ := h.found K k
  have hg : (getObj b).run P w = .ok (.map es clock) w := by simp [getObj, Sem.run, hb]
  have hc := K.check w es.isEmpty k
  rcases hf with ⟨i, x, hi, hp, ha, hx, hf⟩ | ⟨ha, hf⟩
  · refine ⟨setBlock w b (.map (es.eraseIdxIfInBounds i) clock), ?_, ⟨_, clock, setBlock_at hb, ?_, adel_nodup hn, ?_, ?_⟩, setBlock_fr, by simp [setBlock]⟩
    · simp [Builtin.delete_, run_underlying ht, hg, hc, hf, run_setObjM hb]
    · rw [adel_at hn hp]
      have e1 : (es.eraseIdxIfInBounds i).toList = es.toList.eraseIdx i := by simp
      rw [e1, map_eraseIdx, hl, map_eraseIdx]
    · intro e he
      have e1 : (es.eraseIdxIfInBounds i).toList = es.toList.eraseIdx i := by simp
      rw [e1] at he
      exact hborn e (List.mem_of_mem_eraseIdx he)
    · have e1 : (es.eraseIdxIfInBounds i).toList = es.toList.eraseIdx i := by simp
      rw [e1, map_eraseIdx]
      exact hnb.sublist (List.eraseIdx_sublist _ _)
  · refine ⟨setBlock w b (.map es clock), ?_, ⟨es, clock, setBlock_at hb, by rw [adel_none ha]; exact hl, adel_nodup hn, hborn, hnb⟩, setBlock_fr, by simp [setBlock]⟩
    simp [Builtin.delete_, run_underlying ht, hg, hc, hf, run_setObjM hb]
end
end Go.Eng
end
section
/- The engine over things in memory, fifth part: operations on maps, ranges over maps, locks, what is done at a function's end. No statement is proved here. -/
set_option linter.unusedVariables false
set_option linter.unusedSimpArgs false
set_option linter.unusedSectionVars false
namespace Go.Eng
open Go.RowKit
open Go.ChangeMaps (setBlock)
/-! ### a range over a map -/
/-- Block r is an iterator over the map in block b, of which these are left; cur: the one that came last. -/
def RngAt {κ : Type} (enc : κ → Value) (w : World) (r b : Nat) (l left : List (κ × Value)) (cur : Option (κ × Value)) : Prop :=
  ∃ es clock since seen, r ≠ b ∧ w.heap[b]? = some (.map es clock) ∧ w.heap[r]? = some (.mapIter (some b) since seen clock) ∧ since ≤ clock ∧ es.toList.map (fun e => (e.key, e.val)) = l.map (fun p => (enc p.1, p.2)) ∧ (akeys l).Nodup ∧
    (∀ e ∈ es.toList, e.born < clock) ∧ (∀ e ∈ es.toList, e.born < since) ∧ (es.toList.map (·.born)).Nodup ∧ (leftOf es seen).toList.map (fun e => (e.key, e.val)) = left.map (fun p => (enc p.1, p.2)) ∧
    ∀ p, cur = some p → ∃ (e : MapEntry) (seen' : Array Nat), e ∈ es.toList ∧ seen = seen'.push e.born ∧ e.key = enc p.1 ∧ e.val = p.2
def RRng {κ : Type} (enc : κ → Value) (r b : Nat) (l left : List (κ × Value)) (cur : Option (κ × Value)) : Res where
  foot k := k = r ∨ k = b
  holds w := RngAt enc w r b l left cur
  keep f h m := by
    obtain ⟨es, clock, since, seen, hne, hb, hr, rest⟩ := m
    exact ⟨es, clock, since, seen, hne, (f.block b (lt_of_heap hb) (h b (.inr rfl))).trans hb, (f.block r (lt_of_heap hr) (h r (.inl rfl))).trans hr, rest⟩
  low m hk := by
    obtain ⟨es, clock, since, seen, hne, hb, hr, rest⟩ := m
    rcases hk with rfl | rfl
    · exact lt_of_heap hr
    · exact lt_of_heap hb
theorem filter_push {α : Type} {f : α → Nat} : ∀ {L : List α} {j : Nat} {e : α}, (L.map f).Nodup → L[j]? = some e → L.filter (fun x => decide (f x ≠ f e)) = L.eraseIdx j
  | [], j, e, _, h => by simp at h
  | a :: r, 0, e, hn, h => by
    simp only [List.getElem?_cons_zero, Option.some.injEq] at h
    subst h
    simp only [List.map_cons, List.nodup_cons] at hn
    rw [List.filter_cons_of_neg (by simp), List.eraseIdx_cons_zero, List.filter_eq_self]
    intro x hx
    have : f x ≠ f a := fun e => hn.1 (by rw [← e]; exact List.mem_map.2 ⟨x, hx, rfl⟩)
    simpa using this
  | a :: r, j + 1, e, hn, h => by
    simp only [List.getElem?_cons_succ] at h
    simp only [List.map_cons, List.nodup_cons] at hn
    have : f a ≠ f e := fun e' => hn.1 (by rw [e']; exact List.mem_map.2 ⟨e, List.mem_of_getElem? h, rfl⟩)
    rw [List.filter_cons_of_pos (by simpa using this), List.eraseIdx_cons_succ, filter_push hn.2 h]
theorem leftOf_push {es : Array MapEntry} {seen : Array Nat} {j : Nat} {e : MapEntry} (hn : (es.toList.map (·.born)).Nodup) (h : (leftOf es seen).toList[j]? = some e) : (leftOf es (seen.push e.born)).toList = (leftOf es seen).toList.eraseIdx j := by
  have hs : ((leftOf es seen).toList.map (·.born)).Nodup := by
    unfold leftOf
    rw [Array.toList_filter]
    exact hn.sublist (List.Sublist.map _ List.filter_sublist)
  rw [← filter_push (f := (·.born)) hs h]
  unfold leftOf
  rw [Array.toList_filter, Array.toList_filter, List.filter_filter]
  congr 1
  funext x
  simp only [Array.contains_push]
  by_cases h1 : x.born = e.born
  · simp [h1]
  · have : ¬ e.born = x.born := fun e' => h1 e'.symm
    simp [h1, this]
section
variable {P : Program} {Q : Exit → Act → World → Prop} {N : Nat} {D : List Deferred} {ρ : Env} {b : Base} {X S : List Res} {ty t t' kt et : TypeId} {x y z : Operand} {v : Value} {K : Value → List Res → List Res → Prop}
variable {κ : Type} [DecidableEq κ] {enc : κ → Value} {g : Nat} {l : List (κ × Value)}
theorem y_lookM {w : World} {zv : Value} {sz bytes : Nat} {ok : Bool} {k : κ} (hx : ev ρ x = some (.map (some g))) (hy : ev ρ y = some (enc k)) (ht : P.underlying t = some (.map kt et)) (hT : TI P et zv sz bytes) (KK : KeyK P kt enc) (h : MapAt enc w g l) :
    Yl P N D ρ w (.lookup t x y ok) ty (lookVal ok zv (aget l k)) := fun a _ _ _ _ ha => by
  have := run_lookupM (ok := ok) ht hT KK h k
  simp [execOp, ha.eval hx, ha.eval hy, this]
theorem y_lenM {w : World} (hx : ev ρ x = some (.map (some g))) (ht : P.underlying t = some (.map kt et)) (h : MapAt enc w g l) : Yl P N D ρ w (.call ⟨.builtin .len, #[x], #[t]⟩) ty (.int .i64 (l.length : Nat)) := fun a _ _ _ _ ha => by
  have := run_lenM ht h ty
  simp [execOp, resolve, invoke, builtin, ha.eval hx, this]
theorem Mem.mapX {w : World} (m : Mem b X S w) (i : Nat) (h : X[i]? = some (RMap enc g l)) : MapAt enc w g l := m.hx _ (List.mem_of_getElem? h)
theorem xh_mapup {k : κ} (i : Nat) (hi : X[i]? = some (RMap enc g l)) (hx : ev ρ x = some (.map (some g))) (hy : ev ρ y = some (enc k)) (hz : ev ρ z = some v) (ht : P.underlying t = some (.map kt et)) (KK : KeyK P kt enc)
    (k' : K undef (RMap enc g (aput l k v) :: X.eraseIdx i) S) : XH P Q N D ρ b X S (.mapUpdate t x y z) ty K := fun w m => by
  obtain ⟨w', hr, hm, hf, hs⟩ := run_updateM (P := P) ht KK (m.mapX i hi) k v
  refine xw_of_run0 (w' := w') (fun a _ _ _ _ ha => ?_) ⟨_, _, ?_, k'⟩
  · simp [execOp, ha.eval hx, ha.eval hy, ha.eval hz, hr]
  · have m' := m.perm (takeR_perm [i] X [RMap enc g l] (X.eraseIdx i) (by simp [takeR, hi]))
    exact m'.change (r' := RMap enc g (aput l k v)) hf hm (fun k hk => .inl hk)
theorem xh_mapins {k : κ} (i : Nat) (hi : X[i]? = some (RMap enc g l)) (hx : ev ρ x = some (.map (some g))) (hy : ev ρ y = some (enc k)) (hz : ev ρ z = some v) (ht : P.underlying t = some (.map kt et)) (KK : KeyK P kt enc)
    (k' : K undef (RMap enc g (aput l k v) :: X.eraseIdx i) S) : XH P Q N D ρ b X S (.insert t x y z) ty K := fun w m => by
  obtain ⟨w', hr, hm, hf, hs⟩ := run_updateM (P := P) ht KK (m.mapX i hi) k v
  refine xw_of_run0 (w' := w') (fun a _ _ _ _ ha => ?_) ⟨_, _, ?_, k'⟩
  · simp [execOp, ha.eval hx, ha.eval hy, ha.eval hz, hr]
  · have m' := m.perm (takeR_perm [i] X [RMap enc g l] (X.eraseIdx i) (by simp [takeR, hi]))
    exact m'.change (r' := RMap enc g (aput l k v)) hf hm (fun k hk => .inl hk)
theorem xh_mapdel {k : κ} (i : Nat) (hi : X[i]? = some (RMap enc g l)) (hx : ev ρ x = some (.map (some g))) (hy : ev ρ y = some (enc k)) (ht : P.underlying t = some (.map kt et)) (KK : KeyK P kt enc)
    (k' : K (.tuple #[]) (RMap enc g (adel l k) :: X.eraseIdx i) S) : XH P Q N D ρ b X S (.call ⟨.builtin .delete, #[x, y], #[t, t']⟩) ty K := fun w m => by
  obtain ⟨w', hr, hm, hf, hs⟩ := run_deleteM (P := P) ht KK (m.mapX i hi) k t' ty
  refine xw_of_run (v' := .tuple #[]) (w' := w') (fun a _ _ _ _ ha => ?_) ⟨_, _, ?_, k'⟩
  · simp [execOp, resolve, invoke, builtin, ha.eval hx, ha.eval hy, hr]
  · have m' := m.perm (takeR_perm [i] X [RMap enc g l] (X.eraseIdx i) (by simp [takeR, hi]))
    exact m'.change (r' := RMap enc g (adel l k)) hf hm (fun k hk => .inl hk)
theorem mapAt_new (enc : κ → Value) (w : World) : MapAt enc (w.alloc (.map #[] 0)) w.heap.size ([] : List (κ × Value)) := ⟨#[], 0, heap_alloc_new w _, rfl, by simp [akeys], by simp, by simp⟩
theorem xh_mkmap (enc : κ → Value) (k : ∀ g, K (.map (some g)) (RMap enc g ([] : List (κ × Value)) :: X) S) : XH P Q N D ρ b X S (.makeMap t none) ty K := fun w m => by
  refine xw_of_run (v' := .map (some w.heap.size)) (w' := w.alloc (.map #[] 0)) (fun a _ _ _ _ ha => ?_) ⟨_, _, m.addX (r' := RMap enc w.heap.size ([] : List (κ × Value))) (Fr.alloc w _) (mapAt_new enc w) (fun k hk => Nat.le_of_eq (Eq.symm hk)), k _⟩
  simp [execOp, Instr.makeMap, newObj, Sem.run]
theorem leftOf_empty (es : Array MapEntry) : leftOf es #[] = es := by
  unfold leftOf
  rw [Array.filter_eq_self]
  intro e _
  simp
theorem xh_range (i : Nat) (hi : X[i]? = some (RMap enc g l)) (hx : ev ρ x = some (.map (some g))) (ht : P.underlying t = some (.map kt et)) (k : ∀ r, K (.pointer (some ⟨r, 0, none⟩)) (RRng enc r g l l none :: X.eraseIdx i) S) : XH P Q N D ρ b X S (.range t x) ty K := fun w m => by
  obtain ⟨es, clock, hb, hl, hn, hborn, hnb⟩ := m.mapX i hi
  have hg : (getObj g).run P w = .ok (.map es clock) w := by simp [getObj, Sem.run, hb]
  refine xw_of_run (v' := .pointer (some ⟨w.heap.size, 0, none⟩)) (w' := w.alloc (.mapIter (some g) clock #[] clock)) (fun a _ _ _ _ ha => ?_) ⟨_, _, ?_, k _⟩
  · simp [execOp, ha.eval hx, Instr.range, run_underlying ht, hg, newObj, Sem.run]
  · have m' := m.perm (takeR_perm [i] X [RMap enc g l] (X.eraseIdx i) (by simp [takeR, hi]))
    have hlt := lt_of_heap hb
    have hf := Fr.alloc w (.mapIter (some g) clock #[] clock)
    have hb' := (hf.block g hlt (fun e => e)).trans hb
    refine m'.change (r' := RRng enc w.heap.size g l l none) (hf.mono (fun _ _ e => e.elim)) ⟨es, clock, clock, #[], by omega, hb', heap_alloc_new w _, Nat.le_refl _, hl, hn, hborn, hborn, hnb, by rw [leftOf_empty, hl], fun p hp => by cases hp⟩ (fun k hk => ?_)
    rcases hk with rfl | rfl
    · exact .inr (Nat.le_refl _)
    · exact .inl rfl
theorem xh_next {r : Nat} {left : List (κ × Value)} {cur : Option (κ × Value)} (i : Nat) (hi : X[i]? = some (RRng enc r g l left cur)) (hx : ev ρ x = some (.pointer (some ⟨r, 0, none⟩)))
    (h0 : left = [] → K (.tuple #[.bool false]) X S) (h1 : ∀ j p, left[j]? = some p → K (.tuple #[.bool true, enc p.1, p.2]) (RRng enc r g l (left.eraseIdx j) (some p) :: X.eraseIdx i) S) : XH P Q N D ρ b X S (.next x false) ty K := fun w m => by
  have hm : RngAt enc w r g l left cur := m.hx _ (List.mem_of_getElem? hi)
  obtain ⟨es, clock, since, seen, hne, hb, hr, hsc, hl, hn, hborn, hsince, hnb, hleft, hcur⟩ := hm
  rcases run_next_at (P := P) w ty r g since clock seen es clock hr hb hsince hsc with ⟨h0', hrun⟩ | ⟨e, he, w1, hw1, hrun⟩
  · have hz : left = [] := by
      have := congrArg List.length hleft
      simp only [List.length_map, Array.length_toList, h0'] at this
      exact List.eq_nil_of_length_eq_zero this.symm
    exact xw_of_run (fun a _ _ _ _ ha => by simp [execOp, ha.eval hx, hrun]) ⟨X, S, m, h0 hz⟩
  · obtain ⟨j, hj⟩ := List.mem_iff_getElem?.1 he
    obtain ⟨p, hp, hpk, hpv⟩ := map_pairs_get hleft hj
    have hfr : Fr No w w1 := by rcases hw1 with rfl | rfl; exact .refl _ _; exact Fr.drew w
    have m1 := m.lift hfr
    have hr1 : w1.heap[r]? = some (.mapIter (some g) since seen clock) := (hfr.block r (lt_of_heap hr) (fun e => e)).trans hr
    have hb1 : w1.heap[g]? = some (.map es clock) := (hfr.block g (lt_of_heap hb) (fun e => e)).trans hb
    have m' := m1.perm (takeR_perm [i] X [RRng enc r g l left cur] (X.eraseIdx i) (by simp [takeR, hi]))
    have hmem : e ∈ es.toList := by
      unfold leftOf at he
      rw [Array.toList_filter] at he
      exact (List.mem_filter.1 he).1
    refine xw_of_run (v' := .tuple #[.bool true, enc p.1, p.2]) (w' := setBlock w1 r (.mapIter (some g) since (seen.push e.born) clock)) (fun a _ _ _ _ ha => by simp [execOp, ha.eval hx, hrun, hpk, hpv]) ⟨_, _, ?_, h1 j p hp⟩
    have hb2 := (setBlock_fr (w := w1) (b := r) (o' := .mapIter (some g) since (seen.push e.born) clock)).block g (lt_of_heap hb1) (fun e => hne e.symm)
    have hl2 : (leftOf es (seen.push e.born)).toList.map (fun e => (e.key, e.val)) = (left.eraseIdx j).map (fun p => (enc p.1, p.2)) := by rw [leftOf_push hnb hj, map_eraseIdx, hleft, map_eraseIdx]
    refine m'.change (r' := RRng enc r g l (left.eraseIdx j) (some p)) (setBlock_fr.mono (fun k _ hk => .inl hk)) ⟨es, clock, since, seen.push e.born, hne, hb2.trans hb1, setBlock_at hr1, hsc, hl, hn, hborn, hsince, hnb, hl2, fun q hq => ?_⟩ (fun k hk => .inl hk)
    cases hq
    exact ⟨e, seen, hmem, rfl, hpk, hpv⟩
theorem Mem.rngX {w : World} {r : Nat} {left : List (κ × Value)} {cur : Option (κ × Value)} (m : Mem b X S w) (i : Nat) (h : X[i]? = some (RRng enc r g l left cur)) : RngAt enc w r g l left cur := m.hx _ (List.mem_of_getElem? h)
theorem y_entryM {w : World} {r : Nat} {left : List (κ × Value)} {p : κ × Value} (hx : ev ρ x = some (.pointer (some ⟨r, 0, none⟩))) (h : RngAt enc w r g l left (some p)) : Yl P N D ρ w (.entry x) ty (.tuple #[enc p.1, p.2]) := fun a _ _ _ _ ha => by
  obtain ⟨es, clock, since, seen, hne, hb, hr, hsc, hl, hn, hborn, hsince, hnb, hleft, hcur⟩ := h
  obtain ⟨e, seen', he, rfl, hk, hv⟩ := hcur p rfl
  have := run_entry_at (P := P) w r g since seen' es clock e hr hb he hnb
  simp [execOp, ha.eval hx, this, hk, hv]
theorem rng_map {w : World} {r : Nat} {left : List (κ × Value)} {cur : Option (κ × Value)} (h : RngAt enc w r g l left cur) : MapAt enc w g l := by
  obtain ⟨es, clock, since, seen, hne, hb, hr, hsc, hl, hn, hborn, hsince, hnb, hleft, hcur⟩ := h
  exact ⟨es, clock, hb, hl, hn, hborn, hnb⟩
/-- the range is over -/
theorem Mem.rngEnd {w : World} {r : Nat} {left : List (κ × Value)} {cur : Option (κ × Value)} (m : Mem b X S w) (i : Nat) (h : X[i]? = some (RRng enc r g l left cur)) : Mem b (RMap enc g l :: X.eraseIdx i) S w := by
  have m' := m.perm (takeR_perm [i] X [RRng enc r g l left cur] (X.eraseIdx i) (by simp [takeR, h]))
  exact m'.asX (r' := RMap enc g l) rng_map (fun k hk => .inr hk)
end
/-! ### digests as keys -/
abbrev Dg := {l : List UInt8 // l.length = 32}
def DK (d : Dg) : Value := DV d.1
theorem same_u8s (n : Nat) : ∀ l : List UInt8, ((b8s l).zip (b8s l)).all (fun (x, y) => Instr.sameBits n x y) = true
  | [] => rfl
  | a :: r => by
    have := same_u8s n r
    simp only [b8s, List.map_cons, List.zip_cons_cons, List.all_cons, Bool.and_eq_true] at this ⊢
    refine ⟨?_, this⟩
    cases n <;> simp [Instr.sameBits, B8]
theorem digKey {P : Program} {kt e : TypeId} {n : Nat} (hn : n = 32) (ht : P.underlying kt = some (.array n e)) (he : P.underlying e = some (.int .u8)) (hs : P.cellsOf kt = n) (hse : P.cellsOf e = 1) (hk : P.keyTypeAt 2 kt = true) : KeyK P kt DK where
  inj a b h := Subtype.ext (DV_inj h)
  check w em d := by
    subst hn
    have h1 : (DK d).formed P kt = true := by simp [Value.formed, DK, DV, ht, b8s_length, d.2, hs]
    have h2 := keyLits_b8 (P := P) (D := 0) (l := d.1) ht he hs hse d.2
    exact run_checkKey_deep em 9998 2 kt hk w 2 (DK d) _ h1 (by simpa [DK, DV, Value.cells] using h2)
  find w k es h := by
    subst hn
    have hag : aggB P kt = some true := by simp [aggB, ht]
    have heq : ∀ q : Dg, (Op.equal kt (DK k) (DK q)).run P w = .ok (decide (k = q)) w := fun q => by
      have h2 := keyLits_b8 (P := P) (D := 0) (l := k.1) ht he hs hse k.2
      have h3 := keyLits_b8 (P := P) (D := 0) (l := q.1) ht he hs hse q.2
      exact run_eqlK (m := 2) (p := k = q) (by decide) hk hag (by rw [b8s_length, hs]; exact k.2) (by rw [b8s_length, hs]; exact q.2) h2 h3 (by rw [lits_b8_inj]; exact ⟨fun e => Subtype.ext e, fun e => by rw [e]⟩)
    have hnow : ∀ (es : List MapEntry) (i : Nat), es ≠ [] → Instr.findNow (.array 32 e) (DK k) es i = none := fun es i hne => by
      cases es with
      | nil => exact absurd rfl hne
      | cons x r => rfl
    have hask : ∀ (es : List MapEntry) (i : Nat), (∀ x ∈ es, ∃ q, x.key = DK q) → (∃ j x, es[j]? = some x ∧ x.key = DK k ∧ (Instr.findAsking kt (DK k) es i).run P w = .ok (some (i + j, x.val)) w) ∨ ((∀ x ∈ es, x.key ≠ DK k) ∧ (Instr.findAsking kt (DK k) es i).run P w = .ok none w) := by
      intro es
      induction es with
      | nil => intro i _; exact .inr ⟨by simp, rfl⟩
      | cons x r ih =>
        intro i h
        obtain ⟨q, hq⟩ := h x (by simp)
        have hx := heq q
        rw [← hq] at hx
        by_cases hkq : k = q
        · rw [decide_eq_true hkq] at hx
          exact .inl ⟨0, x, rfl, by rw [hq, hkq], by simp [Instr.findAsking, hx]⟩
        · rw [decide_eq_false hkq] at hx
          rcases ih (i + 1) (fun y hy => h y (by simp [hy])) with ⟨j, y, hj, hy, hf⟩ | ⟨hall, hf⟩
          · refine .inl ⟨j + 1, y, by simpa using hj, hy, ?_⟩
            simp [Instr.findAsking, hx, hf]
            omega
          · refine .inr ⟨fun y hy => ?_, by simp [Instr.findAsking, hx, hf]⟩
            rcases List.mem_cons.1 hy with rfl | hy
            · rw [hq]; exact fun e => hkq (Subtype.ext (DV_inj e)).symm
            · exact hall y hy
    cases es with
    | nil => exact .inr ⟨by simp, by simp [Instr.findKey, run_underlying ht, Instr.findNow]⟩
    | cons x r =>
      have h0 := hnow (x :: r) 0 (by simp)
      rcases hask (x :: r) 0 h with ⟨j, y, hj, hy, hf⟩ | ⟨hall, hf⟩
      · refine .inl ⟨j, y, hj, hy, ?_⟩
        simp [Instr.findKey, run_underlying ht, h0, hf]
      · exact .inr ⟨hall, by simp [Instr.findKey, run_underlying ht, h0, hf]⟩
  stays w k := by
    have : Instr.sameBits 10000 (DK k) (DK k) = true := by
      show ((b8s k.1).toArray.size == (b8s k.1).toArray.size && ((b8s k.1).toArray.toList.zip (b8s k.1).toArray.toList).all fun (x, y) => Instr.sameBits 9999 x y) = true
      simp only [beq_self_eq_true, Bool.true_and]
      exact same_u8s 9999 k.1
    simp [Instr.keyThatStays, this]
theorem xh_ext {P : Program} {Q : Exit → Act → World → Prop} {N : Nat} {D : List Deferred} {ρ : Env} {b : Base} {X S : List Res} {ty : TypeId} {K : Value → List Res → List Res → Prop} {f : Nat} {fn : Func} {l : List Operand} {vs : List Value} {tys : Array TypeId} {g : Array Value → Sem Value} (hv : evs ρ l = some vs) (hf : P.funcs[f]? = some fn) (hname : (fn.name == "runtime.NumGoroutine") = false)
    (hb : fn.body.isNone = true) (hn : Extern.findNext fn = none) (he : Extern.find fn = some g) (hr : ∀ w, Mem b X S w → ∃ v w' X' S', (g vs.toArray).run P w = .ok v w' ∧ Mem b X' S' w' ∧ K v X' S') : XH P Q N D ρ b X S (.call ⟨.value (.func f), l.toArray, tys⟩) ty K := fun w m => by
  obtain ⟨v, w', X', S', hrun, m', k⟩ := hr w m
  refine xw_of_run (v' := v) (w' := w') (fun a _ _ _ _ ha => ?_) ⟨X', S', m', k⟩
  simp [execOp, resolve, Deferred.ofValue, Act.eval, invoke, ha.evals hv, run_callFunc_extern hf hname hb hn he, hrun]
theorem mapclone {P : Program} {κ : Type} [DecidableEq κ] {enc : κ → Value} {b : Base} {X S : List Res} {w : World} {g : Nat} {l : List (κ × Value)} {t : TypeId} (m : Mem b X S w) (i : Nat) (hi : X[i]? = some (RMap enc g l)) :
    ∃ g' w', (Extern.MapsClone.clone #[.iface t (.map (some g))]).run P w = .ok (.iface t (.map (some g'))) w' ∧ Mem b (RMap enc g' l :: X) S w' := by
  obtain ⟨es, clock, hb, rest⟩ := m.mapX i hi
  have hg : (getObj g).run P w = .ok (.map es clock) w := by simp [getObj, Sem.run, hb]
  refine ⟨w.heap.size, w.alloc (.map es clock), ?_, m.addX (r' := RMap enc w.heap.size l) (Fr.alloc w _) ⟨es, clock, heap_alloc_new w _, rest⟩ (fun k hk => Nat.le_of_eq (Eq.symm hk))⟩
  have e : Extern.MapsClone.clone #[.iface t (.map (some g))] = (do
    let .map entries clock ← getObj g | stuck "maps.clone: a map expected"
    pure (.iface t (.map (some (← newObj (.map entries clock)))))) := rfl
  rw [e]
  simp [hg, newObj, Sem.run]
theorem Mem.noRows {b : Base} {X S : List Res} {w : World} (m : Mem b X S w) : Mem b (RRows [] :: X) S w := m.addX (r' := RRows []) (.refl _ _) (fun r hr => by cases hr) (fun k hk => by obtain ⟨r, hr, _⟩ := hk; cases hr)
/-- a row more -/
theorem Mem.rowAdd {b : Base} {X S : List Res} {w : World} {rows rows' : List BRow} {e : TypeId} {A : Option Addr} {n c : Nat} {l : List UInt8} (m : Mem b (RRows rows :: ROwn e 1 (.slice A n c) n (b8s l) :: X) S w) (h : ∀ r ∈ rows', r ∈ rows ∨ r = ⟨A, n, c, l⟩) : Mem b (RRows rows' :: X) S w := by
  refine m.merge (r := RRows rows') (fun h1 h2 r hr => ?_) (fun k hk => ?_)
  · rcases h r hr with h' | rfl
    · exact h1 r h'
    · obtain ⟨_, h3, h4⟩ := Own.rd h2
      exact ⟨h4, h3⟩
  · obtain ⟨r, hr, hk⟩ := hk
    rcases h r hr with h' | rfl
    · exact .inl ⟨r, h', hk⟩
    · exact .inr (View.own.ok.2 k hk)
/-- the first half of a row -/
def BRow.half (r : BRow) : BRow := ⟨r.A, r.n / 2, r.c, r.l.take (r.n / 2)⟩
theorem Mem.rowHalf {b : Base} {X S : List Res} {w : World} {rows rows' : List BRow} (m : Mem b (RRows rows :: X) S w) (h : ∀ r ∈ rows', ∃ q ∈ rows, r = q ∨ ∃ k, k ≤ q.n ∧ r = ⟨q.A, k, q.c, q.l.take k⟩) : Mem b (RRows rows' :: X) S w :=
  m.asX (r' := RRows rows') (fun h1 r hr => by
    obtain ⟨q, hq, rfl | ⟨k, hk, rfl⟩⟩ := h r hr
    · exact h1 r hq
    · obtain ⟨h2, h3⟩ := h1 q hq
      exact ⟨(View.take hk).ok.1 w h2, Nat.le_trans hk h3⟩) (fun i hi => by
    obtain ⟨r, hr, hi⟩ := hi
    obtain ⟨q, hq, rfl | ⟨k, hk, rfl⟩⟩ := h r hr
    · exact ⟨r, hq, hi⟩
    · exact ⟨q, hq, (View.take hk).ok.2 i hi⟩)
theorem Mem.rowSub {b : Base} {X S : List Res} {w : World} {rows rows' : List BRow} (m : Mem b (RRows rows :: X) S w) (h : ∀ r ∈ rows', r ∈ rows) : Mem b (RRows rows' :: X) S w :=
  m.asX (r' := RRows rows') (fun h1 r hr => h1 r (h r hr)) (fun k hk => by
    obtain ⟨r, hr, hk⟩ := hk
    exact ⟨r, h r hr, hk⟩)
theorem xh_mclone {P : Program} {Q : Exit → Act → World → Prop} {N : Nat} {D : List Deferred} {ρ : Env} {b : Base} {X S : List Res} {ty t : TypeId} {K : Value → List Res → List Res → Prop} {κ : Type} [DecidableEq κ] {enc : κ → Value} {g : Nat} {l : List (κ × Value)} {f : Nat} {fn : Func} {x : Operand} {tys : Array TypeId} (i : Nat) (hi : X[i]? = some (RMap enc g l)) (hx : ev ρ x = some (.iface t (.map (some g)))) (hf : P.funcs[f]? = some fn) (hname : (fn.name == "runtime.NumGoroutine") = false)
    (hb : fn.body.isNone = true) (hn : Extern.findNext fn = none) (he : Extern.find fn = some Extern.MapsClone.clone) (k : ∀ g', K (.iface t (.map (some g'))) (RMap enc g' l :: X) S) : XH P Q N D ρ b X S (.call ⟨.value (.func f), #[x], tys⟩) ty K :=
  xh_ext (l := [x]) (vs := [.iface t (.map (some g))]) (by simp [evs, hx]) hf hname hb hn he fun w m => by
    obtain ⟨g', w', hrun, m'⟩ := mapclone (P := P) (t := t) m i hi
    exact ⟨_, w', _, _, hrun, m', k g'⟩
theorem y_eqMn {P : Program} {N : Nat} {D : List Deferred} {ρ : Env} {w : World} {ty t t' kt et : TypeId} {x y : Operand} {r : Option Nat} (hx : ev ρ x = some (.map r)) (hy : ev ρ y = some (.map none)) (ht : P.underlying t = some (.map kt et)) : Yl P N D ρ w (.binOp .eql t x y t') ty (.bool r.isNone) := fun _ _ _ _ _ ha => by
  simp only [execOp, ha.eval hx, ha.eval hy]
  simp [eqGuard, run_eql_map_nil w t kt et r ht]
/-- bytes as bytes -/
theorem xh_cvS {P : Program} {Q : Exit → Act → World → Prop} {N : Nat} {D : List Deferred} {ρ : Env} {b : Base} {X S : List Res} {ty t e0 e : TypeId} {K : Value → List Res → List Res → Prop} {g n c sz : Nat} {xs : List Value} {x : Operand} (i : Nat) (hi : X[i]? = some (ROwn e sz (.slice (some ⟨g, 0, none⟩) n c) n xs)) (hx : ev ρ x = some (.slice (some ⟨g, 0, none⟩) n c)) (ht : P.underlying t = some (.slice e0)) (he : P.underlying e0 = some (.int .u8))
    (k : K (.slice (some ⟨g, 0, none⟩) n c) (ROwn e sz (.slice (some ⟨g, 0, none⟩) n c) n xs :: X.eraseIdx i) S) : XH P Q N D ρ b X S (.convert t t x) ty K := fun w m => by
  have ho := m.own i hi
  rcases ho with ⟨hl, ⟨h1, _⟩ | ⟨g', o, cap, cur, h1, hb, hg, hn, hm, hc, hxs⟩⟩
  · cases h1
  · cases h1
    refine x_cvS hx ht he hg fun w' hf hb' hsz => ⟨_, _, ?_, k⟩
    have m' := m.perm (takeR_perm [i] X [ROwn e sz (.slice (some ⟨g, 0, none⟩) n c) n xs] (X.eraseIdx i) (by simp [takeR, hi]))
    exact m'.change (r' := ROwn e sz (.slice (some ⟨g, 0, none⟩) n c) n xs) hf ⟨hl, .inr ⟨g, 0, c, cur, rfl, Nat.zero_le _, hb', hn, hm, hc, hxs⟩⟩ (fun k hk => .inl hk)
/-! ### a method of an interface -/
section
variable {P : Program} {Q : Exit → Act → World → Prop} {N : Nat} {D : List Deferred} {ρ : Env} {b : Base} {X X' X0 Xr S S' S0 : List Res} {ty dt : TypeId} {x : Operand} {v recv : Value} {m' : String} {f : Nat} {l : List Operand} {vs : List Value} {tys : Array TypeId} {R : Value → List Res → List Res → Prop} {K : Value → List Res → List Res → Prop}
theorem x_inv {w : World} {R : Ending → World → Prop} {K : Value → World → Prop} (hx : ev ρ x = some (.iface dt v)) (hv : evs ρ l = some vs) (hm : ∀ w, (Go.method (P.types.size + Made.depth) dt v m').run P w = .ok (f, recv) w) (hf : ∀ args w, (callFunc f args).run P w = .ok (.enter f args) w)
    (hc : Calls P f (recv :: vs).toArray w R) (hR : ∀ e w', R e w' → ∃ v, e = .returned v ∧ K v w') : XW P Q N D ρ w (.call ⟨.invoke x m', l.toArray, tys⟩) ty K := by
  intro a dst pos af g ha
  unfold Oper.wp
  have h0 : (program).run P w = .ok P w := rfl
  have : (execOp a.eval ⟨dst, .call ⟨.invoke x m', l.toArray, tys⟩, ty, pos, af, g⟩).run P w = .ok (.enter f (recv :: vs).toArray) w := by
    have e : (#[recv] ++ vs.toArray) = (recv :: vs).toArray := by simp
    have := hf (#[recv] ++ vs.toArray) w
    simp [execOp, resolve, invoke, callMethod, h0, ha.evals hv, ha.eval hx, hm]
    simpa using this
  rw [this]
  refine Calls.mono hc ?_
  intro e w' he
  obtain ⟨v, rfl, hk⟩ := hR e w' he
  exact ⟨v, rfl, hk⟩
theorem xh_inv (hx : ev ρ x = some (.iface dt v)) (hv : evs ρ l = some vs) (hm : ∀ w, (Go.method (P.types.size + Made.depth) dt v m').run P w = .ok (f, v) w) (hf : ∀ args w, (callFunc f args).run P w = .ok (.enter f args) w)
    (hc : Con P f (v :: vs) X0 S0 R) (is : List Nat) (hX : takeR is X = some (X0, Xr)) (js : List Nat) (hS : getR js S = some S0) (k : ∀ v X' S', R v X' S' → K v (X' ++ Xr) (S' ++ S)) : XH P Q N D ρ b X S (.call ⟨.invoke x m', l.toArray, tys⟩) ty K := fun w m => by
  have m1 := m.perm (takeR_perm _ _ _ _ hX)
  refine x_inv hx hv hm hf (hc w (m1.part (getR_sub _ _ _ hS))) ?_
  rintro e w' ⟨v, X', S', rfl, hR, m'⟩
  exact ⟨v, rfl, _, _, m1.frame (getR_sub _ _ _ hS) m', k v X' S' hR⟩
/-- a method's value, of an interface that holds no nil pointer -/
theorem y_nilm {w : World} {name : String} {t : TypeId} {u : Value} {c : Array Value} (hx : ev ρ x = some (.func (.method name) #[.iface t u] c)) (hn : (nilAhead (P.types.size + Made.depth) t u name).run P w = .ok (some false) w) : Yl P N D ρ w (.nilCheck x) ty (.func (.method name) #[.iface t u] c) := fun _ _ _ _ _ ha => by
  have h0 : (program).run P w = .ok P w := rfl
  simp [execOp, ha.eval hx, h0, hn]
theorem y_nilf {w : World} {f : Nat} {a c : Array Value} (hx : ev ρ x = some (.func (.func f) a c)) : Yl P N D ρ w (.nilCheck x) ty (.func (.func f) a c) := fun _ _ _ _ _ ha => by
  simp [execOp, ha.eval hx]
end
/-! ### At a function's end -/
section
variable {P : Program} {ops : Array Oper} {Q : Exit → Act → World → Prop} {N : Nat} {D : List Deferred} {ρ : Env} {b : Base} {X X' Xr S S' : List Res} {rest : List Oper} {ty : TypeId} {pos : String} {af : Array Edge}
theorem hdefer {f : Nat} {l : List Operand} {vs : List Value} {tys : Array TypeId} (hv : evs ρ l = some vs) (k : HL P ops Q N (⟨.fn (.func f) #[], vs.toArray⟩ :: D) rest ρ b X S) : HL P ops Q N D (⟨none, .defer ⟨.value (.func f), l.toArray, tys⟩, ty, pos, af, none⟩ :: rest) ρ b X S := fun w m a ha => by
  unfold wpList
  rw [if_pos (by simp [Region.wanted])]
  refine .inl ?_
  unfold Oper.wp
  have : (execOp a.eval ⟨none, .defer ⟨.value (.func f), l.toArray, tys⟩, ty, pos, af, none⟩).run P w = .ok (.defer ⟨.fn (.func f) #[], vs.toArray⟩) w := by
    simp [execOp, resolve, Deferred.ofValue, Act.eval, ha.evals hv]
  rw [this]
  refine k w m _ ⟨ha.sz, ?_, ha.gt⟩
  show _ :: a.defers = _
  rw [ha.df]
/-- a closure at the end -/
theorem hdeferv {f : Nat} {x : Operand} {l : List Operand} {vs first cap : List Value} {tys : Array TypeId} (hx : ev ρ x = some (.func (.func f) first.toArray cap.toArray)) (hv : evs ρ l = some vs) (k : HL P ops Q N (⟨.fn (.func f) cap.toArray, (first ++ vs).toArray⟩ :: D) rest ρ b X S) :
    HL P ops Q N D (⟨none, .defer ⟨.value x, l.toArray, tys⟩, ty, pos, af, none⟩ :: rest) ρ b X S := fun w m a ha => by
  unfold wpList
  rw [if_pos (by simp [Region.wanted])]
  refine .inl ?_
  unfold Oper.wp
  have : (execOp a.eval ⟨none, .defer ⟨.value x, l.toArray, tys⟩, ty, pos, af, none⟩).run P w = .ok (.defer ⟨.fn (.func f) cap.toArray, (first ++ vs).toArray⟩) w := by
    simp [execOp, resolve, Deferred.ofValue, ha.eval hx, ha.evals hv]
  rw [this]
  refine k w m _ ⟨ha.sz, ?_, ha.gt⟩
  show _ :: a.defers = _
  rw [ha.df]
end
theorem henterD {P : Program} {f : Nat} {fn : Func} {c : Code} {vs : List Value} {R : Value → List Res → List Res → Prop} {N : Nat} {X0 S0 : List Res} (hf : P.funcs[f]? = some fn) (hb : fn.body = some c) (hN : fn.ntmps = N) (hl : vs.length ≤ N)
    (h : ∀ b, HC P (bodyPostD P fn (RB b R)) N [] c (argsEnv vs 0) b X0 S0) : Con P f vs X0 S0 R := fun w m => by
  refine calls_of_wp_defers hf hb (h _ w m _ ⟨?_, rfl, fun t v ht => ?_⟩)
  · simp [hN]; omega
  · obtain ⟨_, h2⟩ := get_argsEnv vs 0 t v ht
    have hlt := (List.getElem?_eq_some_iff.1 h2).1
    rw [Array.getElem?_append_left (by simpa using hlt)]
    simpa using h2
/-- where a function with calls at its end leaves -/
def HE (P : Program) (fn : Func) (b : Base) (R : Value → List Res → List Res → Prop) (N : Nat) (D : List Deferred) (ρ : Env) (X S : List Res) : Prop := ∀ w, Mem b X S w → ∀ tmps : Array Value, (∀ t v, get ρ t = some v → tmps[t]? = some v) → Go.Leaves P fn tmps (RB b R) D .returning w
section
variable {P : Program} {fn : Func} {R : Value → List Res → List Res → Prop} {N : Nat} {D : List Deferred} {ρ : Env} {b : Base} {X X' Xz Xr S S' : List Res} {e : Exit}
theorem hleave (he : Leaves e) (h : HE P fn b R N D ρ X S) : HQ (bodyPostD P fn (RB b R)) N D e ρ b X S := fun w m a ha => by
  have := h w m a.tmps ha.gt
  cases e <;> first | exact he.elim | (show Go.Leaves P fn a.tmps (RB b R) a.defers .returning w; rw [ha.df]; exact this)
theorem hlast {v : Value} (hr : ∀ tmps : Array Value, (∀ t v, get ρ t = some v → tmps[t]? = some v) → ∀ w, (results fn tmps).run P w = .ok v w) (is : List Nat) (hX : takeR is X = some (X', Xz)) (js : List Nat) (hS : getR js S = some S') (hR : R v X' S') : HE P fn b R N [] ρ X S := fun w m tmps ht =>
  ⟨v, hr tmps ht w, _, _, _, rfl, hR, m.out is hX js hS⟩
theorem tmps_getD {tmps : Array Value} (h : ∀ t v, get ρ t = some v → tmps[t]? = some v) {t : Nat} {v : Value} (hv : get ρ t = some v) : tmps.getD t undef = v := by
  have := h t v hv
  simp [this]
theorem hlast1 {t : Nat} {v : Value} (hr : fn.results = #[.tmp t]) (hv : get ρ t = some v) (is : List Nat) (hX : takeR is X = some (X', Xz)) (js : List Nat) (hS : getR js S = some S') (hR : R v X' S') : HE P fn b R N [] ρ X S :=
  hlast (fun tmps h w => by have := tmps_getD h hv; simp at this; simp [results, hr, this]) is hX js hS hR
theorem hlast2 {t t' : Nat} {v v' : Value} (hr : fn.results = #[.tmp t, .tmp t']) (hv : get ρ t = some v) (hv' : get ρ t' = some v') (is : List Nat) (hX : takeR is X = some (X', Xz)) (js : List Nat) (hS : getR js S = some S') (hR : R (.tuple #[v, v']) X' S') : HE P fn b R N [] ρ X S :=
  hlast (fun tmps h w => by have h1 := tmps_getD h hv; have h2 := tmps_getD h hv'; simp at h1 h2; simp [results, hr, h1, h2]) is hX js hS hR
theorem hlastN1 {t t' sz : Nat} {ty : TypeId} {p : Addr} {cs : List Value} {v' : Value} (hr : fn.results = #[.cell t ty, .tmp t']) (hv : get ρ t = some (.pointer (some p))) (hv' : get ρ t' = some v') (ha : aggB P ty = some true) (hs : szB P ty = some sz) (hl : cs.length = sz)
    (hc : ∀ {w}, Mem b X S w → ∀ j u, cs[j]? = some u → w.cell? (p.add j) = some u) (is : List Nat) (hX : takeR is X = some (X', Xz)) (js : List Nat) (hS : getR js S = some S') (hR : R (.tuple #[.agg cs.toArray, v']) X' S') : HE P fn b R N [] ρ X S := fun w m tmps h =>
  ⟨.tuple #[.agg cs.toArray, v'], by have h1 := tmps_getD h hv; have h2 := tmps_getD h hv'; simp at h1 h2; simp [results, hr, h1, h2, asAddr, run_loadN ha hs hl (hc m)], _, _, _, rfl, hR, m.out is hX js hS⟩
/-- the lock is let go at the end -/
theorem hunlock {L : Conc.Locks.MuLink} (H : Conc.Locks.MuLib P L) {g o : Nat} {t : TypeId} {cs : List Value} (i : Nat) (hi : X[i]? = some (RBlk g t cs)) (hc : cs[o]? = some (.int .i32 1)) (hcall : ∀ args w, (callFunc L.unlock args).run P w = .ok (.enter L.unlock args) w)
    (k : HE P fn b R N D ρ (RBlk g t (cs.set o (.int .i32 0)) :: X.eraseIdx i) S) : HE P fn b R N (⟨.fn (.func L.unlock) #[], #[.pointer (some ⟨g, o, none⟩)]⟩ :: D) ρ X S := fun w m tmps ht => by
  have hb := m.blk i hi
  have hlt := (List.getElem?_eq_some_iff.1 hc).1
  refine ⟨by simp, .func L.unlock, #[], L.unlock, #[.pointer (some ⟨g, o, none⟩)], rfl, ?_, ?_⟩
  · simp [invoke, hcall]
  · refine CallsD.mono (Go.MuLone.unlock_deferred H ⟨g, o, none⟩ .returning w (hb.cell hc) (hb.frozen hlt)) ?_
    rintro e u' w' ⟨rfl, rfl, rfl⟩
    have m' := m.perm (takeR_perm [i] X [RBlk g t cs] (X.eraseIdx i) (by simp [takeR, hi]))
    exact k _ (m'.change (r' := RBlk g t (cs.set o (.int .i32 0))) (Fr.setCell w ⟨g, o, none⟩ _) (hb.set o _) (fun k hk => .inl hk)) tmps ht
end
section
variable {P : Program} {Q : Exit → Act → World → Prop} {N : Nat} {D : List Deferred} {ρ : Env} {b : Base} {X S : List Res} {ty : TypeId} {K : Value → List Res → List Res → Prop}
theorem lockC {L : Conc.Locks.MuLink} (H : Conc.Locks.MuLib P L) {g o : Nat} {t : TypeId} {cs : List Value} (hc : cs[o]? = some (.int .i32 0)) : Con P L.lock [.pointer (some ⟨g, o, none⟩)] [RBlk g t cs] [] fun v X S => v = .tuple #[] ∧ X = [RBlk g t (cs.set o (.int .i32 1))] ∧ S = [] := fun w m => by
  have hb := m.blk 0 rfl
  have hlt := (List.getElem?_eq_some_iff.1 hc).1
  refine Calls.mono (Go.MuLone.lock_free H ⟨g, o, none⟩ w (hb.cell hc) (hb.frozen hlt)) ?_
  rintro e w' ⟨rfl, rfl⟩
  exact ⟨_, _, _, rfl, ⟨rfl, rfl, rfl⟩, m.change (r' := RBlk g t (cs.set o (.int .i32 1))) (Fr.setCell w ⟨g, o, none⟩ _) (hb.set o _) (fun k hk => .inl hk)⟩
end
end Go.Eng
end
section
/- More rules over things in memory. No statement is proved here. -/
set_option linter.unusedVariables false
set_option linter.unusedSimpArgs false
namespace Go.Eng
/-- either of two -/
theorem pk_or {p q : Prop} [Decidable p] [Decidable q] : (if decide p = true then Value.bool true else Value.bool (decide q)) = Value.bool (decide (p ∨ q)) := by
  by_cases h : p <;> simp [h]
theorem pk_and {p q : Prop} [Decidable p] [Decidable q] : (if decide p = true then Value.bool (decide q) else Value.bool false) = Value.bool (decide (p ∧ q)) := by
  by_cases h : p <;> simp [h]
section
variable {P : Program} {Q : Exit → Act → World → Prop} {N : Nat} {D : List Deferred} {ρ : Env} {b : Base} {X S : List Res} {x y : Operand} {ty t t' e : TypeId} {K : Value → List Res → List Res → Prop}
/-- a new slice of noughts of one cell each -/
theorem xh_mksl {z : Value} {bytes n : Nat} (ht : P.underlying t = some (.slice e)) (hT : TI P e z 1 bytes) (hz : z.cells = #[z]) (hx : ev ρ x = some (.int .i64 (n : Int))) (hy : ev ρ y = some (.int .i64 (n : Int))) (hb : n * bytes ≤ 140737488351232) (hn : n ≤ 140737488351232)
    (k : ∀ g, K (.slice (some ⟨g, 0, none⟩) n n) (RBlk g e (List.replicate n z) :: X) S) : XH P Q N D ρ b X S (.makeSlice t x y) ty K := fun w m => by
  obtain ⟨ie, hi', hzero, hsize, hby⟩ := hT.get
  have hbn : (ie.bytes : Int) * (n : Int) ≤ 281474976710656 := by
    have h1 : (ie.bytes : Int) * (n : Int) = ((n * bytes : Nat) : Int) := by rw [hby, Nat.mul_comm]; rfl
    rw [h1]; omega
  have hr := run_make w t e ie z ht hi' hzero .i64 .i64 (n : Int) (n : Int) (by omega) (by omega) hbn (by omega)
  rw [hsize, hz] at hr
  have hc : madeCells #[z] ((n : Int).toNat * 1) = (List.replicate n z).toArray := by
    apply Array.ext'
    simp [madeCells]
    apply List.ext_getElem <;> simp [Nat.mod_one]
  rw [hc] at hr
  refine xw_of_run (v' := .slice (some ⟨w.heap.size, 0, none⟩) n n) (w' := w.alloc (.cells (List.replicate n z).toArray e)) (fun a _ _ _ _ ha => ?_) ⟨_, _, m.addX (r' := RBlk w.heap.size e (List.replicate n z)) (Fr.alloc w _) (Blk.new w e _) (fun i hi => Nat.le_of_eq (Eq.symm hi)), k _⟩
  simp [execOp, ha.eval hx, ha.eval hy, hr]
/-- elements are laid over others -/
theorem xh_copy {A : Option Addr} {g o sz m c dLen dCap k : Nat} {bt : TypeId} {cur news : List Value} (i : Nat) (hi : X[i]? = some (RBlk g bt cur)) (hx : ev ρ x = some (.slice (some ⟨g, o, none⟩) dLen dCap)) (hy : ev ρ y = some (.slice A m c)) (ht : P.underlying t = some (.slice e)) (hs : szB P e = some sz)
    (hr : ∀ {w}, Mem b X S w → Rd w sz A k news) (hk : k = min m dLen) (hfit : o + k * sz ≤ cur.length) (h1 : ∀ u ∈ news, u.oneCell' = true)
    (kk : K (.int .i64 (k : Nat)) (RBlk g bt (splice cur o news) :: X.eraseIdx i) S) : XH P Q N D ρ b X S (.call ⟨.builtin .copy, #[x, y], #[t, t']⟩) ty K := fun w mm => x_copy hx hy ht hs (hr mm) hk (mm.blk i hi) hfit h1 fun w' hf hb hsz => ⟨_, _, by
    have m' := mm.perm (takeR_perm [i] X [RBlk g bt cur] (X.eraseIdx i) (by simp [takeR, hi]))
    exact m'.change hf hb (fun k hk => .inl hk), kk⟩
end
theorem hmemE {P : Program} {fn : Func} {R : Value → List Res → List Res → Prop} {N : Nat} {D : List Deferred} {ρ : Env} {b : Base} {X X' S S' : List Res} (h : ∀ w, Mem b X S w → Mem b X' S' w) (k : HE P fn b R N D ρ X' S') : HE P fn b R N D ρ X S := fun w m => k w (h w m)
theorem hfactE {P : Program} {fn : Func} {R : Value → List Res → List Res → Prop} {N : Nat} {D : List Deferred} {ρ : Env} {b : Base} {X S : List Res} {p : Prop} (h : ∀ {w}, Mem b X S w → p) (k : p → HE P fn b R N D ρ X S) : HE P fn b R N D ρ X S := fun w m => k (h m) w m
end Go.Eng
end
section
/- The engine over things in memory, seventh part: several things that are only read as one, contracts said over other things. No statement is proved here. -/
set_option linter.unusedVariables false
set_option linter.unusedSimpArgs false
set_option linter.unusedSectionVars false
namespace Go.Eng
open Go.RowKit
/-- several things that are only read, as one; they may share blocks -/
def RAll (L : List Res) : Res where
  foot := feet L
  holds w := ∀ x ∈ L, x.holds w
  keep f h p := fun x hx => x.keep f (fun k hk => h k ⟨x, hx, hk⟩) (p x hx)
  low p hk := by
    obtain ⟨x, hx, hk⟩ := hk
    exact x.low (p x hx) hk
theorem View.alls {L : List Res} {r : Res} (i : Nat) (h : L[i]? = some r) : View (RAll L) r := .of (fun w x => x r (List.mem_of_getElem? h)) (fun k hk => ⟨r, List.mem_of_getElem? h, hk⟩)
/-- what is read and comes of what is read -/
def Der (S S' : List Res) : Prop := ∀ s ∈ S', (∀ w, (∀ t ∈ S, t.holds w) → s.holds w) ∧ ∀ k, s.foot k → ∃ t ∈ S, t.foot k
theorem Mem.der {b : Base} {X S S' : List Res} {w : World} (m : Mem b X S w) (h : Der S S') : Mem b X S' w := by
  refine ⟨m.fr, m.xx, fun x hx s hs k hk hk' => ?_, m.hx, fun s hs => (h s hs).1 w m.hs, m.nx, fun s hs k hk => ?_⟩
  · obtain ⟨t, ht, htk⟩ := (h s hs).2 k hk'
    exact m.xs x hx t ht k hk htk
  · obtain ⟨t, ht, htk⟩ := (h s hs).2 k hk
    exact m.ns t ht k htk
theorem Der.all {S L : List Res} (h : ∀ s ∈ L, s ∈ S) : Der S (RAll L :: S) := by
  intro s hs
  rcases List.mem_cons.1 hs with rfl | hs
  · exact ⟨fun w hw x hx => hw x (h x hx), fun k hk => by obtain ⟨x, hx, hk⟩ := hk; exact ⟨x, h x hx, hk⟩⟩
  · exact ⟨fun w hw => hw s hs, fun k hk => ⟨s, hs, hk⟩⟩
theorem Mem.allS {b : Base} {X S L : List Res} {w : World} (m : Mem b X S w) (js : List Nat) (h : getR js S = some L) : Mem b X (RAll L :: S) w := m.der (Der.all (getR_sub _ _ _ h))
theorem Der.nil {S : List Res} : Der S [] := fun s hs => by cases hs
theorem Der.cons {S S' : List Res} {L : List Res} (h : ∀ s ∈ L, (∃ t ∈ S, View t s)) (k : Der S S') : Der S (RAll L :: S') := by
  intro s hs
  rcases List.mem_cons.1 hs with rfl | hs
  · refine ⟨fun w hw x hx => ?_, fun i hi => ?_⟩
    · obtain ⟨t, ht, hv⟩ := h x hx
      exact hv.ok.1 w (hw t ht)
    · obtain ⟨x, hx, hk⟩ := hi
      obtain ⟨t, ht, hv⟩ := h x hx
      exact ⟨t, ht, hv.ok.2 i hk⟩
  · exact k s hs
theorem Con.viaS {P : Program} {f : Nat} {vs : List Value} {X0 S0 T0 : List Res} {R R' : Value → List Res → List Res → Prop} (h : Con P f vs X0 S0 R) (hS : ∀ s ∈ S0, ∃ t ∈ T0, View t s)
    (hR : ∀ v X S, R v X S → ∃ S', R' v X S' ∧ Der (S ++ T0) S') : Con P f vs X0 T0 R' := fun w m => by
  have hd : Der T0 (S0 ++ T0) := by
    intro s hs
    rcases List.mem_append.1 hs with hs | hs
    · obtain ⟨t, ht, hv⟩ := hS s hs
      exact ⟨fun w hw => hv.ok.1 w (hw t ht), fun k hk => ⟨t, ht, hv.ok.2 k hk⟩⟩
    · exact ⟨fun w hw => hw s hs, fun k hk => ⟨s, hs, hk⟩⟩
  have m1 : Mem ⟨w, feet X0, feet T0⟩ (X0 ++ []) (S0 ++ T0) w := by rw [List.append_nil]; exact m.der hd
  refine Calls.mono (h w (m1.part (fun s hs => List.mem_append_left _ hs))) ?_
  rintro e w' ⟨v, X', S', rfl, hr, m'⟩
  obtain ⟨S2, hr2, hd2⟩ := hR v X' S' hr
  have m2 := Mem.frame m1 (fun s hs => List.mem_append_left _ hs) m'
  rw [List.append_nil] at m2
  refine ⟨v, X', S2, rfl, hr2, m2.der ?_⟩
  intro s hs
  refine ⟨fun w hw => (hd2 s hs).1 w (fun t ht => hw t ?_), fun k hk => ?_⟩
  · rcases List.mem_append.1 ht with ht | ht
    · exact List.mem_append_left _ ht
    · exact List.mem_append_right _ (List.mem_append_right _ ht)
  · obtain ⟨t, ht, hk⟩ := (hd2 s hs).2 k hk
    rcases List.mem_append.1 ht with ht | ht
    · exact ⟨t, List.mem_append_left _ ht, hk⟩
    · exact ⟨t, List.mem_append_right _ (List.mem_append_right _ ht), hk⟩
/-- other arguments, the same -/
theorem Con.mono {P : Program} {f : Nat} {vs : List Value} {X0 S0 : List Res} {R R' : Value → List Res → List Res → Prop} (h : Con P f vs X0 S0 R) (hR : ∀ v X S, R v X S → R' v X S) : Con P f vs X0 S0 R' := fun w m => by
  refine Calls.mono (h w m) ?_
  rintro e w' ⟨v, X', S', rfl, hr, m'⟩
  exact ⟨v, X', S', rfl, hR _ _ _ hr, m'⟩
end Go.Eng
end
section
/- The engine: words of 32 bits as values; slices of one's own cut at the front. No statement is proved here. -/
set_option linter.unusedVariables false
set_option linter.unusedSimpArgs false
set_option linter.unusedSectionVars false
namespace Go.Eng
open Go.RowKit
abbrev Wd (x : UInt32) : Value := .int .u32 (x.toNat : Int)
def wds (l : List UInt32) : List Value := l.map Wd
theorem wds_length (l : List UInt32) : (wds l).length = l.length := by simp [wds]
theorem wds_one {l : List UInt32} : ∀ u ∈ wds l, u.oneCell' = true := by
  intro u hu
  obtain ⟨x, _, rfl⟩ := List.mem_map.1 hu
  rfl
theorem wds_cells {l : List UInt32} : ∀ u ∈ wds l, u.cells.toList = [u] := by
  intro u hu
  obtain ⟨x, _, rfl⟩ := List.mem_map.1 hu
  rfl
theorem wds_size {l : List UInt32} : ∀ u ∈ wds l, u.cells.size = 1 := by
  intro u hu
  obtain ⟨x, _, rfl⟩ := List.mem_map.1 hu
  rfl
theorem wds_get {l : List UInt32} {i : Nat} (h : i < l.length) : (wds l)[i]? = some (Wd (l.getD i 0)) := by simp [wds, List.getElem?_map, List.getElem?_eq_getElem h, List.getD]
theorem wds_append (a b : List UInt32) : wds (a ++ b) = wds a ++ wds b := by simp [wds]
theorem wds_set (l : List UInt32) (i : Nat) (x : UInt32) : (wds l).set i (Wd x) = wds (l.set i x) := by simp [wds, List.map_set]
theorem wrap32 (n : Nat) : IntKind.u32.wrap (n : Int) = ((n % 4294967296 : Nat) : Int) := by
  simp [IntKind.wrap, IntKind.signed, IntKind.bits]
section
variable {P : Program} {N : Nat} {D : List Deferred} {ρ : Env} {w : World} {x y : Operand} {ty t t' e : TypeId} {a b : UInt32}
theorem y_wadd (hx : ev ρ x = some (Wd a)) (hy : ev ρ y = some (Wd b)) : Yl P N D ρ w (.binOp .add t x y t') ty (Wd (a + b)) := y_add hx hy (by
  rw [← Int.natCast_add, wrap32, UInt32.toNat_add])
theorem y_wmul (hx : ev ρ x = some (Wd a)) (hy : ev ρ y = some (Wd b)) : Yl P N D ρ w (.binOp .mul t x y t') ty (Wd (a * b)) := y_mul hx hy (by
  rw [← Int.natCast_mul, wrap32, UInt32.toNat_mul])
theorem y_wand (hx : ev ρ x = some (Wd a)) (hy : ev ρ y = some (Wd b)) : Yl P N D ρ w (.binOp .and t x y t') ty (Wd (a &&& b)) := y_bits (by simp) hx hy (by
  rw [u32_and_nat _ _ a.toNat_lt b.toNat_lt, UInt32.toNat_and])
theorem y_wor (hx : ev ρ x = some (Wd a)) (hy : ev ρ y = some (Wd b)) : Yl P N D ρ w (.binOp .or t x y t') ty (Wd (a ||| b)) := y_bits (by simp) hx hy (by
  rw [u32_or_nat _ _ a.toNat_lt b.toNat_lt, UInt32.toNat_or])
theorem y_wxor (hx : ev ρ x = some (Wd a)) (hy : ev ρ y = some (Wd b)) : Yl P N D ρ w (.binOp .xor t x y t') ty (Wd (a ^^^ b)) := y_bits (by simp) hx hy (by
  rw [u32_xor_nat _ _ a.toNat_lt b.toNat_lt, UInt32.toNat_xor])
theorem y_wquo (h0 : b.toNat ≠ 0) (hx : ev ρ x = some (Wd a)) (hy : ev ρ y = some (Wd b)) : Yl P N D ρ w (.binOp .quo t x y t') ty (Wd (a / b)) := y_quo hx hy (by omega) (by omega) (by
  rw [← Int.natCast_ediv, wrap32, UInt32.toNat_div]
  have := a.toNat_lt
  have h2 := Nat.div_le_self a.toNat b.toNat
  rw [Nat.mod_eq_of_lt (by omega)])
theorem y_wrem (h0 : b.toNat ≠ 0) (hx : ev ρ x = some (Wd a)) (hy : ev ρ y = some (Wd b)) : Yl P N D ρ w (.binOp .rem t x y t') ty (Wd (a % b)) := by
  have h := y_rem (P := P) (N := N) (D := D) (w := w) (ty := ty) (t := t) (t' := t') hx hy (by omega) (by omega)
  have e : ((a.toNat : Int) % (b.toNat : Int)) = ((a % b).toNat : Int) := by rw [UInt32.toNat_mod]; rfl
  rwa [e] at h
theorem y_wshr {k : Nat} {k' : IntKind} (hk : k < 32) (hx : ev ρ x = some (Wd a)) (hy : ev ρ y = some (.int k' (k : Int))) : Yl P N D ρ w (.binOp .shr t x y t') ty (Wd (.ofNat (a.toNat / 2 ^ k))) := by
  have h := y_shr (P := P) (N := N) (D := D) (w := w) (ty := ty) (t := t) (t' := t') (p := ((2 ^ k : Nat) : Int)) hx hy (by omega) (by simp [IntKind.bits]; omega) (by simp)
  have e : ((a.toNat : Int) / ((2 ^ k : Nat) : Int)) = ((UInt32.ofNat (a.toNat / 2 ^ k)).toNat : Int) := by
    rw [UInt32.toNat_ofNat', ← Int.natCast_ediv]
    have := a.toNat_lt
    have h2 := Nat.div_le_self a.toNat (2 ^ k)
    rw [Nat.mod_eq_of_lt (by omega)]
  rwa [e] at h
theorem y_wshl {k : Nat} {k' : IntKind} (hk : k < 32) (hx : ev ρ x = some (Wd a)) (hy : ev ρ y = some (.int k' (k : Int))) : Yl P N D ρ w (.binOp .shl t x y t') ty (Wd (.ofNat (a.toNat * 2 ^ k))) := by
  refine y_shl (p := ((2 ^ k : Nat) : Int)) hx hy (by omega) (by simp [IntKind.bits]; omega) (by simp) ?_
  rw [← Int.natCast_mul, wrap32, UInt32.toNat_ofNat']
theorem y_wshrD {k : Nat} {k' : IntKind} (hk : k < 32) (hb : b.toNat = 2 ^ k) (hx : ev ρ x = some (Wd a)) (hy : ev ρ y = some (.int k' (k : Int))) : Yl P N D ρ w (.binOp .shr t x y t') ty (Wd (a / b)) := by
  have h := y_wshr (P := P) (N := N) (D := D) (w := w) (ty := ty) (t := t) (t' := t') hk hx hy
  have e : UInt32.ofNat (a.toNat / 2 ^ k) = a / b := by
    apply UInt32.toNat_inj.1
    have := a.toNat_lt
    have h2 := Nat.div_le_self a.toNat (2 ^ k)
    rw [UInt32.toNat_ofNat', UInt32.toNat_div, hb, Nat.mod_eq_of_lt (by omega)]
  rwa [e] at h
theorem y_wshlD {k : Nat} {k' : IntKind} (hk : k < 32) (hb : b.toNat = 2 ^ k) (hx : ev ρ x = some (Wd a)) (hy : ev ρ y = some (.int k' (k : Int))) : Yl P N D ρ w (.binOp .shl t x y t') ty (Wd (a * b)) := by
  have h := y_wshl (P := P) (N := N) (D := D) (w := w) (ty := ty) (t := t) (t' := t') hk hx hy
  have e : UInt32.ofNat (a.toNat * 2 ^ k) = a * b := by
    apply UInt32.toNat_inj.1
    rw [UInt32.toNat_ofNat', UInt32.toNat_mul, hb]
  rwa [e] at h
theorem y_wsub1 (hx : ev ρ x = some (.int .u32 4294967295)) (hy : ev ρ y = some (Wd b)) : Yl P N D ρ w (.binOp .sub t x y t') ty (Wd (~~~b)) := y_sub hx hy (by
  have := b.toNat_lt
  rw [UInt32.toNat_not, show (4294967295 : Int) - (b.toNat : Int) = ((4294967295 - b.toNat : Nat) : Int) by omega, wrap32, Nat.mod_eq_of_lt (by omega)]
  rfl)
theorem y_wnot (hx : ev ρ x = some (Wd a)) : Yl P N D ρ w (.unOp .xor t x) ty (Wd (~~~a)) := by
  have h := y_inv32 (P := P) (N := N) (D := D) (w := w) (ty := ty) (t := t) hx a.toNat_lt
  have e : 4294967295 ^^^ a.toNat = (~~~a).toNat := by
    have h1 : (BitVec.allOnes 32 ^^^ BitVec.ofNat 32 a.toNat) = ~~~ BitVec.ofNat 32 a.toNat := BitVec.allOnes_xor
    have h2 := congrArg BitVec.toNat h1
    rw [BitVec.toNat_xor, BitVec.toNat_not, BitVec.toNat_allOnes, BitVec.toNat_ofNat, Nat.mod_eq_of_lt a.toNat_lt] at h2
    rw [UInt32.toNat_not]
    exact h2
  rwa [e] at h
theorem y_w8 {c : UInt8} {k : TypeDesc} (hx : ev ρ x = some (B8 c)) (ht : P.underlying t = some k) (ht' : P.underlying t' = some (.int .u32)) : Yl P N D ρ w (.convert t t' x) ty (Wd c.toUInt32) := y_conv hx ht ht' (by
  have := c.toNat_lt
  rw [wrap32, Nat.mod_eq_of_lt (by omega), UInt8.toNat_toUInt32])
theorem y_8w {k : TypeDesc} (hx : ev ρ x = some (Wd a)) (ht : P.underlying t = some k) (ht' : P.underlying t' = some (.int .u8)) : Yl P N D ρ w (.convert t t' x) ty (B8 (UInt8.ofNat a.toNat)) := y_conv hx ht ht' (by
  simp [IntKind.wrap, IntKind.signed, IntKind.bits])
end
theorem bld_all {P : Program} {pl : Nat → Option (Nat × Nat)} : ∀ (vs : List Value) (k : Nat) (d r : List Value), d.length = k → r.length = vs.length → (∀ i, i < k + vs.length → pl i = some (i, 1)) → (∀ v ∈ vs, v.cells.toList = [v]) → Bld P pl (d ++ r) ((List.range' k vs.length).zip vs) (d ++ vs)
  | [], k, d, r, hd, hr, hp, h1 => by
    obtain rfl := List.eq_nil_of_length_eq_zero hr
    exact .nil
  | v :: vs, k, d, r, hd, hr, hp, h1 => by
    match r, hr with
    | x :: r, hr =>
      have hs : splice (d ++ x :: r) k [v] = (d ++ [v]) ++ r := by
        subst hd
        simp [splice]
      have ih := bld_all (P := P) (pl := pl) vs (k + 1) (d ++ [v]) r (by simp [hd]) (by simpa using hr) (fun i hi => hp i (by simp at hi ⊢; omega)) (fun u hu => h1 u (List.mem_cons_of_mem _ hu))
      rw [List.length_cons, List.range'_succ, List.zip_cons_cons]
      refine .cons (hp k (by simp)) (h1 v (List.mem_cons_self ..)) rfl (by simp [hd]) ?_
      rw [hs, show d ++ v :: vs = (d ++ [v]) ++ vs by simp]
      exact ih
theorem y_buildA {P : Program} {N : Nat} {D : List Deferred} {ρ : Env} {w : World} {t ty : TypeId} {parts : List (Nat × Operand)} {vs : List Value} {z : Value} {sz bytes n : Nat} (hT : TI P t z sz bytes) (hz : z.cells.toList.length = n) (hv : evs ρ (parts.map (·.2)) = some vs) (hp : (plB P t 0).isSome = true) (hn : vs.length = n)
    (hi : parts.map (·.1) = List.range' 0 n) (hpl : ((List.range n).all fun i => plB P t i == some (i, 1)) = true) (h1 : ∀ v ∈ vs, v.cells.toList = [v]) : Yl P N D ρ w (.build t parts.toArray) ty (.agg vs.toArray) := by
  refine y_build hT rfl hv hp ?_
  rw [hi, ← hn]
  have h := bld_all (P := P) (pl := plB P t) vs 0 [] z.cells.toList rfl (by omega) (fun i hi => ?_) h1
  · exact h
  · have := List.all_eq_true.1 hpl i (by rw [List.mem_range]; omega)
    simpa using this
theorem Own.drop {w : World} {b : Nat} {e : TypeId} {sz n c k : Nat} {A : Option Addr} {xs : List Value} (h : Own w b e sz (.slice A n c) n xs) (hk : k ≤ n) (hz : k ≤ c) : Own w b e sz (.slice (if c = k then A else A.map (·.add (k * sz))) (n - k) (c - k)) (n - k) (xs.drop (k * sz)) := by
  obtain ⟨hl, hx⟩ := h
  refine ⟨by rw [List.length_drop, hl, Nat.sub_mul], ?_⟩
  rcases hx with ⟨hv, hn⟩ | ⟨g, o, cap, cur, hv, hb, hB, hnc, hcm, hfit, hcs⟩
  · cases hv
    obtain rfl : k = 0 := by omega
    exact .inl ⟨rfl, rfl⟩
  · cases hv
    by_cases hck : c = k
    · subst hck
      obtain rfl : n = c := by omega
      rw [if_pos rfl]
      refine .inr ⟨g, o, n - n, cur, rfl, hb, hB, by omega, by omega, by rw [Nat.sub_self, Nat.zero_mul]; omega, ?_⟩
      rw [Nat.sub_self, Nat.zero_mul, List.take_zero, List.drop_of_length_le (by omega)]
    · rw [if_neg hck]
      refine .inr ⟨g, o + k * sz, c - k, cur, ?_, hb, hB, by omega, by omega, ?_, ?_⟩
      · simp [Addr.add]
      · have : (c - k) * sz + k * sz = c * sz := by rw [← Nat.add_mul]; congr 1; omega
        omega
      · rw [← hcs, List.drop_take, List.drop_drop, Nat.sub_mul]
theorem View.ownDrop {e : TypeId} {sz n c k : Nat} {A : Option Addr} {xs : List Value} (hk : k ≤ n) (hz : n ≤ c) : View (ROwn e sz (.slice A n c) n xs) (ROwn e sz (.slice (if c = k then A else A.map (·.add (k * sz))) (n - k) (c - k)) (n - k) (xs.drop (k * sz))) :=
  .of (fun w h => Own.drop h hk (by omega)) (fun i hi => by
    cases A with
    | none => by_cases hc : c = k <;> simp [ROwn, vblk, hc] at hi
    | some a =>
      by_cases hc : c = k
      · simpa [ROwn, vblk, hc] using hi
      · have h2 : i = (a.add (k * sz)).block := by simpa [ROwn, vblk, hc] using hi
        show i = a.block
        rw [h2, add_block])
theorem Mem.viewX {b : Base} {X S : List Res} {w : World} {r r' : Res} (m : Mem b (r :: X) S w) (v : View r r') : Mem b (r' :: X) S w := m.asX (v.ok.1 w) v.ok.2
end Go.Eng
end
