/- The engine over things in memory: what a call owns and what it only reads, apart from each other; the world has no name. No statement is proved here. -/
import Derived.Test.YtflcokdkobhieaaEng11
set_option linter.unusedVariables false
set_option linter.unusedSimpArgs false
namespace Go.Eng
open Go.RowKit
/-- A thing in memory: its blocks, what is said of it. -/
structure Res where
  foot : Nat → Prop
  holds : World → Prop
  keep : ∀ {S : Nat → Prop} {w w' : World}, Fr S w w' → (∀ k, foot k → ¬ S k) → holds w → holds w'
  low : ∀ {w : World} {k : Nat}, holds w → foot k → k < w.heap.size
def feet (L : List Res) (k : Nat) : Prop := ∃ r ∈ L, r.foot k
structure Base where
  w : World
  M : Nat → Prop
  B : Nat → Prop
/-- X: things that are the call's own; S: things that are only read. -/
structure Mem (b : Base) (X S : List Res) (w : World) : Prop where
  fr : Fr b.M b.w w
  xx : X.Pairwise fun p q => ∀ k, p.foot k → ¬ q.foot k
  xs : ∀ x ∈ X, ∀ s ∈ S, ∀ k, x.foot k → ¬ s.foot k
  hx : ∀ x ∈ X, x.holds w
  hs : ∀ s ∈ S, s.holds w
  nx : ∀ x ∈ X, ∀ k, x.foot k → b.M k ∨ b.w.heap.size ≤ k
  ns : ∀ s ∈ S, ∀ k, s.foot k → b.B k ∨ b.M k ∨ b.w.heap.size ≤ k
section
variable {b : Base} {X X' X1 Xr S S' S1 : List Res} {w w' : World} {r r' : Res}
theorem Mem.lift {w' : World} (m : Mem b X S w) (f : Fr No w w') : Mem b X S w' :=
  ⟨m.fr.trans0 f, m.xx, m.xs, fun x hx => x.keep f (fun _ _ e => e) (m.hx x hx), fun s hs => s.keep f (fun _ _ e => e) (m.hs s hs), m.nx, m.ns⟩
theorem Mem.perm (m : Mem b X S w) (h : X.Perm X') : Mem b X' S w :=
  ⟨m.fr, (h.pairwise_iff (fun hxy k hy hx => hxy k hx hy)).1 m.xx, fun x hx => m.xs x (h.mem_iff.2 hx), fun x hx => m.hx x (h.mem_iff.2 hx), m.hs, fun x hx => m.nx x (h.mem_iff.2 hx), m.ns⟩
theorem Mem.subS (m : Mem b X S w) (h : ∀ s ∈ S', s ∈ S) : Mem b X S' w :=
  ⟨m.fr, m.xx, fun x hx s hs => m.xs x hx s (h s hs), m.hx, fun s hs => m.hs s (h s hs), m.nx, fun s hs => m.ns s (h s hs)⟩
theorem Mem.dropX (m : Mem b (X ++ X') S w) : Mem b X S w :=
  ⟨m.fr, (List.pairwise_append.1 m.xx).1, fun x hx => m.xs x (List.mem_append_left _ hx), fun x hx => m.hx x (List.mem_append_left _ hx), m.hs, fun x hx => m.nx x (List.mem_append_left _ hx), m.ns⟩
theorem Mem.dropX' (m : Mem b (X ++ X') S w) : Mem b X' S w :=
  ⟨m.fr, (List.pairwise_append.1 m.xx).2.1, fun x hx => m.xs x (List.mem_append_right _ hx), fun x hx => m.hx x (List.mem_append_right _ hx), m.hs, fun x hx => m.nx x (List.mem_append_right _ hx), m.ns⟩
/-- what a callee tells of its part -/
theorem Mem.frame {X0 S0 : List Res} (m : Mem b (X0 ++ Xr) S w) (hS : ∀ s ∈ S0, s ∈ S) (m' : Mem ⟨w, feet X0, feet S0⟩ X' S' w') : Mem b (X' ++ Xr) (S' ++ S) w' := by
  obtain ⟨h0, hr, h0r⟩ := List.pairwise_append.1 m.xx
  have hoff : ∀ y ∈ Xr, ∀ k, y.foot k → ¬ feet X0 k := fun y hy k hk ⟨x, hx, hxk⟩ => h0r x hx y hy k hxk hk
  have hoffS : ∀ s ∈ S, ∀ k, s.foot k → ¬ feet X0 k := fun s hs k hk ⟨x, hx, hxk⟩ => m.xs x (List.mem_append_left _ hx) s hs k hxk hk
  refine ⟨m.fr.trans m'.fr (fun _ e => e) (fun i hi e => ?_), List.pairwise_append.2 ⟨m'.xx, hr, fun x hx y hy k hk hy' => ?_⟩, fun x hx s hs k hk hk' => ?_, fun x hx => ?_, fun s hs => ?_, fun x hx k hk => ?_, fun s hs k hk => ?_⟩
  · obtain ⟨x, hx, hxk⟩ := e
    rcases m.nx x (List.mem_append_left _ hx) i hxk with h | h
    · exact h
    · omega
  · rcases m'.nx x hx k hk with h | h
    · exact hoff y hy k hy' h
    · have := y.low (m.hx y (List.mem_append_right _ hy)) hy'
      simp only at h
      omega
  · rcases List.mem_append.1 hx with hx | hx <;> rcases List.mem_append.1 hs with hs | hs
    · exact m'.xs x hx s hs k hk hk'
    · rcases m'.nx x hx k hk with h | h
      · exact hoffS s hs k hk' h
      · have := s.low (m.hs s hs) hk'
        simp only at h
        omega
    · rcases m'.ns s hs k hk' with ⟨s0, h0, h0k⟩ | h | h
      · exact m.xs x (List.mem_append_right _ hx) s0 (hS s0 h0) k hk h0k
      · exact hoff x hx k hk h
      · have := x.low (m.hx x (List.mem_append_right _ hx)) hk
        simp only at h
        omega
    · exact m.xs x (List.mem_append_right _ hx) s hs k hk hk'
  · rcases List.mem_append.1 hx with hx | hx
    · exact m'.hx x hx
    · exact x.keep m'.fr (hoff x hx) (m.hx x (List.mem_append_right _ hx))
  · rcases List.mem_append.1 hs with hs | hs
    · exact m'.hs s hs
    · exact s.keep m'.fr (hoffS s hs) (m.hs s hs)
  · rcases List.mem_append.1 hx with hx | hx
    · rcases m'.nx x hx k hk with ⟨y, hy, hyk⟩ | h
      · exact m.nx y (List.mem_append_left _ hy) k hyk
      · exact .inr (Nat.le_trans m.fr.size h)
    · exact m.nx x (List.mem_append_right _ hx) k hk
  · rcases List.mem_append.1 hs with hs | hs
    · rcases m'.ns s hs k hk with ⟨y, hy, hyk⟩ | ⟨y, hy, hyk⟩ | h
      · exact m.ns y (hS y hy) k hyk
      · exact .inr (m.nx y (List.mem_append_left _ hy) k hyk)
      · exact .inr (.inr (Nat.le_trans m.fr.size h))
    · exact m.ns s hs k hk
theorem Mem.start (hX : X.Pairwise fun p q => ∀ k, p.foot k → ¬ q.foot k) (hXS : ∀ x ∈ X, ∀ s ∈ S, ∀ k, x.foot k → ¬ s.foot k) (hx : ∀ x ∈ X, x.holds w) (hs : ∀ s ∈ S, s.holds w) : Mem ⟨w, feet X, feet S⟩ X S w :=
  ⟨.refl _ _, hX, hXS, hx, hs, fun x hx k hk => .inl ⟨x, hx, hk⟩, fun s hs k hk => .inl ⟨s, hs, hk⟩⟩
/-- the part that is handed to a callee -/
theorem Mem.part {X0 S0 : List Res} (m : Mem b (X0 ++ Xr) S w) (hS : ∀ s ∈ S0, s ∈ S) : Mem ⟨w, feet X0, feet S0⟩ X0 S0 w :=
  .start (List.pairwise_append.1 m.xx).1 (fun x hx s hs => m.xs x (List.mem_append_left _ hx) s (hS s hs)) (fun x hx => m.hx x (List.mem_append_left _ hx)) (fun s hs => m.hs s (hS s hs))
/-- one thing changes, and may move to new blocks -/
theorem Mem.change (m : Mem b (r :: X) S w) (f : Fr r.foot w w') (h' : r'.holds w') (hk : ∀ k, r'.foot k → r.foot k ∨ w.heap.size ≤ k) : Mem b (r' :: X) S w' := by
  have m' : Mem ⟨w, feet [r], feet []⟩ [r'] [] w' := ⟨f.mono (fun i _ e => ⟨r, by simp, e⟩), by simp, by simp, by simpa using h', by simp, fun x hx k hk' => by
    obtain rfl : x = r' := by simpa using hx
    rcases hk k hk' with h | h
    · exact .inl ⟨r, by simp, h⟩
    · exact .inr h, by simp⟩
  exact Mem.frame (X0 := [r]) (S0 := []) (S' := []) m (by simp) m'
/-- new things, nothing else changes -/
theorem Mem.addX (m : Mem b X S w) (f : Fr No w w') (h' : r'.holds w') (hk : ∀ k, r'.foot k → w.heap.size ≤ k) : Mem b (r' :: X) S w' := by
  have m' : Mem ⟨w, feet [], feet []⟩ [r'] [] w' := ⟨f.mono (fun i _ e => e.elim), by simp, by simp, by simpa using h', by simp, fun x hx k hk' => by
    obtain rfl : x = r' := by simpa using hx
    exact .inr (hk k hk'), by simp⟩
  exact Mem.frame (X0 := []) (S0 := []) (S' := []) m (by simp) m'
theorem Mem.addS (m : Mem b X S w) (f : Fr No w w') (h' : r'.holds w') (hk : ∀ k, r'.foot k → w.heap.size ≤ k ∨ feet S k) : Mem b X (r' :: S) w' := by
  have m' : Mem ⟨w, feet [], feet S⟩ [] [r'] w' := ⟨f.mono (fun i _ e => e.elim), by simp, by simp, by simp, by simpa using h', by simp, fun x hx k hk' => by
    obtain rfl : x = r' := by simpa using hx
    exact (hk k hk').elim (fun h => .inr (.inr h)) .inl⟩
  exact Mem.frame (X0 := []) (X' := []) m (fun _ h => h) m'
/-- what is one's own is only read from now on -/
theorem Mem.freeze (m : Mem b (r :: X) S w) : Mem b X (r :: S) w := by
  obtain ⟨h1, h2⟩ := List.pairwise_cons.1 m.xx
  refine ⟨m.fr, h2, fun x hx s hs k hk hk' => ?_, fun x hx => m.hx x (List.mem_cons_of_mem _ hx), fun s hs => ?_, fun x hx => m.nx x (List.mem_cons_of_mem _ hx), fun s hs k hk => ?_⟩
  · rcases List.mem_cons.1 hs with rfl | hs
    · exact h1 x hx k hk' hk
    · exact m.xs x (List.mem_cons_of_mem _ hx) s hs k hk hk'
  · rcases List.mem_cons.1 hs with rfl | hs
    · exact m.hx _ (List.mem_cons_self ..)
    · exact m.hs s hs
  · rcases List.mem_cons.1 hs with rfl | hs
    · exact .inr (m.nx _ (List.mem_cons_self ..) k hk)
    · exact m.ns s hs k hk
/-- the same thing, said otherwise -/
theorem Mem.asX (m : Mem b (r :: X) S w) (h : r.holds w → r'.holds w) (hk : ∀ k, r'.foot k → r.foot k) : Mem b (r' :: X) S w :=
  m.change (.refl _ _) (h (m.hx _ (List.mem_cons_self ..))) (fun k hk' => .inl (hk k hk'))
theorem Mem.asS (m : Mem b X S w) (i : Nat) (hi : S[i]? = some r) (h : r.holds w → r'.holds w) (hk : ∀ k, r'.foot k → r.foot k) : Mem b X (r' :: S) w :=
  m.addS (.refl _ _) (h (m.hs _ (List.mem_of_getElem? hi))) (fun k hk' => .inr ⟨r, List.mem_of_getElem? hi, hk k hk'⟩)
end
/-- things number i1, i2 .. of those (each number counts what is left) -/
def takeR : List Nat → List Res → Option (List Res × List Res)
  | [], X => some ([], X)
  | i :: is, X => match X[i]?, takeR is (X.eraseIdx i) with
    | some r, some (p, q) => some (r :: p, q)
    | _, _ => none
theorem eraseIdx_perm {α : Type} : ∀ (l : List α) (i : Nat) (h : i < l.length), (l[i] :: l.eraseIdx i).Perm l
  | [], i, h => by simp at h
  | a :: r, 0, h => by simp
  | a :: r, i + 1, h => by
    have hi : i < r.length := by simpa using h
    have := eraseIdx_perm r i hi
    simp only [List.getElem_cons_succ, List.eraseIdx_cons_succ]
    exact (List.Perm.swap a r[i] (r.eraseIdx i)).trans (this.cons a)
theorem takeR_perm : ∀ (is : List Nat) (X p q : List Res), takeR is X = some (p, q) → X.Perm (p ++ q)
  | [], X, p, q, h => by
    simp only [takeR, Option.some.injEq, Prod.mk.injEq] at h
    obtain ⟨rfl, rfl⟩ := h
    exact .refl _
  | i :: is, X, p, q, h => by
    unfold takeR at h
    split at h
    · rename_i r p' q' hr hp
      simp only [Option.some.injEq, Prod.mk.injEq] at h
      obtain ⟨rfl, rfl⟩ := h
      have hlt := (List.getElem?_eq_some_iff.1 hr).1
      have e : X[i] = r := (List.getElem?_eq_some_iff.1 hr).2
      have h1 := takeR_perm is _ _ _ hp
      rw [List.cons_append]
      refine .trans ?_ (h1.cons r)
      rw [← e]
      exact (eraseIdx_perm X i hlt).symm
    · cases h
def getR : List Nat → List Res → Option (List Res)
  | [], _ => some []
  | i :: is, S => match S[i]?, getR is S with
    | some r, some p => some (r :: p)
    | _, _ => none
theorem getR_sub : ∀ (is : List Nat) (S p : List Res), getR is S = some p → ∀ s ∈ p, s ∈ S
  | [], S, p, h => by
    simp only [getR, Option.some.injEq] at h
    subst h
    simp
  | i :: is, S, p, h => by
    unfold getR at h
    split at h
    · rename_i r p' hr hp
      simp only [Option.some.injEq] at h
      subst h
      intro s hs
      rcases List.mem_cons.1 hs with rfl | hs
      · exact List.mem_of_getElem? hr
      · exact getR_sub is S _ hp s hs
    · cases h
/-! ### Things -/
def RBlk (g : Nat) (t : TypeId) (cs : List Value) : Res := ⟨fun k => k = g, fun w => Blk w g t cs, fun f h b => b.fr f (h g rfl), fun b hk => hk ▸ b.lt⟩
def ROwn (e : TypeId) (sz : Nat) (v : Value) (n : Nat) (xs : List Value) : Res := ⟨vblk v, fun w => Own w 0 e sz v n xs, fun f h o => o.fr f h, fun o hk => (o.from hk).2⟩
theorem Rd.keep {w w' : World} {sz n : Nat} {A : Option Addr} {xs : List Value} {S : Nat → Prop} (h : Rd w sz A n xs) (f : Fr S w w') (ho : ∀ k, (xs ≠ [] ∧ ∃ a, A = Option.some a ∧ k = a.block) → ¬ S k) : Rd w' sz A n xs := by
  refine ⟨h.1, h.2.1, fun j u hu => cell_fr (h.2.2 j u hu) f ?_⟩
  have hne : xs ≠ [] := fun e => by rw [e] at hu; simp at hu
  have hn : 0 < n := by
    rcases Nat.eq_zero_or_pos n with e | e
    · have := h.1; rw [e, Nat.zero_mul] at this; exact absurd (List.eq_nil_of_length_eq_zero this) hne
    · exact e
  rw [add_block]
  exact ho _ ⟨hne, _, h.some hn, rfl⟩
def RRd (sz : Nat) (A : Option Addr) (n : Nat) (xs : List Value) : Res := ⟨fun k => xs ≠ [] ∧ ∃ a, A = some a ∧ k = a.block, fun w => Rd w sz A n xs, fun f h r => Rd.keep r f h, fun {w k} r hk => by
  obtain ⟨hne, a, rfl, rfl⟩ := hk
  cases xs with
  | nil => exact absurd rfl hne
  | cons u rest =>
    have := lt_of_cell (r.cell (j := 0) rfl)
    rwa [add_block] at this⟩
section
variable {b : Base} {X S : List Res} {w : World} {g sz n : Nat} {t e : TypeId} {cs xs : List Value} {v : Value} {A : Option Addr}
theorem Mem.blk (m : Mem b X S w) (i : Nat) (h : X[i]? = some (RBlk g t cs)) : Blk w g t cs := m.hx _ (List.mem_of_getElem? h)
theorem Mem.own (m : Mem b X S w) (i : Nat) (h : X[i]? = some (ROwn e sz v n xs)) : Own w 0 e sz v n xs := m.hx _ (List.mem_of_getElem? h)
theorem Mem.ownS (m : Mem b X S w) (i : Nat) (h : S[i]? = some (ROwn e sz v n xs)) : Own w 0 e sz v n xs := m.hs _ (List.mem_of_getElem? h)
theorem Mem.blkS (m : Mem b X S w) (i : Nat) (h : S[i]? = some (RBlk g t cs)) : Blk w g t cs := m.hs _ (List.mem_of_getElem? h)
theorem Mem.rd (m : Mem b X S w) (i : Nat) (h : S[i]? = some (RRd sz A n xs)) : Rd w sz A n xs := m.hs _ (List.mem_of_getElem? h)
/-- a slice of one's own, read -/
theorem Mem.ord {c : Nat} (m : Mem b X S w) (i : Nat) (h : X[i]? = some (ROwn e sz (.slice A n c) n xs)) : Rd w sz A n xs := (Own.rd (m.own i h)).2.2
theorem Own.base0 {b : Nat} (h : Own w b e sz v n xs) : Own w 0 e sz v n xs := h.wide (Nat.zero_le _)
theorem Own.rebase (h : Own w 0 e sz v n xs) {b : Nat} (hb : ∀ k, vblk v k → b ≤ k) : Own w b e sz v n xs := by
  rcases h with ⟨hl, h | ⟨g, o, cap, cur, rfl, hbb, h⟩⟩
  · exact ⟨hl, .inl h⟩
  · exact ⟨hl, .inr ⟨g, o, cap, cur, rfl, hb g rfl, h⟩⟩
end
/-- several things as one -/
def RPack (Xp : List Res) : Res where
  foot := feet Xp
  holds w := (Xp.Pairwise fun (p q : Res) => ∀ k : Nat, p.foot k → ¬ q.foot k) ∧ ∀ x ∈ Xp, x.holds w
  keep f h p := ⟨p.1, fun x hx => x.keep f (fun k hk => h k ⟨x, hx, hk⟩) (p.2 x hx)⟩
  low p hk := by
    obtain ⟨x, hx, hk⟩ := hk
    exact x.low (p.2 x hx) hk
section
variable {b : Base} {X S Xp : List Res} {w : World} {r r1 r2 : Res}
theorem Mem.unpack (m : Mem b (RPack Xp :: X) S w) : Mem b (Xp ++ X) S w := by
  obtain ⟨h1, h2⟩ := List.pairwise_cons.1 m.xx
  obtain ⟨p1, p3⟩ := m.hx _ (List.mem_cons_self ..)
  refine ⟨m.fr, List.pairwise_append.2 ⟨p1, h2, fun x hx y hy k hk hk' => h1 y hy k ⟨x, hx, hk⟩ hk'⟩, fun x hx s hs k hk hk' => ?_, fun x hx => ?_, m.hs, fun x hx k hk => ?_, m.ns⟩
  · rcases List.mem_append.1 hx with hx | hx
    · exact m.xs _ (List.mem_cons_self ..) s hs k ⟨x, hx, hk⟩ hk'
    · exact m.xs x (List.mem_cons_of_mem _ hx) s hs k hk hk'
  · rcases List.mem_append.1 hx with hx | hx
    · exact p3 x hx
    · exact m.hx x (List.mem_cons_of_mem _ hx)
  · rcases List.mem_append.1 hx with hx | hx
    · exact m.nx _ (List.mem_cons_self ..) k ⟨x, hx, hk⟩
    · exact m.nx x (List.mem_cons_of_mem _ hx) k hk
theorem Mem.pack (m : Mem b (Xp ++ X) S w) : Mem b (RPack Xp :: X) S w := by
  obtain ⟨p1, h2, h3⟩ := List.pairwise_append.1 m.xx
  refine ⟨m.fr, List.pairwise_cons.2 ⟨fun y hy k hk hk' => ?_, h2⟩, fun x hx s hs k hk hk' => ?_, fun x hx => ?_, m.hs, fun x hx k hk => ?_, m.ns⟩
  · obtain ⟨x, hx, hk⟩ := hk
    exact h3 x hx y hy k hk hk'
  · rcases List.mem_cons.1 hx with rfl | hx
    · obtain ⟨x, hx, hk⟩ := hk
      exact m.xs x (List.mem_append_left _ hx) s hs k hk hk'
    · exact m.xs x (List.mem_append_right _ hx) s hs k hk hk'
  · rcases List.mem_cons.1 hx with rfl | hx
    · exact ⟨p1, fun x hx => m.hx x (List.mem_append_left _ hx)⟩
    · exact m.hx x (List.mem_append_right _ hx)
  · rcases List.mem_cons.1 hx with rfl | hx
    · obtain ⟨x, hx, hk⟩ := hk
      exact m.nx x (List.mem_append_left _ hx) k hk
    · exact m.nx x (List.mem_append_right _ hx) k hk
/-- two as one -/
theorem Mem.merge (m : Mem b (r1 :: r2 :: X) S w) (h : r1.holds w → r2.holds w → r.holds w) (hk : ∀ k, r.foot k → r1.foot k ∨ r2.foot k) : Mem b (r :: X) S w := by
  have m' := (Mem.pack (Xp := [r1, r2]) m)
  exact m'.asX (fun p => h (p.2 r1 (by simp)) (p.2 r2 (by simp))) (fun k hr => by
    rcases hk k hr with h | h
    · exact ⟨r1, by simp, h⟩
    · exact ⟨r2, by simp, h⟩)
end
/-! ### Judgements without a world -/
def HL (P : Program) (ops : Array Oper) (Q : Exit → Act → World → Prop) (N : Nat) (D : List Deferred) (l : List Oper) (ρ : Env) (b : Base) (X S : List Res) : Prop := ∀ w, Mem b X S w → WL P ops Q N D l ρ w
def HC (P : Program) (Q : Exit → Act → World → Prop) (N : Nat) (D : List Deferred) (c : Code) (ρ : Env) (b : Base) (X S : List Res) : Prop := ∀ w, Mem b X S w → WC P Q N D c ρ w
def HQ (Q : Exit → Act → World → Prop) (N : Nat) (D : List Deferred) (e : Exit) (ρ : Env) (b : Base) (X S : List Res) : Prop := ∀ w, Mem b X S w → WQ Q N D e ρ w
def XH (P : Program) (Q : Exit → Act → World → Prop) (N : Nat) (D : List Deferred) (ρ : Env) (b : Base) (X S : List Res) (op : Op) (ty : TypeId) (K : Value → List Res → List Res → Prop) : Prop :=
  ∀ w, Mem b X S w → XW P Q N D ρ w op ty fun v w' => ∃ X' S', Mem b X' S' w' ∧ K v X' S'
/-- a region that draws: what is known at its start is known up to its c-th operation that changes the world -/
def HT (P : Program) (ops : Array Oper) (Q : Exit → Act → World → Prop) (T : Nat → World → Prop) (N : Nat) (D : List Deferred) (k : Nat) (l : List (Option Nat × Oper)) (ρ : Env) (b : Base) (X S : List Res) : Prop :=
  ∀ w, Mem b X S w → WT P ops Q T N D k l ρ w
def HP (P : Program) (ops : Array Oper) (Q : Exit → Act → World → Prop) (T : Nat → World → Prop) (N : Nat) (D : List Deferred) (k : Nat) (p : PlanO) (ρ : Env) (b : Base) (X S : List Res) : Prop :=
  ∀ w, Mem b X S w → WP P ops Q T N D k p ρ w
def TT (b : Base) (X S : List Res) (c k : Nat) (w : World) : Prop := k ≤ c → Mem b X S w
/-- the things at a region's start are among those now -/
def Wk (X S X' S' : List Res) : Prop := (∃ p, X'.Perm (X ++ p)) ∧ ∀ s ∈ S, s ∈ S'
theorem Wk.mem {b : Base} {X S X' S' : List Res} {w : World} (h : Wk X S X' S') (m : Mem b X' S' w) : Mem b X S w := by
  obtain ⟨⟨p, hp⟩, hS⟩ := h
  exact (m.perm hp).dropX.subS hS
theorem wk (is js : List Nat) {X S X' S' p : List Res} (h : takeR is X' = some (X, p)) (h' : getR js S' = some S) : Wk X S X' S' := ⟨⟨p, takeR_perm _ _ _ _ h⟩, getR_sub _ _ _ h'⟩
/-! environments -/
def SubB : Env → Env → Prop
  | [], _ => True
  | (t, v) :: r, ρ => get ρ t = some v ∧ SubB r ρ
theorem SubB.sub : ∀ {ρ' ρ : Env}, SubB ρ' ρ → Sub ρ' ρ
  | [], _, _ => sub_nil
  | (t, v) :: r, _, h => sub_cons h.1 h.2.sub
theorem sub_app {r q ρ : Env} (hr : Sub r ρ) (hq : Sub q ρ) : Sub (r ++ q) ρ := by
  intro t u ht
  induction r with
  | nil => exact hq t u ht
  | cons p r ih =>
    obtain ⟨k, x⟩ := p
    simp only [List.cons_append, get] at ht
    cases hb : Nat.beq k t with
    | true =>
      refine hr t u ?_
      simp only [get, hb, cond_true] at ht ⊢
      exact ht
    | false =>
      rw [hb] at ht
      simp only [cond_false] at ht
      by_cases hg : ∃ y, get r t = some y
      · obtain ⟨y, hy⟩ := hg
        have e1 : get (r ++ q) t = get r t := by
          clear ih hr ht
          induction r with
          | nil => simp [get] at hy
          | cons p r ih =>
            obtain ⟨k, x⟩ := p
            simp only [List.cons_append, get] at hy ⊢
            cases hb : Nat.beq k t with
            | true => rfl
            | false =>
              rw [hb] at hy
              simp only [cond_false] at hy ⊢
              exact ih hy
        refine hr t u ?_
        simp only [get, hb, cond_false]
        rw [← e1]; exact ht
      · have e1 : get (r ++ q) t = get q t := by
          clear ih hr ht
          induction r with
          | nil => rfl
          | cons p r ih =>
            obtain ⟨k, x⟩ := p
            simp only [List.cons_append, get] at hg ⊢
            cases hb : Nat.beq k t with
            | true => rw [hb] at hg; exact absurd ⟨x, rfl⟩ hg
            | false =>
              rw [hb] at hg
              simp only [cond_false] at hg ⊢
              exact ih hg
        rw [e1] at ht
        exact hq t u ht
/-- the values of slots -/
def keepE : List Nat → Env → Env
  | [], _ => []
  | t :: r, ρ => match get ρ t with
    | some v => (t, v) :: keepE r ρ
    | none => keepE r ρ
theorem keepE_sub : ∀ (l : List Nat) (ρ : Env), Sub (keepE l ρ) ρ
  | [], _ => sub_nil
  | t :: r, ρ => by
    unfold keepE
    split
    · rename_i v h
      exact sub_cons h (keepE_sub r ρ)
    · exact keepE_sub r ρ
section
variable {P : Program} {ops : Array Oper} {Q : Exit → Act → World → Prop} {N : Nat} {D : List Deferred} {ρ ρ' : Env} {b : Base} {X X' X0 Xr S S' S0 : List Res} {rest : List Oper}
  {op : Op} {ty : TypeId} {pos : String} {af : Array Edge} {d : Nat} {v : Value} {c c' : Code} {e : Exit}
theorem hy (h : ∀ {w}, Mem b X S w → Yl P N D ρ w op ty v) (k : HL P ops Q N D rest ((d, v) :: ρ) b X S) (hd : d < N := by decide) : HL P ops Q N D (⟨some d, op, ty, pos, af, none⟩ :: rest) ρ b X S :=
  fun w m => nq (h m) (k w m) hd
theorem hyg {g gd : Nat} {want : Bool} {o : Oper} (ho : ops[g]? = some o) (hod : o.dst = some gd) (hb : get ρ gd = some (.bool want)) (h : ∀ {w}, Mem b X S w → Yl P N D ρ w op ty v)
    (k : HL P ops Q N D rest ((d, v) :: ρ) b X S) (hd : d < N := by decide) : HL P ops Q N D (⟨some d, op, ty, pos, af, some (g, want)⟩ :: rest) ρ b X S :=
  fun w m => ng ho hod hb (h m) (k w m) hd
theorem hx (h : XH P Q N D ρ b X S op ty fun v X' S' => HL P ops Q N D rest ((d, v) :: ρ) b X' S') (hd : d < N := by decide) : HL P ops Q N D (⟨some d, op, ty, pos, af, none⟩ :: rest) ρ b X S := fun w m => nx (fun a dst pos af g ha => Oper.wp_mono (by
  rintro a' w' ⟨v, rfl, X', S', m', hk⟩
  exact ⟨v, rfl, hk w' m'⟩) (h w m a dst pos af g ha)) hd
theorem hx0 (h : XH P Q N D ρ b X S op ty fun _ X' S' => HL P ops Q N D rest ρ b X' S') : HL P ops Q N D (⟨none, op, ty, pos, af, none⟩ :: rest) ρ b X S := fun w m => nx0 (fun a dst pos af g ha => Oper.wp_mono (by
  rintro a' w' ⟨v, rfl, X', S', m', hk⟩
  exact ⟨v, rfl, hk w' m'⟩) (h w m a dst pos af g ha))
theorem hxg {g gd : Nat} {want : Bool} {o : Oper} (ho : ops[g]? = some o) (hod : o.dst = some gd) (hb : get ρ gd = some (.bool want)) (h : XH P Q N D ρ b X S op ty fun v X' S' => HL P ops Q N D rest ((d, v) :: ρ) b X' S') (hd : d < N := by decide) :
    HL P ops Q N D (⟨some d, op, ty, pos, af, some (g, want)⟩ :: rest) ρ b X S := fun w m => nxg ho hod hb (fun a dst pos af g ha => Oper.wp_mono (by
  rintro a' w' ⟨v, rfl, X', S', m', hk⟩
  exact ⟨v, rfl, hk w' m'⟩) (h w m a dst pos af g ha)) hd
theorem hskip {g gd : Nat} {want b' : Bool} {o : Oper} (ho : ops[g]? = some o) (hod : o.dst = some gd) (hb : get ρ gd = some (.bool b')) (hne : b' ≠ want) (k : HL P ops Q N D rest ((d, undef) :: ρ) b X S) (hd : d < N := by decide) :
    HL P ops Q N D (⟨some d, op, ty, pos, af, some (g, want)⟩ :: rest) ρ b X S := fun w m => nskip ho hod hb hne (k w m) hd
theorem hskipU {g gd : Nat} {want : Bool} {o : Oper} (ho : ops[g]? = some o) (hod : o.dst = some gd) (hb : get ρ gd = some undef) (k : HL P ops Q N D rest ((d, undef) :: ρ) b X S) (hd : d < N := by decide) :
    HL P ops Q N D (⟨some d, op, ty, pos, af, some (g, want)⟩ :: rest) ρ b X S := fun w m => nskipU ho hod hb (k w m) hd
theorem hend (h : HQ Q N D .normal ρ b X S) : HL P ops Q N D [] ρ b X S := fun w m => nend (h w m)
theorem hseq (h : HC P (Exit.then (c'.wp P Q) Q) N D c ρ b X S) : HC P Q N D (.seq c c') ρ b X S := fun w m => cseq (h w m)
theorem hreg {id : Nat} {l : List Oper} (h : HL P l.toArray Q N D l ρ b X S) : HC P Q N D (.region id l.toArray false) ρ b X S := fun w m => creg (h w m)
theorem hcskip (h : HQ Q N D .normal ρ b X S) : HC P Q N D .skip ρ b X S := fun w m => cskip (h w m)
theorem hexit {id : Nat} (h : HQ Q N D (.exit id) ρ b X S) : HC P Q N D (.exit id) ρ b X S := fun w m => cexit (h w m)
theorem hret (h : HQ Q N D .ret ρ b X S) : HC P Q N D .ret ρ b X S := fun w m => cret (h w m)
theorem hblock {id : Nat} (h : HC P (Exit.inBlock id Q) N D c ρ b X S) : HC P Q N D (.block id c) ρ b X S := fun w m => cblock (h w m)
theorem hif {p : Prop} [Decidable p] {x : Operand} (hc : ev ρ x = some (.bool (decide p))) (ht : p → HC P Q N D c ρ b X S) (he : ¬ p → HC P Q N D c' ρ b X S) : HC P Q N D (.cond x c c') ρ b X S := fun w m => cif hc (fun h => ht h w m) (fun h => he h w m)
theorem hifb {q : Bool} {x : Operand} (hc : ev ρ x = some (.bool q)) (ht : q = true → HC P Q N D c ρ b X S) (he : q = false → HC P Q N D c' ρ b X S) : HC P Q N D (.cond x c c') ρ b X S := fun w m => cifb hc (fun h => ht h w m) (fun h => he h w m)
theorem hift {x : Operand} {q : Bool} (hc : ev ρ x = some (.bool q)) (hb : q = true) (ht : HC P Q N D c ρ b X S) : HC P Q N D (.cond x c c') ρ b X S := fun w m => cift hc hb (ht w m)
theorem hiff {x : Operand} {q : Bool} (hc : ev ρ x = some (.bool q)) (hb : q = false) (ht : HC P Q N D c' ρ b X S) : HC P Q N D (.cond x c c') ρ b X S := fun w m => ciff hc hb (ht w m)
theorem hthen (h : HC P Q N D c ρ b X S) : HQ (Exit.then (c.wp P Q) Q) N D .normal ρ b X S := h
theorem hthen_exit {K : Act → World → Prop} {id : Nat} (h : HQ Q N D (.exit id) ρ b X S) : HQ (Exit.then K Q) N D (.exit id) ρ b X S := h
theorem hthen_ret {K : Act → World → Prop} (h : HQ Q N D .ret ρ b X S) : HQ (Exit.then K Q) N D .ret ρ b X S := h
theorem hqblock {id : Nat} (h : HQ Q N D .normal ρ b X S) : HQ (Exit.inBlock id Q) N D .normal ρ b X S := h
theorem hqblock_exit {id : Nat} (h : HQ Q N D .normal ρ b X S) : HQ (Exit.inBlock id Q) N D (.exit id) ρ b X S := fun w m => qblock_exit (h w m)
theorem hqblock_exit' {id id' : Nat} (hne : id' ≠ id) (h : HQ Q N D (.exit id') ρ b X S) : HQ (Exit.inBlock id Q) N D (.exit id') ρ b X S := fun w m => qblock_exit' hne (h w m)
theorem hqblock_ret {id : Nat} (h : HQ Q N D .ret ρ b X S) : HQ (Exit.inBlock id Q) N D .ret ρ b X S := h
theorem hsub (hs : SubB ρ' ρ) (h : HQ Q N D e ρ' b X S) : HQ Q N D e ρ b X S := fun w m => qsub hs.sub (h w m)
/-- only these slots are kept -/
theorem hkeep (l : List Nat) (h : HQ Q N D e (keepE l ρ) b X S) : HQ Q N D e ρ b X S := fun w m => qsub (keepE_sub l ρ) (h w m)
theorem hmemL (h : ∀ w, Mem b X S w → Mem b X' S' w) (k : HL P ops Q N D rest ρ b X' S') : HL P ops Q N D rest ρ b X S := fun w m => k w (h w m)
theorem hmemC (h : ∀ w, Mem b X S w → Mem b X' S' w) (k : HC P Q N D c ρ b X' S') : HC P Q N D c ρ b X S := fun w m => k w (h w m)
theorem hmemQ (h : ∀ w, Mem b X S w → Mem b X' S' w) (k : HQ Q N D e ρ b X' S') : HQ Q N D e ρ b X S := fun w m => k w (h w m)
/-- what the memory tells -/
theorem hfactL {p : Prop} (h : ∀ {w}, Mem b X S w → p) (k : p → HL P ops Q N D rest ρ b X S) : HL P ops Q N D rest ρ b X S := fun w m => k (h m) w m
theorem hfactC {p : Prop} (h : ∀ {w}, Mem b X S w → p) (k : p → HC P Q N D c ρ b X S) : HC P Q N D c ρ b X S := fun w m => k (h m) w m
theorem hfactQ {p : Prop} (h : ∀ {w}, Mem b X S w → p) (k : p → HQ Q N D e ρ b X S) : HQ Q N D e ρ b X S := fun w m => k (h m) w m
theorem hsplit {p : Prop} [Decidable p] (gd : Nat) (hg : get ρ gd = some (.bool (decide p))) (ht : p → HL P ops Q N D rest ((gd, .bool true) :: ρ) b X S) (hf : ¬ p → HL P ops Q N D rest ((gd, .bool false) :: ρ) b X S) : HL P ops Q N D rest ρ b X S :=
  fun w m => nsplit gd hg (fun h => ht h w m) (fun h => hf h w m)
theorem hsplitb {q : Bool} (gd : Nat) (hg : get ρ gd = some (.bool q)) (ht : q = true → HL P ops Q N D rest ((gd, .bool true) :: ρ) b X S) (hf : q = false → HL P ops Q N D rest ((gd, .bool false) :: ρ) b X S) : HL P ops Q N D rest ρ b X S :=
  fun w m => nsplit (p := q = true) gd (by rw [hg]; cases q <;> rfl) (fun h => ht h w m) (fun h => hf (by simpa using h) w m)
/-- a loop; X1 i: what its rounds change -/
theorem hloop {ι : Type} (μ : ι → Nat) (R : ι → Env) (X1 S1 : ι → List Res) (I : ι → Prop) (i0 : ι) (ρk : Env) (hk : SubB ρk ρ) (is : List Nat) (hX : takeR is X = some (X1 i0, Xr)) (js : List Nat) (hS : getR js S = some (S1 i0)) (hI : I i0) (hs : SubB (R i0) ρ)
    (round : ∀ i, I i → HC P (Exit.then (fun a' w' => ∃ j, Ag N D (R j ++ ρk) a' ∧ Mem b (X1 j ++ Xr) (S1 j ++ S) w' ∧ I j ∧ μ j < μ i) Q) N D c (R i ++ ρk) b (X1 i ++ Xr) (S1 i ++ S)) : HC P Q N D (.loop c) ρ b X S := by
  intro w m
  have m' := (m.perm (takeR_perm _ _ _ _ hX)).subS (S' := S1 i0 ++ S) (fun s hs => by
    rcases List.mem_append.1 hs with h | h
    · exact getR_sub _ _ _ hS s h
    · exact h)
  refine cloop μ (fun i => R i ++ ρk) (fun i w => I i ∧ Mem b (X1 i ++ Xr) (S1 i ++ S) w) i0 ⟨hI, m'⟩ ?_ (fun i w hi a ha => Code.wp_mono (fun e a' w' q => by
    cases e <;> first | exact q | (obtain ⟨j, h1, h2, h3, h4⟩ := q; exact ⟨j, h1, ⟨h3, h2⟩, h4⟩)) (round i hi.1 w hi.2 a ha))
  exact sub_app hs.sub hk.sub
theorem hloop1 {α : Type} (μ : α → Nat) (R : α → Env) (X1 S1 : α → List Res) (I : α → Prop) (a0 : α) (ρk : Env) (hk : SubB ρk ρ) (is : List Nat) (hX : takeR is X = some (X1 a0, Xr)) (js : List Nat) (hS : getR js S = some (S1 a0)) (hI : I a0) (hs : SubB (R a0) ρ)
    (round : ∀ a, I a → HC P (Exit.then (fun a' w' => ∃ x, Ag N D (R x ++ ρk) a' ∧ Mem b (X1 x ++ Xr) (S1 x ++ S) w' ∧ I x ∧ μ x < μ a) Q) N D c (R a ++ ρk) b (X1 a ++ Xr) (S1 a ++ S)) : HC P Q N D (.loop c) ρ b X S :=
  hloop (ι := α) (fun i => μ i) (fun i => R i) (fun i => X1 i) (fun i => S1 i) (fun i => I i) a0 ρk hk is hX js hS hI hs fun i hi w m a ha => Code.wp_mono (fun e a' w' q => by
    cases e <;> first | exact q | (obtain ⟨x, h⟩ := q; exact ⟨x, h⟩)) (round i hi w m a ha)
theorem hnext1 {α : Type} {M : Nat} {μ : α → Nat} {R : α → Env} {X1 S1 : α → List Res} {Xr Sr : List Res} {ρ0 : Env} {I : α → Prop} (x : α) (hs : SubB (R x ++ ρ0) ρ) (is : List Nat) {Xz : List Res} (hX : takeR is X = some (X1 x ++ Xr, Xz)) (js : List Nat) (hS : getR js S = some (S1 x ++ Sr)) (hI : I x) (hlt : μ x < M) :
    HQ (Exit.then (fun a' w' => ∃ x, Ag N D (R x ++ ρ0) a' ∧ Mem b (X1 x ++ Xr) (S1 x ++ Sr) w' ∧ I x ∧ μ x < M) Q) N D .normal ρ b X S :=
  fun w m a ha => ⟨x, ha.sub hs.sub, ((m.perm (takeR_perm _ _ _ _ hX)).dropX).subS (getR_sub _ _ _ hS), hI, hlt⟩
theorem hloop2 {α β : Type} (μ : α → β → Nat) (R : α → β → Env) (X1 S1 : α → β → List Res) (I : α → β → Prop) (a0 : α) (b_0 : β) (ρk : Env) (hk : SubB ρk ρ) (is : List Nat) (hX : takeR is X = some (X1 a0 b_0, Xr)) (js : List Nat) (hS : getR js S = some (S1 a0 b_0)) (hI : I a0 b_0) (hs : SubB (R a0 b_0) ρ)
    (round : ∀ a b_, I a b_ → HC P (Exit.then (fun a' w' => ∃ x y, Ag N D (R x y ++ ρk) a' ∧ Mem b (X1 x y ++ Xr) (S1 x y ++ S) w' ∧ I x y ∧ μ x y < μ a b_) Q) N D c (R a b_ ++ ρk) b (X1 a b_ ++ Xr) (S1 a b_ ++ S)) : HC P Q N D (.loop c) ρ b X S :=
  hloop (ι := α × β) (fun i => μ i.1 i.2) (fun i => R i.1 i.2) (fun i => X1 i.1 i.2) (fun i => S1 i.1 i.2) (fun i => I i.1 i.2) (a0, b_0) ρk hk is hX js hS hI hs fun i hi w m a ha => Code.wp_mono (fun e a' w' q => by
    cases e <;> first | exact q | (obtain ⟨x, y, h⟩ := q; exact ⟨(x, y), h⟩)) (round i.1 i.2 hi w m a ha)
theorem hnext2 {α β : Type} {M : Nat} {μ : α → β → Nat} {R : α → β → Env} {X1 S1 : α → β → List Res} {Xr Sr : List Res} {ρ0 : Env} {I : α → β → Prop} (x : α) (y : β) (hs : SubB (R x y ++ ρ0) ρ) (is : List Nat) {Xz : List Res} (hX : takeR is X = some (X1 x y ++ Xr, Xz)) (js : List Nat) (hS : getR js S = some (S1 x y ++ Sr)) (hI : I x y) (hlt : μ x y < M) :
    HQ (Exit.then (fun a' w' => ∃ x y, Ag N D (R x y ++ ρ0) a' ∧ Mem b (X1 x y ++ Xr) (S1 x y ++ Sr) w' ∧ I x y ∧ μ x y < M) Q) N D .normal ρ b X S :=
  fun w m a ha => ⟨x, y, ha.sub hs.sub, ((m.perm (takeR_perm _ _ _ _ hX)).dropX).subS (getR_sub _ _ _ hS), hI, hlt⟩
theorem hloop3 {α β γ : Type} (μ : α → β → γ → Nat) (R : α → β → γ → Env) (X1 S1 : α → β → γ → List Res) (I : α → β → γ → Prop) (a0 : α) (b_0 : β) (c_0 : γ) (ρk : Env) (hk : SubB ρk ρ) (is : List Nat) (hX : takeR is X = some (X1 a0 b_0 c_0, Xr)) (js : List Nat) (hS : getR js S = some (S1 a0 b_0 c_0)) (hI : I a0 b_0 c_0) (hs : SubB (R a0 b_0 c_0) ρ)
    (round : ∀ a b_ c_, I a b_ c_ → HC P (Exit.then (fun a' w' => ∃ x y z, Ag N D (R x y z ++ ρk) a' ∧ Mem b (X1 x y z ++ Xr) (S1 x y z ++ S) w' ∧ I x y z ∧ μ x y z < μ a b_ c_) Q) N D c (R a b_ c_ ++ ρk) b (X1 a b_ c_ ++ Xr) (S1 a b_ c_ ++ S)) : HC P Q N D (.loop c) ρ b X S :=
  hloop (ι := α × β × γ) (fun i => μ i.1 i.2.1 i.2.2) (fun i => R i.1 i.2.1 i.2.2) (fun i => X1 i.1 i.2.1 i.2.2) (fun i => S1 i.1 i.2.1 i.2.2) (fun i => I i.1 i.2.1 i.2.2) (a0, b_0, c_0) ρk hk is hX js hS hI hs fun i hi w m a ha => Code.wp_mono (fun e a' w' q => by
    cases e <;> first | exact q | (obtain ⟨x, y, z, h⟩ := q; exact ⟨(x, y, z), h⟩)) (round i.1 i.2.1 i.2.2 hi w m a ha)
theorem hnext3 {α β γ : Type} {M : Nat} {μ : α → β → γ → Nat} {R : α → β → γ → Env} {X1 S1 : α → β → γ → List Res} {Xr Sr : List Res} {ρ0 : Env} {I : α → β → γ → Prop} (x : α) (y : β) (z : γ) (hs : SubB (R x y z ++ ρ0) ρ) (is : List Nat) {Xz : List Res} (hX : takeR is X = some (X1 x y z ++ Xr, Xz)) (js : List Nat) (hS : getR js S = some (S1 x y z ++ Sr)) (hI : I x y z) (hlt : μ x y z < M) :
    HQ (Exit.then (fun a' w' => ∃ x y z, Ag N D (R x y z ++ ρ0) a' ∧ Mem b (X1 x y z ++ Xr) (S1 x y z ++ Sr) w' ∧ I x y z ∧ μ x y z < M) Q) N D .normal ρ b X S :=
  fun w m a ha => ⟨x, y, z, ha.sub hs.sub, ((m.perm (takeR_perm _ _ _ _ hX)).dropX).subS (getR_sub _ _ _ hS), hI, hlt⟩
theorem hloop4 {α β γ δ : Type} (μ : α → β → γ → δ → Nat) (R : α → β → γ → δ → Env) (X1 S1 : α → β → γ → δ → List Res) (I : α → β → γ → δ → Prop) (a0 : α) (b_0 : β) (c_0 : γ) (d_0 : δ) (ρk : Env) (hk : SubB ρk ρ) (is : List Nat) (hX : takeR is X = some (X1 a0 b_0 c_0 d_0, Xr)) (js : List Nat) (hS : getR js S = some (S1 a0 b_0 c_0 d_0)) (hI : I a0 b_0 c_0 d_0) (hs : SubB (R a0 b_0 c_0 d_0) ρ)
    (round : ∀ a b_ c_ d_, I a b_ c_ d_ → HC P (Exit.then (fun a' w' => ∃ x y z u, Ag N D (R x y z u ++ ρk) a' ∧ Mem b (X1 x y z u ++ Xr) (S1 x y z u ++ S) w' ∧ I x y z u ∧ μ x y z u < μ a b_ c_ d_) Q) N D c (R a b_ c_ d_ ++ ρk) b (X1 a b_ c_ d_ ++ Xr) (S1 a b_ c_ d_ ++ S)) : HC P Q N D (.loop c) ρ b X S :=
  hloop (ι := α × β × γ × δ) (fun i => μ i.1 i.2.1 i.2.2.1 i.2.2.2) (fun i => R i.1 i.2.1 i.2.2.1 i.2.2.2) (fun i => X1 i.1 i.2.1 i.2.2.1 i.2.2.2) (fun i => S1 i.1 i.2.1 i.2.2.1 i.2.2.2) (fun i => I i.1 i.2.1 i.2.2.1 i.2.2.2) (a0, b_0, c_0, d_0) ρk hk is hX js hS hI hs fun i hi w m a ha => Code.wp_mono (fun e a' w' q => by
    cases e <;> first | exact q | (obtain ⟨x, y, z, u, h⟩ := q; exact ⟨(x, y, z, u), h⟩)) (round i.1 i.2.1 i.2.2.1 i.2.2.2 hi w m a ha)
theorem hnext4 {α β γ δ : Type} {M : Nat} {μ : α → β → γ → δ → Nat} {R : α → β → γ → δ → Env} {X1 S1 : α → β → γ → δ → List Res} {Xr Sr : List Res} {ρ0 : Env} {I : α → β → γ → δ → Prop} (x : α) (y : β) (z : γ) (u : δ) (hs : SubB (R x y z u ++ ρ0) ρ) (is : List Nat) {Xz : List Res} (hX : takeR is X = some (X1 x y z u ++ Xr, Xz)) (js : List Nat) (hS : getR js S = some (S1 x y z u ++ Sr)) (hI : I x y z u) (hlt : μ x y z u < M) :
    HQ (Exit.then (fun a' w' => ∃ x y z u, Ag N D (R x y z u ++ ρ0) a' ∧ Mem b (X1 x y z u ++ Xr) (S1 x y z u ++ Sr) w' ∧ I x y z u ∧ μ x y z u < M) Q) N D .normal ρ b X S :=
  fun w m a ha => ⟨x, y, z, u, ha.sub hs.sub, ((m.perm (takeR_perm _ _ _ _ hX)).dropX).subS (getR_sub _ _ _ hS), hI, hlt⟩
theorem hloop5 {α β γ δ ε : Type} (μ : α → β → γ → δ → ε → Nat) (R : α → β → γ → δ → ε → Env) (X1 S1 : α → β → γ → δ → ε → List Res) (I : α → β → γ → δ → ε → Prop) (a0 : α) (b_0 : β) (c_0 : γ) (d_0 : δ) (e_0 : ε) (ρk : Env) (hk : SubB ρk ρ) (is : List Nat) (hX : takeR is X = some (X1 a0 b_0 c_0 d_0 e_0, Xr)) (js : List Nat) (hS : getR js S = some (S1 a0 b_0 c_0 d_0 e_0)) (hI : I a0 b_0 c_0 d_0 e_0) (hs : SubB (R a0 b_0 c_0 d_0 e_0) ρ)
    (round : ∀ a b_ c_ d_ e_, I a b_ c_ d_ e_ → HC P (Exit.then (fun a' w' => ∃ x y z u v_, Ag N D (R x y z u v_ ++ ρk) a' ∧ Mem b (X1 x y z u v_ ++ Xr) (S1 x y z u v_ ++ S) w' ∧ I x y z u v_ ∧ μ x y z u v_ < μ a b_ c_ d_ e_) Q) N D c (R a b_ c_ d_ e_ ++ ρk) b (X1 a b_ c_ d_ e_ ++ Xr) (S1 a b_ c_ d_ e_ ++ S)) : HC P Q N D (.loop c) ρ b X S :=
  hloop (ι := α × β × γ × δ × ε) (fun i => μ i.1 i.2.1 i.2.2.1 i.2.2.2.1 i.2.2.2.2) (fun i => R i.1 i.2.1 i.2.2.1 i.2.2.2.1 i.2.2.2.2) (fun i => X1 i.1 i.2.1 i.2.2.1 i.2.2.2.1 i.2.2.2.2) (fun i => S1 i.1 i.2.1 i.2.2.1 i.2.2.2.1 i.2.2.2.2) (fun i => I i.1 i.2.1 i.2.2.1 i.2.2.2.1 i.2.2.2.2) (a0, b_0, c_0, d_0, e_0) ρk hk is hX js hS hI hs fun i hi w m a ha => Code.wp_mono (fun e a' w' q => by
    cases e <;> first | exact q | (obtain ⟨x, y, z, u, v_, h⟩ := q; exact ⟨(x, y, z, u, v_), h⟩)) (round i.1 i.2.1 i.2.2.1 i.2.2.2.1 i.2.2.2.2 hi w m a ha)
theorem hnext5 {α β γ δ ε : Type} {M : Nat} {μ : α → β → γ → δ → ε → Nat} {R : α → β → γ → δ → ε → Env} {X1 S1 : α → β → γ → δ → ε → List Res} {Xr Sr : List Res} {ρ0 : Env} {I : α → β → γ → δ → ε → Prop} (x : α) (y : β) (z : γ) (u : δ) (v_ : ε) (hs : SubB (R x y z u v_ ++ ρ0) ρ) (is : List Nat) {Xz : List Res} (hX : takeR is X = some (X1 x y z u v_ ++ Xr, Xz)) (js : List Nat) (hS : getR js S = some (S1 x y z u v_ ++ Sr)) (hI : I x y z u v_) (hlt : μ x y z u v_ < M) :
    HQ (Exit.then (fun a' w' => ∃ x y z u v_, Ag N D (R x y z u v_ ++ ρ0) a' ∧ Mem b (X1 x y z u v_ ++ Xr) (S1 x y z u v_ ++ Sr) w' ∧ I x y z u v_ ∧ μ x y z u v_ < M) Q) N D .normal ρ b X S :=
  fun w m a ha => ⟨x, y, z, u, v_, ha.sub hs.sub, ((m.perm (takeR_perm _ _ _ _ hX)).dropX).subS (getR_sub _ _ _ hS), hI, hlt⟩
theorem hloop6 {α β γ δ ε ζ : Type} (μ : α → β → γ → δ → ε → ζ → Nat) (R : α → β → γ → δ → ε → ζ → Env) (X1 S1 : α → β → γ → δ → ε → ζ → List Res) (I : α → β → γ → δ → ε → ζ → Prop) (a0 : α) (b_0 : β) (c_0 : γ) (d_0 : δ) (e_0 : ε) (f_0 : ζ) (ρk : Env) (hk : SubB ρk ρ) (is : List Nat) (hX : takeR is X = some (X1 a0 b_0 c_0 d_0 e_0 f_0, Xr)) (js : List Nat) (hS : getR js S = some (S1 a0 b_0 c_0 d_0 e_0 f_0)) (hI : I a0 b_0 c_0 d_0 e_0 f_0) (hs : SubB (R a0 b_0 c_0 d_0 e_0 f_0) ρ)
    (round : ∀ a b_ c_ d_ e_ f_, I a b_ c_ d_ e_ f_ → HC P (Exit.then (fun a' w' => ∃ x y z u v_ t_, Ag N D (R x y z u v_ t_ ++ ρk) a' ∧ Mem b (X1 x y z u v_ t_ ++ Xr) (S1 x y z u v_ t_ ++ S) w' ∧ I x y z u v_ t_ ∧ μ x y z u v_ t_ < μ a b_ c_ d_ e_ f_) Q) N D c (R a b_ c_ d_ e_ f_ ++ ρk) b (X1 a b_ c_ d_ e_ f_ ++ Xr) (S1 a b_ c_ d_ e_ f_ ++ S)) : HC P Q N D (.loop c) ρ b X S :=
  hloop (ι := α × β × γ × δ × ε × ζ) (fun i => μ i.1 i.2.1 i.2.2.1 i.2.2.2.1 i.2.2.2.2.1 i.2.2.2.2.2) (fun i => R i.1 i.2.1 i.2.2.1 i.2.2.2.1 i.2.2.2.2.1 i.2.2.2.2.2) (fun i => X1 i.1 i.2.1 i.2.2.1 i.2.2.2.1 i.2.2.2.2.1 i.2.2.2.2.2) (fun i => S1 i.1 i.2.1 i.2.2.1 i.2.2.2.1 i.2.2.2.2.1 i.2.2.2.2.2) (fun i => I i.1 i.2.1 i.2.2.1 i.2.2.2.1 i.2.2.2.2.1 i.2.2.2.2.2) (a0, b_0, c_0, d_0, e_0, f_0) ρk hk is hX js hS hI hs fun i hi w m a ha => Code.wp_mono (fun e a' w' q => by
    cases e <;> first | exact q | (obtain ⟨x, y, z, u, v_, t_, h⟩ := q; exact ⟨(x, y, z, u, v_, t_), h⟩)) (round i.1 i.2.1 i.2.2.1 i.2.2.2.1 i.2.2.2.2.1 i.2.2.2.2.2 hi w m a ha)
theorem hnext6 {α β γ δ ε ζ : Type} {M : Nat} {μ : α → β → γ → δ → ε → ζ → Nat} {R : α → β → γ → δ → ε → ζ → Env} {X1 S1 : α → β → γ → δ → ε → ζ → List Res} {Xr Sr : List Res} {ρ0 : Env} {I : α → β → γ → δ → ε → ζ → Prop} (x : α) (y : β) (z : γ) (u : δ) (v_ : ε) (t_ : ζ) (hs : SubB (R x y z u v_ t_ ++ ρ0) ρ) (is : List Nat) {Xz : List Res} (hX : takeR is X = some (X1 x y z u v_ t_ ++ Xr, Xz)) (js : List Nat) (hS : getR js S = some (S1 x y z u v_ t_ ++ Sr)) (hI : I x y z u v_ t_) (hlt : μ x y z u v_ t_ < M) :
    HQ (Exit.then (fun a' w' => ∃ x y z u v_ t_, Ag N D (R x y z u v_ t_ ++ ρ0) a' ∧ Mem b (X1 x y z u v_ t_ ++ Xr) (S1 x y z u v_ t_ ++ Sr) w' ∧ I x y z u v_ t_ ∧ μ x y z u v_ t_ < M) Q) N D .normal ρ b X S :=
  fun w m a ha => ⟨x, y, z, u, v_, t_, ha.sub hs.sub, ((m.perm (takeR_perm _ _ _ _ hX)).dropX).subS (getR_sub _ _ _ hS), hI, hlt⟩
theorem hloop7 {α β γ δ ε ζ η : Type} (μ : α → β → γ → δ → ε → ζ → η → Nat) (R : α → β → γ → δ → ε → ζ → η → Env) (X1 S1 : α → β → γ → δ → ε → ζ → η → List Res) (I : α → β → γ → δ → ε → ζ → η → Prop) (a0 : α) (b_0 : β) (c_0 : γ) (d_0 : δ) (e_0 : ε) (f_0 : ζ) (g_0 : η) (ρk : Env) (hk : SubB ρk ρ) (is : List Nat) (hX : takeR is X = some (X1 a0 b_0 c_0 d_0 e_0 f_0 g_0, Xr)) (js : List Nat) (hS : getR js S = some (S1 a0 b_0 c_0 d_0 e_0 f_0 g_0)) (hI : I a0 b_0 c_0 d_0 e_0 f_0 g_0) (hs : SubB (R a0 b_0 c_0 d_0 e_0 f_0 g_0) ρ)
    (round : ∀ a b_ c_ d_ e_ f_ g_, I a b_ c_ d_ e_ f_ g_ → HC P (Exit.then (fun a' w' => ∃ x y z u v_ t_ s_, Ag N D (R x y z u v_ t_ s_ ++ ρk) a' ∧ Mem b (X1 x y z u v_ t_ s_ ++ Xr) (S1 x y z u v_ t_ s_ ++ S) w' ∧ I x y z u v_ t_ s_ ∧ μ x y z u v_ t_ s_ < μ a b_ c_ d_ e_ f_ g_) Q) N D c (R a b_ c_ d_ e_ f_ g_ ++ ρk) b (X1 a b_ c_ d_ e_ f_ g_ ++ Xr) (S1 a b_ c_ d_ e_ f_ g_ ++ S)) : HC P Q N D (.loop c) ρ b X S :=
  hloop (ι := α × β × γ × δ × ε × ζ × η) (fun i => μ i.1 i.2.1 i.2.2.1 i.2.2.2.1 i.2.2.2.2.1 i.2.2.2.2.2.1 i.2.2.2.2.2.2) (fun i => R i.1 i.2.1 i.2.2.1 i.2.2.2.1 i.2.2.2.2.1 i.2.2.2.2.2.1 i.2.2.2.2.2.2) (fun i => X1 i.1 i.2.1 i.2.2.1 i.2.2.2.1 i.2.2.2.2.1 i.2.2.2.2.2.1 i.2.2.2.2.2.2) (fun i => S1 i.1 i.2.1 i.2.2.1 i.2.2.2.1 i.2.2.2.2.1 i.2.2.2.2.2.1 i.2.2.2.2.2.2) (fun i => I i.1 i.2.1 i.2.2.1 i.2.2.2.1 i.2.2.2.2.1 i.2.2.2.2.2.1 i.2.2.2.2.2.2) (a0, b_0, c_0, d_0, e_0, f_0, g_0) ρk hk is hX js hS hI hs fun i hi w m a ha => Code.wp_mono (fun e a' w' q => by
    cases e <;> first | exact q | (obtain ⟨x, y, z, u, v_, t_, s_, h⟩ := q; exact ⟨(x, y, z, u, v_, t_, s_), h⟩)) (round i.1 i.2.1 i.2.2.1 i.2.2.2.1 i.2.2.2.2.1 i.2.2.2.2.2.1 i.2.2.2.2.2.2 hi w m a ha)
theorem hnext7 {α β γ δ ε ζ η : Type} {M : Nat} {μ : α → β → γ → δ → ε → ζ → η → Nat} {R : α → β → γ → δ → ε → ζ → η → Env} {X1 S1 : α → β → γ → δ → ε → ζ → η → List Res} {Xr Sr : List Res} {ρ0 : Env} {I : α → β → γ → δ → ε → ζ → η → Prop} (x : α) (y : β) (z : γ) (u : δ) (v_ : ε) (t_ : ζ) (s_ : η) (hs : SubB (R x y z u v_ t_ s_ ++ ρ0) ρ) (is : List Nat) {Xz : List Res} (hX : takeR is X = some (X1 x y z u v_ t_ s_ ++ Xr, Xz)) (js : List Nat) (hS : getR js S = some (S1 x y z u v_ t_ s_ ++ Sr)) (hI : I x y z u v_ t_ s_) (hlt : μ x y z u v_ t_ s_ < M) :
    HQ (Exit.then (fun a' w' => ∃ x y z u v_ t_ s_, Ag N D (R x y z u v_ t_ s_ ++ ρ0) a' ∧ Mem b (X1 x y z u v_ t_ s_ ++ Xr) (S1 x y z u v_ t_ s_ ++ Sr) w' ∧ I x y z u v_ t_ s_ ∧ μ x y z u v_ t_ s_ < M) Q) N D .normal ρ b X S :=
  fun w m a ha => ⟨x, y, z, u, v_, t_, s_, ha.sub hs.sub, ((m.perm (takeR_perm _ _ _ _ hX)).dropX).subS (getR_sub _ _ _ hS), hI, hlt⟩
/-- what is said behind a piece of code -/
theorem hcut {ι : Type} (R : ι → Env) (X1 S1 : ι → List Res) (I : ι → Prop) (h : HC P (CutQ N D R fun i w => Mem b (X1 i) (S1 i) w ∧ I i) N D c ρ b X S) (k : ∀ i, I i → HQ Q N D .normal (R i) b (X1 i) (S1 i)) : HC P Q N D c ρ b X S :=
  fun w m => ccut R _ (h w m) fun i w' hi => k i hi.2 w' hi.1
theorem hqcut {ι : Type} {R : ι → Env} {X1 S1 : ι → List Res} {I : ι → Prop} (i : ι) (hs : SubB (R i) ρ) (is : List Nat) {Xz : List Res} (hX : takeR is X = some (X1 i, Xz)) (js : List Nat) (hS : getR js S = some (S1 i)) (hI : I i) :
    HQ (CutQ N D R fun i w => Mem b (X1 i) (S1 i) w ∧ I i) N D .normal ρ b X S :=
  fun w m => qcut i hs.sub ⟨((m.perm (takeR_perm _ _ _ _ hX)).dropX).subS (getR_sub _ _ _ hS), hI⟩
end
/-! ### What changes memory -/
section
variable {P : Program} {Q : Exit → Act → World → Prop} {N : Nat} {D : List Deferred} {ρ : Env} {b : Base} {X X' X0 Xr S S' S0 : List Res} {ty t u e : TypeId} {x y : Operand} {v : Value} {K : Value → List Res → List Res → Prop}
theorem xh_of {op : Op} (h : ∀ w, Mem b X S w → XW P Q N D ρ w op ty fun v w' => ∃ X' S', Mem b X' S' w' ∧ K v X' S') : XH P Q N D ρ b X S op ty K := h
theorem xh_y {op : Op} (h : ∀ {w}, Mem b X S w → Yl P N D ρ w op ty v) (k : K v X S) : XH P Q N D ρ b X S op ty K := fun w m => x_of_y (h m) ⟨X, S, m, k⟩
theorem xh_box (hx : ev ρ x = some v) (k : ∀ g, K (.pointer (some ⟨g, 0, none⟩)) (RBlk g t v.cells.toList :: X) S) : XH P Q N D ρ b X S (.box t x) ty K := fun w m => x_box hx fun g w' hg hf hb => ⟨_, _, m.addX (r' := RBlk g t _) hf hb (fun i hi => Nat.le_trans hg (Nat.le_of_eq (Eq.symm hi))), k g⟩
theorem xh_alloc {z : Value} {sz bytes : Nat} (hT : TI P t z sz bytes) (k : ∀ g, K (.pointer (some ⟨g, 0, none⟩)) (RBlk g t z.cells.toList :: X) S) : XH P Q N D ρ b X S (.alloc t) ty K := fun w m => x_alloc hT fun g w' hg hf hb => ⟨_, _, m.addX (r' := RBlk g t _) hf hb (fun i hi => Nat.le_trans hg (Nat.le_of_eq (Eq.symm hi))), k g⟩
theorem xh_bsl {z : Value} {sz bytes n : Nat} {parts : List (Nat × Operand)} {vs : List Value} (ht : P.underlying t = some (.slice e)) (hT : TI P e z sz bytes) (hv : evs ρ (parts.map (·.2)) = some vs) (hi : parts.map (·.1) = List.range' 0 n) (hl : vs.length = n)
    (hc : ∀ v ∈ vs, v.cells.size = sz) (h0 : n * sz ≠ 0) (hsm : n * sz ≤ 16777216)
    (k : ∀ g, K (.slice (some ⟨g, 0, none⟩) n n) (ROwn e sz (.slice (some ⟨g, 0, none⟩) n n) n (vs.flatMap (·.cells.toList)) :: X) S) : XH P Q N D ρ b X S (.buildSlice t n parts.toArray) ty K := fun w m => x_bsl ht hT hv hi hl hc h0 hsm fun g w' hg hf hb => ⟨_, _, m.addX (r' := ROwn e sz (.slice (some ⟨g, 0, none⟩) n n) n (vs.flatMap (·.cells.toList))) hf (by
    have hlen : (vs.flatMap (·.cells.toList)).length = n * sz := by
      subst hl
      clear hv hi hsm h0 hb k
      induction vs with
      | nil => simp
      | cons a r ih =>
        have h1 := hc a (by simp)
        have h2 := ih (fun v hv => hc v (by simp [hv]))
        simp only [List.flatMap_cons, List.length_append, Array.length_toList, h1, h2, List.length_cons, Nat.add_mul]
        omega
    have := Own.made (base := 0) hb (Nat.zero_le _) (Nat.le_refl n) (by unfold maxLen; have : n ≤ n * sz := Nat.le_mul_of_pos_right _ (Nat.pos_of_ne_zero (fun e => h0 (by rw [e, Nat.mul_zero]))); omega) hlen
    rwa [List.take_of_length_le (by omega)] at this) (fun i hi => Nat.le_trans hg (Nat.le_of_eq (Eq.symm hi))), k g⟩
theorem xh_app {sz bytes n m : Nat} {src z : Value} {xs news : List Value} {du : TypeDesc} (i : Nat) (hi : X[i]? = some (ROwn e sz v n xs)) (hx : ev ρ x = some v) (hy : ev ρ y = some src) (ht : P.underlying t = some (.slice e)) (hu : P.underlying u = some du) (hnu : du = .slice e ∨ du = .string)
    (hT : TI P e z sz bytes) (hz : z.cells.size = sz) (hs : ∀ {w}, Mem b X S w → Src P w sz m src news) (h1 : ∀ u ∈ news, u.oneCell' = true) (hm : n + m ≤ maxLen) (hb : (n + m) * bytes ≤ 140737488355328)
    (k : ∀ v', K v' (ROwn e sz v' (n + m) (xs ++ news) :: X.eraseIdx i) S) : XH P Q N D ρ b X S (.call ⟨.builtin .append, #[x, y], #[t, u]⟩) ty K := fun w m => x_app hx hy ht hu hnu hT hz (m.own i hi) (hs m) h1 hm hb (Nat.zero_le _) fun v' w' ho hf hk => ⟨_, _, by
    have m' := m.perm (takeR_perm [i] X [ROwn e sz v n xs] (X.eraseIdx i) (by simp [takeR, hi]))
    exact m'.change hf ho hk, k v'⟩
theorem xh_st1 {g o : Nat} {bt : TypeId} {cs : List Value} (i : Nat) (hi : X[i]? = some (RBlk g bt cs)) (hx : ev ρ x = some (.pointer (some ⟨g, o, none⟩))) (hy : ev ρ y = some v) (hs : szB P t = some 1) (hv : v.oneCell' = true) (ho : o < cs.length)
    (k : K undef (RBlk g bt (cs.set o v) :: X.eraseIdx i) S) : XH P Q N D ρ b X S (.store t x y) ty K := fun w m => x_st1 hx hy hs hv (m.blk i hi) ho fun w' hf hb hsz => ⟨_, _, by
    have m' := m.perm (takeR_perm [i] X [RBlk g bt cs] (X.eraseIdx i) (by simp [takeR, hi]))
    exact m'.change hf hb (fun k hk => .inl hk), k⟩
theorem xh_st1a {g o j : Nat} {bt : TypeId} {cs : List Value} (i : Nat) (hi : X[i]? = some (RBlk g bt cs)) (hx : ev ρ x = some (.pointer (some ((⟨g, o, none⟩ : Addr).add j)))) (hy : ev ρ y = some v) (hs : szB P t = some 1) (hv : v.oneCell' = true) (ho : o + j < cs.length)
    (k : K undef (RBlk g bt (cs.set (o + j) v) :: X.eraseIdx i) S) : XH P Q N D ρ b X S (.store t x y) ty K := xh_st1 i hi (by rw [hx, addr_add]) hy hs hv ho k
theorem xh_stN {g o sz : Nat} {bt : TypeId} {cs vs : List Value} (i : Nat) (hi : X[i]? = some (RBlk g bt cs)) (hx : ev ρ x = some (.pointer (some ⟨g, o, none⟩))) (hy : ev ρ y = some (.agg vs.toArray)) (hs : szB P t = some sz) (hl : vs.length = sz) (hv : ∀ v ∈ vs, v.oneCell' = true) (ho : o + sz ≤ cs.length)
    (k : K undef (RBlk g bt (splice cs o vs) :: X.eraseIdx i) S) : XH P Q N D ρ b X S (.store t x y) ty K := fun w m => x_stN hx hy hs hl hv (m.blk i hi) ho fun w' hf hb hsz => ⟨_, _, by
    have m' := m.perm (takeR_perm [i] X [RBlk g bt cs] (X.eraseIdx i) (by simp [takeR, hi]))
    exact m'.change hf hb (fun k hk => .inl hk), k⟩
theorem xh_stNa {g o j sz : Nat} {bt : TypeId} {cs vs : List Value} (i : Nat) (hi : X[i]? = some (RBlk g bt cs)) (hx : ev ρ x = some (.pointer (some ((⟨g, o, none⟩ : Addr).add j)))) (hy : ev ρ y = some (.agg vs.toArray)) (hs : szB P t = some sz) (hl : vs.length = sz) (hv : ∀ v ∈ vs, v.oneCell' = true) (ho : o + j + sz ≤ cs.length)
    (k : K undef (RBlk g bt (splice cs (o + j) vs) :: X.eraseIdx i) S) : XH P Q N D ρ b X S (.store t x y) ty K := xh_stN i hi (by rw [hx, addr_add]) hy hs hl hv ho k
theorem xh_stA {g n : Nat} {bt : TypeId} {cs vs : List Value} (i : Nat) (hi : X[i]? = some (RBlk g bt cs)) (hx : ev ρ x = some (.pointer (some ⟨g, 0, none⟩))) (hy : ev ρ y = some (.agg vs.toArray)) (hs : szB P t = some n) (hl : vs.length = n) (h1 : ∀ u ∈ vs, u.oneCell' = true) (hcl : cs.length = n)
    (k : K undef (RBlk g bt vs :: X.eraseIdx i) S) : XH P Q N D ρ b X S (.store t x y) ty K := xh_stN i hi hx hy hs hl h1 (by omega) (by rwa [splice_all (by omega)])
theorem xh_stO {A : Option Addr} {n c sz j : Nat} {xs : List Value} (i : Nat) (hi : X[i]? = some (ROwn e sz (.slice A n c) n xs)) (hx : ev ρ x = some (.pointer (some ((A.getD d0).add j)))) (hy : ev ρ y = some v) (hs : szB P t = some 1) (hv : v.oneCell' = true) (hj : j < n * sz)
    (k : K undef (ROwn e sz (.slice A n c) n (xs.set j v) :: X.eraseIdx i) S) : XH P Q N D ρ b X S (.store t x y) ty K := fun w m => x_stO hx hy hs hv (m.own i hi) hj fun w' hf hb hsz => ⟨_, _, by
    have m' := m.perm (takeR_perm [i] X [ROwn e sz (.slice A n c) n xs] (X.eraseIdx i) (by simp [takeR, hi]))
    exact m'.change hf hb (fun k hk => .inl hk), k⟩
theorem xh_s2b {s : ByteArray} {td : TypeDesc} {t' : TypeId} (hx : ev ρ x = some (.string s)) (ht : P.underlying t = some td) (ht' : P.underlying t' = some (.slice e)) (he : P.underlying e = some (.int .u8)) (hm : (bytesOf s).length ≤ maxLen)
    (k : ∀ v, K v (ROwn e 1 v (bytesOf s).length (b8s (bytesOf s)) :: X) S) : XH P Q N D ρ b X S (.convert t t' x) ty K := fun w m => x_s2b hx ht ht' he hm fun v w' hf ho => ⟨_, _, m.addX (r' := ROwn e 1 v (bytesOf s).length (b8s (bytesOf s))) hf ho.base0 (fun k hk => (ho.from hk).1), k v⟩
/-- a contract: X0: what the callee may change; S0: what it reads -/
def Con (P : Program) (f : Nat) (args : List Value) (X0 S0 : List Res) (R : Value → List Res → List Res → Prop) : Prop :=
  ∀ w, Mem ⟨w, feet X0, feet S0⟩ X0 S0 w → Calls P f args.toArray w fun e w' => ∃ v X' S', e = .returned v ∧ R v X' S' ∧ Mem ⟨w, feet X0, feet S0⟩ X' S' w'
def RB (b : Base) (R : Value → List Res → List Res → Prop) : Ending → World → Prop := fun e w' => ∃ v X' S', e = .returned v ∧ R v X' S' ∧ Mem b X' S' w'
theorem xh_call {f : Nat} {l : List Operand} {vs : List Value} {tys : Array TypeId} {R : Value → List Res → List Res → Prop} (hv : evs ρ l = some vs) (hf : ∀ args w, (callFunc f args).run P w = .ok (.enter f args) w)
    (hc : Con P f vs X0 S0 R) (is : List Nat) (hX : takeR is X = some (X0, Xr)) (js : List Nat) (hS : getR js S = some S0) (k : ∀ v X' S', R v X' S' → K v (X' ++ Xr) (S' ++ S)) : XH P Q N D ρ b X S (.call ⟨.value (.func f), l.toArray, tys⟩) ty K := fun w m => by
  have m1 := m.perm (takeR_perm _ _ _ _ hX)
  refine x_call hv hf (hc w (m1.part (getR_sub _ _ _ hS))) ?_
  rintro e w' ⟨v, X', S', rfl, hR, m'⟩
  exact ⟨v, rfl, _, _, m1.frame (getR_sub _ _ _ hS) m', k v X' S' hR⟩
theorem xh_callv {f : Nat} {l : List Operand} {vs first cap : List Value} {tys : Array TypeId} {R : Value → List Res → List Res → Prop} (hx : ev ρ x = some (.func (.func f) first.toArray cap.toArray)) (hv : evs ρ l = some vs) (hf : ∀ args w, (callFunc f args).run P w = .ok (.enter f args) w)
    (hc : Con P f (first ++ vs ++ cap) X0 S0 R) (is : List Nat) (hX : takeR is X = some (X0, Xr)) (js : List Nat) (hS : getR js S = some S0) (k : ∀ v X' S', R v X' S' → K v (X' ++ Xr) (S' ++ S)) : XH P Q N D ρ b X S (.call ⟨.value x, l.toArray, tys⟩) ty K := fun w m => by
  have m1 := m.perm (takeR_perm _ _ _ _ hX)
  refine x_callv hx hv hf (hc w (m1.part (getR_sub _ _ _ hS))) ?_
  rintro e w' ⟨v, X', S', rfl, hR, m'⟩
  exact ⟨v, rfl, _, _, m1.frame (getR_sub _ _ _ hS) m', k v X' S' hR⟩
end
/-- what is one's own, lent to be read -/
inductive View : Res → Res → Prop
  | own {e : TypeId} {sz n c : Nat} {A : Option Addr} {xs : List Value} : View (ROwn e sz (.slice A n c) n xs) (RRd sz A n xs)
  | blk {g sz n : Nat} {t : TypeId} {cs : List Value} (h : cs.length = n * sz) : View (RBlk g t cs) (RRd sz (some ⟨g, 0, none⟩) n cs)
  | same {r : Res} : View r r
  | of {r r' : Res} (h : ∀ w, r.holds w → r'.holds w) (hk : ∀ k, r'.foot k → r.foot k) : View r r'
theorem View.ok {r r' : Res} (h : View r r') : (∀ w, r.holds w → r'.holds w) ∧ ∀ k, r'.foot k → r.foot k := by
  cases h with
  | own =>
    refine ⟨fun w h => (Own.rd h).2.2, fun k hk => ?_⟩
    obtain ⟨_, a, rfl, rfl⟩ := hk
    rfl
  | blk hl => exact ⟨fun w h => Rd.of_blk h hl, fun k hk => by obtain ⟨_, a, ha, rfl⟩ := hk; cases ha; rfl⟩
  | same => exact ⟨fun _ h => h, fun _ h => h⟩
  | of h hk => exact ⟨h, hk⟩
inductive Lend (X S : List Res) : List Res → Prop
  | nil : Lend X S []
  | s {r : Res} {rest : List Res} (j : Nat) (h : S[j]? = some r) (t : Lend X S rest) : Lend X S (r :: rest)
  | x {r r' : Res} {rest : List Res} (i : Nat) (h : X[i]? = some r') (hv : View r' r) (t : Lend X S rest) : Lend X S (r :: rest)
theorem Lend.ok {X S S0 : List Res} (h : Lend X S S0) : ∀ s ∈ S0, s ∈ S ∨ ∃ x ∈ X, View x s := by
  induction h with
  | nil => simp
  | s j h t ih =>
    intro s hs
    rcases List.mem_cons.1 hs with rfl | hs
    · exact .inl (List.mem_of_getElem? h)
    · exact ih s hs
  | x i h hv t ih =>
    intro s hs
    rcases List.mem_cons.1 hs with rfl | hs
    · exact .inr ⟨_, List.mem_of_getElem? h, hv⟩
    · exact ih s hs
theorem Mem.lent {b : Base} {X0 Xr S S0 : List Res} {w : World} (m : Mem b (X0 ++ Xr) S w) (hl : Lend Xr S S0) : Mem ⟨w, feet X0, feet S0⟩ X0 S0 w := by
  obtain ⟨h0, hr, h0r⟩ := List.pairwise_append.1 m.xx
  refine .start h0 (fun x hx s hs k hk hk' => ?_) (fun x hx => m.hx x (List.mem_append_left _ hx)) (fun s hs => ?_)
  · rcases hl.ok s hs with h | ⟨y, hy, hv⟩
    · exact m.xs x (List.mem_append_left _ hx) s h k hk hk'
    · exact h0r x hx y hy k hk (hv.ok.2 k hk')
  · rcases hl.ok s hs with h | ⟨y, hy, hv⟩
    · exact m.hs s h
    · exact hv.ok.1 _ (m.hx y (List.mem_append_right _ hy))
section
variable {P : Program} {Q : Exit → Act → World → Prop} {N : Nat} {D : List Deferred} {ρ : Env} {b : Base} {X X' X0 Xr S S' S0 : List Res} {ty t u e : TypeId} {x y : Operand} {v : Value} {K : Value → List Res → List Res → Prop}
theorem xh_calll {f : Nat} {l : List Operand} {vs : List Value} {tys : Array TypeId} {R : Value → List Res → List Res → Prop} (hv : evs ρ l = some vs) (hf : ∀ args w, (callFunc f args).run P w = .ok (.enter f args) w)
    (hc : Con P f vs X0 S0 R) (is : List Nat) (hX : takeR is X = some (X0, Xr)) (hl : Lend Xr S S0) (k : ∀ v X' S', R v X' S' → S' = [] ∧ K v (X' ++ Xr) S) : XH P Q N D ρ b X S (.call ⟨.value (.func f), l.toArray, tys⟩) ty K := fun w m => by
  have m1 := m.perm (takeR_perm _ _ _ _ hX)
  refine x_call hv hf (hc w (m1.lent hl)) ?_
  rintro e w' ⟨v, X', S', rfl, hR, m'⟩
  obtain ⟨rfl, hk⟩ := k v X' S' hR
  have m2 : Mem ⟨w, feet X0, feet []⟩ X' [] w' := ⟨m'.fr, m'.xx, by simp, m'.hx, by simp, m'.nx, by simp⟩
  exact ⟨v, rfl, _, _, Mem.frame (S0 := []) m1 (by simp) m2, hk⟩
theorem xh_callvl {f : Nat} {l : List Operand} {vs first cap : List Value} {tys : Array TypeId} {R : Value → List Res → List Res → Prop} (hx : ev ρ x = some (.func (.func f) first.toArray cap.toArray)) (hv : evs ρ l = some vs) (hf : ∀ args w, (callFunc f args).run P w = .ok (.enter f args) w)
    (hc : Con P f (first ++ vs ++ cap) X0 S0 R) (is : List Nat) (hX : takeR is X = some (X0, Xr)) (hl : Lend Xr S S0) (k : ∀ v X' S', R v X' S' → S' = [] ∧ K v (X' ++ Xr) S) : XH P Q N D ρ b X S (.call ⟨.value x, l.toArray, tys⟩) ty K := fun w m => by
  have m1 := m.perm (takeR_perm _ _ _ _ hX)
  refine x_callv hx hv hf (hc w (m1.lent hl)) ?_
  rintro e w' ⟨v, X', S', rfl, hR, m'⟩
  obtain ⟨rfl, hk⟩ := k v X' S' hR
  have m2 : Mem ⟨w, feet X0, feet []⟩ X' [] w' := ⟨m'.fr, m'.xx, by simp, m'.hx, by simp, m'.nx, by simp⟩
  exact ⟨v, rfl, _, _, Mem.frame (S0 := []) m1 (by simp) m2, hk⟩
end
/-! ### In and out -/
theorem henter {P : Program} {f : Nat} {fn : Func} {c : Code} {vs : List Value} {R : Value → List Res → List Res → Prop} {N : Nat} {X0 S0 : List Res} (hf : P.funcs[f]? = some fn) (hb : fn.body = some c) (hN : fn.ntmps = N) (hl : vs.length ≤ N)
    (h : ∀ b, HC P (bodyPost P fn (RB b R)) N [] c (argsEnv vs 0) b X0 S0) : Con P f vs X0 S0 R := fun w m => enter hf hb hN hl (h _ w m)
theorem henter0 {P : Program} {f : Nat} {fn : Func} {c : Code} {vs : List Value} {R : Value → List Res → List Res → Prop} {N : Nat} {S0 : List Res} (hf : P.funcs[f]? = some fn) (hb : fn.body = some c) (hN : fn.ntmps = N) (hl : vs.length ≤ N)
    (h : ∀ b, (∀ k, ¬ b.M k) → HC P (bodyPost P fn (RB b R)) N [] c (argsEnv vs 0) b [] S0) : Con P f vs [] S0 R := fun w m => enter hf hb hN hl (h _ (fun k hk => by obtain ⟨r, hr, _⟩ := hk; simp at hr) w m)
section
variable {P : Program} {fn : Func} {R : Value → List Res → List Res → Prop} {N : Nat} {ρ : Env} {b : Base} {X X' Xz S S' : List Res} {e : Exit}
theorem Mem.out {w : World} (m : Mem b X S w) (is : List Nat) (hX : takeR is X = some (X', Xz)) (js : List Nat) (hS : getR js S = some S') : Mem b X' S' w := ((m.perm (takeR_perm _ _ _ _ hX)).dropX).subS (getR_sub _ _ _ hS)
theorem hret0 (he : Leaves e) (hr : fn.results = #[]) (is : List Nat) (hX : takeR is X = some (X', Xz)) (js : List Nat) (hS : getR js S = some S') (hR : R (.tuple #[]) X' S') : HQ (bodyPost P fn (RB b R)) N [] e ρ b X S :=
  fun w m => ret0 he hr ⟨_, _, _, rfl, hR, m.out is hX js hS⟩
theorem hret1 {t : Nat} {v : Value} (he : Leaves e) (hr : fn.results = #[.tmp t]) (hv : get ρ t = some v) (is : List Nat) (hX : takeR is X = some (X', Xz)) (js : List Nat) (hS : getR js S = some S') (hR : R v X' S') : HQ (bodyPost P fn (RB b R)) N [] e ρ b X S :=
  fun w m => ret1 he hr hv ⟨_, _, _, rfl, hR, m.out is hX js hS⟩
theorem hret2 {t t' : Nat} {v v' : Value} (he : Leaves e) (hr : fn.results = #[.tmp t, .tmp t']) (hv : get ρ t = some v) (hv' : get ρ t' = some v') (is : List Nat) (hX : takeR is X = some (X', Xz)) (js : List Nat) (hS : getR js S = some S') (hR : R (.tuple #[v, v']) X' S') : HQ (bodyPost P fn (RB b R)) N [] e ρ b X S :=
  fun w m => ret2 he hr hv hv' ⟨_, _, _, rfl, hR, m.out is hX js hS⟩
theorem hretN {t sz : Nat} {ty : TypeId} {p : Addr} {cs : List Value} (he : Leaves e) (hr : fn.results = #[.cell t ty]) (hv : get ρ t = some (.pointer (some p))) (ha : aggB P ty = some true) (hs : szB P ty = some sz) (hl : cs.length = sz)
    (hc : ∀ {w}, Mem b X S w → ∀ j u, cs[j]? = some u → w.cell? (p.add j) = some u) (is : List Nat) (hX : takeR is X = some (X', Xz)) (js : List Nat) (hS : getR js S = some S') (hR : R (.agg cs.toArray) X' S') : HQ (bodyPost P fn (RB b R)) N [] e ρ b X S :=
  fun w m => retN he hr hv ha hs hl (hc m) ⟨_, _, _, rfl, hR, m.out is hX js hS⟩
theorem hretN1 {t t' sz : Nat} {ty : TypeId} {p : Addr} {cs : List Value} {v' : Value} (he : Leaves e) (hr : fn.results = #[.cell t ty, .tmp t']) (hv : get ρ t = some (.pointer (some p))) (hv' : get ρ t' = some v') (ha : aggB P ty = some true) (hs : szB P ty = some sz) (hl : cs.length = sz)
    (hc : ∀ {w}, Mem b X S w → ∀ j u, cs[j]? = some u → w.cell? (p.add j) = some u) (is : List Nat) (hX : takeR is X = some (X', Xz)) (js : List Nat) (hS : getR js S = some S') (hR : R (.tuple #[.agg cs.toArray, v']) X' S') : HQ (bodyPost P fn (RB b R)) N [] e ρ b X S :=
  fun w m => retN1 he hr hv hv' ha hs hl (hc m) ⟨_, _, _, rfl, hR, m.out is hX js hS⟩
end
/-- an old contract, one thing of the callee's own -/
theorem con_own {P : Program} {f : Nat} {vs : List Value} {S0 : List Res} {R : Value → List Res → List Res → Prop} (h : ∀ {w b}, Mem b [] S0 w → Calls P f vs.toArray w fun e w' => ∃ v e_ sz n xs, e = .returned v ∧ (∃ u, R v [ROwn e_ sz u n xs] [] ∧ Own w' w.heap.size e_ sz u n xs) ∧ Fr No w w') : Con P f vs [] S0 R := fun w m => by
  refine Calls.mono (h m) ?_
  rintro e w' ⟨v, e_, sz, n, xs, rfl, ⟨u, hR, ho⟩, hf⟩
  exact ⟨v, [ROwn e_ sz u n xs], [], rfl, hR, (((m.lift hf).subS (S' := []) (by simp)).fr.size |> fun _ => by
    have m0 : Mem ⟨w, feet [], feet S0⟩ [] [] w := m.subS (by simp)
    exact m0.addX (r' := ROwn e_ sz u n xs) hf ho.base0 (fun k hk => (ho.from hk).1))⟩
theorem con_pure {P : Program} {f : Nat} {vs : List Value} {S0 : List Res} {R : Value → List Res → List Res → Prop} (h : ∀ {w b}, Mem b [] S0 w → Calls P f vs.toArray w fun e w' => ∃ v, e = .returned v ∧ R v [] [] ∧ Fr No w w') : Con P f vs [] S0 R := fun w m => by
  refine Calls.mono (h m) ?_
  rintro e w' ⟨v, rfl, hR, hf⟩
  exact ⟨v, [], [], rfl, hR, (m.subS (by simp)).lift hf⟩
end Go.Eng
