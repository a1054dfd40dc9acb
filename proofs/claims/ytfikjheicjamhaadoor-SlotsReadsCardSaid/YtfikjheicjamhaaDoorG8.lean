import Derived.Test.YtfikjheicjamhaaDoorG2
import Derived.Test.YtfikjheicjamhaaDoorG3
import Derived.Test.YtfikjheicjamhaaDoorG4
import Derived.Test.YtfikjheicjamhaaDoorG7
import Derived.Test.YtfikjheicjamhaaDoorG5
section
/- The engine: arrays of structs as values, == of structs. No statement is proved here. -/
set_option linter.unusedVariables false
set_option linter.unusedSimpArgs false
set_option linter.unusedSectionVars false
namespace Go.Eng
open Go.RowKit
section
variable {P : Program} {N : Nat} {D : List Deferred} {ρ : Env} {w : World} {x y : Operand} {ty t t' e : TypeId} {v : Value} {k : IntKind} {i : Int}
theorem y_idxVN {cs : List Value} {n j sz : Nat} (hx : ev ρ x = some (.agg cs.toArray)) (hy : ev ρ y = some (.int k i)) (ht : P.underlying t = some (.array n e)) (hs : szB P e = some sz) (ha : aggB P e = some true) (hj : ((j : Nat) : Int) = i) (h1 : j < n) :
    Yl P N D ρ w (.index t x y) ty (.agg ((cs.drop (j * sz)).take sz).toArray) := fun a _ _ _ _ hA => by
  subst hj
  have h0 : (0 : Int) ≤ (j : Int) := by omega
  simp [execOp, hA.eval hx, hA.eval hy, Instr.index, asIntOf, run_underlying ht, h0, h1, part, run_isAgg ha, run_sizeOf hs]
end
section
variable {P : Program} {t : TypeId} {d : Nat}
theorem kl_bool {b : Bool} (ht : P.underlying t = some .bool) : P.keyLits (d + 1) t [.bool b] = some [.bool b] := by
  unfold Program.keyLits
  rw [ht]
theorem kl_i64 {z : Int} (ht : P.underlying t = some (.int .i64)) (h1 : -9223372036854775808 ≤ z) (h2 : z ≤ 9223372036854775807) : P.keyLits (d + 1) t [.int .i64 z] = some [.int .i64 z] := by
  unfold Program.keyLits
  rw [ht]
  have hw : (Lit.int .i64 z).wf = true := by
    simp [Lit.wf, IntKind.min, IntKind.max, IntKind.signed, IntKind.bits]
    omega
  simp [hw]
theorem kl_struct {fs : Array Field} {cs : List Value} {ls : List (List Lit)} (ht : P.underlying t = some (.struct fs)) (hl : cs.length = P.cellsOf t) (hn : fs.all (·.name != "_") = true)
    (hm : (fs.toList.mapM fun f => P.keyLits d f.type ((cs.drop f.offset).take (P.cellsOf f.type))) = some ls) : P.keyLits (d + 1) t cs = some ls.flatten := by
  rw [Program.keyLits.eq_def]
  simp only [ht]
  rw [if_pos ⟨hl, hn⟩, hm]
  rfl
theorem kl_array {n : Nat} {e : TypeId} {cs : List Value} {ls : List (List Lit)} (ht : P.underlying t = some (.array n e)) (hl : cs.length = P.cellsOf t)
    (hm : ((List.range n).mapM fun i => P.keyLits d e ((cs.drop (i * P.cellsOf e)).take (P.cellsOf e))) = some ls) : P.keyLits (d + 1) t cs = some ls.flatten := by
  rw [Program.keyLits.eq_def]
  simp only [ht]
  rw [if_pos hl, hm]
  rfl
theorem mapM_some {α β : Type} {f : α → Option β} : ∀ {l : List α} {g : List β}, l.map f = g.map some → l.mapM f = some g
  | [], [], _ => rfl
  | [], _ :: _, h => by simp at h
  | _ :: _, [], h => by simp at h
  | a :: r, b :: s, h => by
    simp only [List.map_cons, List.cons.injEq] at h
    rw [List.mapM_cons, h.1, mapM_some h.2]
    rfl
end
theorem rd_of_cells {w : World} {p : Addr} {n : Nat} {xs : List Value} (hl : xs.length = n) (h : ∀ j u, xs[j]? = some u → w.cell? (p.add j) = some u) : Rd w 1 (some p) n xs :=
  ⟨by omega, fun _ e => (by cases e), fun j u hu => h j u hu⟩
end Go.Eng
end
section
/- Contracts: superblocks that may be (layer 22), of the program and of the document. -/
set_option linter.unusedVariables false
set_option linter.unusedSimpArgs false
set_option maxRecDepth 20000
namespace Go.Proofs.YtfikjheicjamhaaDoor
open Go.Eng Go.Hx
theorem cs_d0 {x : Sl} : (x.cs.drop 0).take 1 = [.bool x.full] := rfl
theorem cs_d1 {x : Sl} (h : x.wf) : (x.cs.drop 1).take 32 = b8s x.image := by
  have : (b8s x.image).length = 32 := by rw [b8s_length, h.len]
  rw [Sl.cs, List.drop_one, List.tail_cons, List.take_append_of_le_length (by omega), List.take_of_length_le (by omega)]
theorem cs_d2 {x : Sl} (h : x.wf) : (x.cs.drop 33).take 1 = [.int .i64 x.size] := by
  have : (b8s x.image).length = 32 := by rw [b8s_length, h.len]
  rw [Sl.cs, List.drop_succ_cons, List.drop_append, List.drop_of_length_le (by omega), this]
  rfl
theorem kl_slot {t : TypeId} {x : Sl} (h : x.wf) (ht : Tryd.prog.underlying t = Tryd.prog.underlying 36) (hc : Tryd.prog.cellsOf t = 34) : Tryd.prog.keyLits 3 t x.cs = some x.lits := by
  have e : x.lits = [[Lit.bool x.full], x.image.map (fun b => Lit.int .u8 (b.toNat : Int)), [Lit.int .i64 x.size]].flatten := by simp [Sl.lits]
  rw [e]
  refine kl_struct (d := 2) (ht.trans Tryd.underlying36) (by rw [Sl.cs_len h, hc]) (by kernel_rfl) (mapM_some ?_)
  have c0 : Tryd.prog.cellsOf 4 = 1 := by kernel_rfl
  have c1 : Tryd.prog.cellsOf 23 = 32 := by kernel_rfl
  have c2 : Tryd.prog.cellsOf 3 = 1 := by kernel_rfl
  simp only [List.map_cons, List.map_nil, c0, c1, c2]
  rw [cs_d0, cs_d1 h, cs_d2 h, kl_bool (d := 1) Tryd.underlying4, kl_i64 (d := 1) Tryd.underlying3 h.lo h.hi, klD23 h.len]
theorem y_eqT {N : Nat} {D : List Deferred} {ρ : Env} {w : World} {ty t' : TypeId} {x y : Operand} {a c : Sl} (hx : ev ρ x = some (.agg a.cs.toArray)) (hy : ev ρ y = some (.agg c.cs.toArray)) (ha : a.wf) (hc : c.wf) :
    Yl Tryd.prog N D ρ w (.binOp .eql 25 x y t') ty (.bool (decide (a = c))) :=
  y_eqK (m := 5) hx hy (by decide) (by kernel_rfl) (by kernel_rfl) ag25 (by rw [Sl.cs_len ha]; kernel_rfl) (by rw [Sl.cs_len hc]; kernel_rfl) (kl_slot ha (by kernel_rfl) (by kernel_rfl)) (kl_slot hc (by kernel_rfl) (by kernel_rfl)) (Sl.lits_inj ha hc)
theorem two_at {a c : Sl} (ha : a.wf) (hc : c.wf) {j : Nat} (hj : j < 2) : ((a.cs ++ c.cs).drop (j * 34)).take 34 = (if j = 0 then a else c).cs := by
  have h1 := Sl.cs_len ha
  have h2 := Sl.cs_len hc
  match j, hj with
  | 0, _ => rw [Nat.zero_mul, List.drop_zero, List.take_append_of_le_length (by omega), List.take_of_length_le (by omega)]; rfl
  | 1, _ => rw [Nat.one_mul, List.drop_append, List.drop_of_length_le (by omega), h1, List.nil_append, Nat.sub_self, List.drop_zero, List.take_of_length_le (by omega)]; rfl
theorem kl_two {a c : Sl} (ha : a.wf) (hc : c.wf) : Tryd.prog.keyLits 4 37 (a.cs ++ c.cs) = some (a.lits ++ c.lits) := by
  have e : a.lits ++ c.lits = [a.lits, c.lits].flatten := by simp
  rw [e]
  refine kl_array (d := 3) Tryd.underlying37 (by rw [List.length_append, Sl.cs_len ha, Sl.cs_len hc]; kernel_rfl) (mapM_some ?_)
  have c0 : Tryd.prog.cellsOf 36 = 34 := by kernel_rfl
  simp only [show List.range 2 = [0, 1] from rfl, List.map_cons, List.map_nil, c0]
  rw [two_at ha hc (j := 0) (by decide), two_at ha hc (j := 1) (by decide)]
  rw [if_pos rfl, if_neg (by decide), kl_slot ha rfl c0, kl_slot hc rfl c0]
theorem two_inj {a c a' c' : Sl} (ha : a.wf) (hc : c.wf) (ha' : a'.wf) (hc' : c'.wf) : a.lits ++ c.lits = a'.lits ++ c'.lits ↔ a = a' ∧ c = c' := by
  have hl : ∀ {x : Sl}, x.wf → x.lits.length = 34 := fun h => by simp [Sl.lits, h.len]
  constructor
  · intro h
    obtain ⟨h1, h2⟩ := List.append_inj h (by rw [hl ha, hl ha'])
    exact ⟨(Sl.lits_inj ha ha').1 h1, (Sl.lits_inj hc hc').1 h2⟩
  · rintro ⟨rfl, rfl⟩; rfl
theorem y_eqTwo {N : Nat} {D : List Deferred} {ρ : Env} {w : World} {ty t' : TypeId} {x y : Operand} {a c a' c' : Sl} (hx : ev ρ x = some (.agg (a.cs ++ c.cs).toArray)) (hy : ev ρ y = some (.agg (a'.cs ++ c'.cs).toArray)) (ha : a.wf) (hc : c.wf) (ha' : a'.wf) (hc' : c'.wf) :
    Yl Tryd.prog N D ρ w (.binOp .eql 37 x y t') ty (.bool (decide (a = a' ∧ c = c'))) :=
  y_eqK (m := 5) hx hy (by decide) (by kernel_rfl) (by kernel_rfl) ag37 (by rw [List.length_append, Sl.cs_len ha, Sl.cs_len hc]; kernel_rfl) (by rw [List.length_append, Sl.cs_len ha', Sl.cs_len hc']; kernel_rfl) (kl_two ha hc) (kl_two ha' hc') (two_inj ha hc ha' hc')
theorem sl0 {x : Sl} : x.cs[0]? = some (.bool x.full) := rfl
theorem sl33 {x : Sl} (h : x.wf) : x.cs[33]? = some (.int .i64 x.size) := by
  have : (b8s x.image).length = 32 := by rw [b8s_length, h.len]
  rw [Sl.cs, List.getElem?_cons_succ, List.getElem?_append_right (by omega), this]; rfl
theorem sl_im {x : Sl} {j : Nat} {u : Value} (hu : (b8s x.image)[j]? = some u) : x.cs[1 + j]? = some u := by
  rw [Nat.add_comm, Sl.cs, List.getElem?_cons_succ, List.getElem?_append_left ((List.getElem?_eq_some_iff.1 hu).1)]
  exact hu
theorem sup0 {s : Sup} : s.cs[0]? = some (.int .i64 s.active) := rfl
theorem sup1 {s : Sup} : s.cs[1]? = some (.int .i64 s.gen) := rfl
theorem sup_s0 {s : Sup} {j : Nat} {u : Value} (hu : s.s0.cs[j]? = some u) : s.cs[2 + j]? = some u := by
  rw [Nat.add_comm, Sup.cs, List.getElem?_cons_succ, List.getElem?_cons_succ, List.getElem?_append_left ((List.getElem?_eq_some_iff.1 hu).1)]
  exact hu
theorem sup_s1 {s : Sup} (h : s.wf) {j : Nat} {u : Value} (hu : s.s1.cs[j]? = some u) : s.cs[36 + j]? = some u := by
  have := Sl.cs_len h.w0
  rw [show 36 + j = (34 + j) + 1 + 1 by omega, Sup.cs, List.getElem?_cons_succ, List.getElem?_cons_succ, List.getElem?_append_right (by omega), this, Nat.add_sub_cancel_left]
  exact hu
theorem sup_two {s : Sup} {j : Nat} {u : Value} (hu : (s.s0.cs ++ s.s1.cs)[j]? = some u) : s.cs[2 + j]? = some u := by
  rw [Nat.add_comm, Sup.cs, List.getElem?_cons_succ, List.getElem?_cons_succ]
  exact hu
def rslMay (x : Sl) : Prop := (x.full = false ∧ x = Sl.zero) ∨ (x.full = true ∧ 0 ≤ x.size ∧ x.size ≤ 65536)
instance (x : Sl) : Decidable (rslMay x) := by unfold rslMay; infer_instance
theorem rslMay_iff {x : Sl} : rslMay x ↔ x.may := by
  unfold rslMay Sl.may
  constructor
  · rintro (⟨h1, h2⟩ | ⟨h1, h2, h3⟩)
    · rw [h2]; exact ⟨by decide, by decide, fun _ => rfl⟩
    · exact ⟨h2, h3, fun h => by rw [h1] at h; cases h⟩
  · rintro ⟨h1, h2, h3⟩
    cases hf : x.full
    · exact .inl ⟨rfl, h3 hf⟩
    · exact .inr ⟨rfl, h1, h2⟩
theorem rslotC {x : Sl} (h : x.wf) : Con Tryd.prog 60 [.agg x.cs.toArray] [] [] (fun v_ X_ S_ => v_ = (.bool (decide x.may)) ∧ X_ = [] ∧ S_ = []) := by
  refine henter (N := 17) Tryd.func60 rfl rfl (by simp) fun b => ?_
  refine hseq <| hreg <| ?_
  refine hx (xh_box rfl (fun g1 => ?_))
  refine hmemL (fun w m => m.eqX 0 rfl (show _ = RBlk g1 25 x.cs from congrArg (RBlk _ _) (cells_agg _))) ?_
  refine hy (fun _ => y_assign rfl) <| hend <| hmemQ (X' := [_]) (S' := []) (fun _ m => m) <| hthen <| hseq <| hseq <| hreg <| hy (fun _ => y_fld rfl fa25_0 (by decide)) <| hy (fun m => y_ld1 rfl ag4 ((m.blk 0 rfl).cells0 0 _ sl0)) <| hy (fun _ => (y_not rfl)) <| hend <| hsub (ρ' := [(5, _), (2, _), (1, _), (0, _)]) ⟨rfl, rfl, rfl, rfl, trivial⟩ <| hthen <| ?_
  refine hifb rfl (fun hf => ?_) (fun hf => ?_)
  · have hf' : x.full = false := by simpa using hf
    have hm : decide x.may = decide (x = Sl.zero) := by
      rw [decide_eq_decide, ← rslMay_iff, rslMay]
      simp [hf']
    rw [hm]
    refine hseq <| hreg <| hy (fun m => yV (y_ldN rfl ag25 sz25 (Sl.cs_len h) ((m.blk 0 rfl).cells0)) ((rfl : _ = Value.agg x.cs.toArray))) <| hy (fun _ => yV (y_build0 ti25 rfl (by kernel_rfl)) ((rfl : _ = Value.agg Sl.zero.cs.toArray))) <| ?_
    refine hy (fun m => y_eqT rfl rfl h Sl.zero_wf) ?_
    refine hy (fun _ => y_assign rfl) <| hend <| hsub (ρ' := [(2, _), (5, _), (1, _), (0, _)]) ⟨rfl, rfl, rfl, rfl, trivial⟩ <| hthen <| hret <| hthen_ret <| ?_
    exact hret1 trivial rfl rfl [] rfl [] rfl ⟨rfl, rfl, rfl⟩
  · have hf' : x.full = true := by simpa using hf
    have hm : decide x.may = decide (0 ≤ x.size ∧ x.size ≤ 65536) := by
      rw [decide_eq_decide, ← rslMay_iff, rslMay]
      simp [hf']
    rw [hm]
    have h1 := h.lo
    have h2 := h.hi
    by_cases hs : 0 ≤ x.size
    · refine hcskip <| hthen <| hseq <| hreg <| hy (fun _ => y_fld rfl fa25_2 (by decide)) <| hy (fun m => y_ld1 rfl ag3 ((m.blk 0 rfl).cells0 33 _ (sl33 h))) <| hy (fun _ => yT (y_geq rfl rfl) ((decide_eq_true hs))) <| hy (fun _ => y_move rfl) <| hyg (o := _) rfl rfl rfl (fun _ => y_fld rfl fa25_2 (by decide)) <| hyg (o := _) rfl rfl rfl (fun m => y_ld1 rfl ag3 ((m.blk 0 rfl).cells0 33 _ (sl33 h))) <| hyg (o := _) rfl rfl rfl (fun _ => y_leq rfl rfl) <| hy (fun _ => y_pickT rfl rfl) <| hy (fun _ => y_assign rfl) <| hend <| hsub (ρ' := [(2, _), (5, _), (1, _), (0, _)]) ⟨rfl, rfl, rfl, rfl, trivial⟩ <| hthen <| hret <| ?_
      exact hret1 trivial rfl rfl [] rfl [] rfl ⟨(by rw [show (decide (0 ≤ x.size ∧ x.size ≤ 65536)) = decide (x.size ≤ 65536) by simp [hs]]), rfl, rfl⟩
    · refine hcskip <| hthen <| hseq <| hreg <| hy (fun _ => y_fld rfl fa25_2 (by decide)) <| hy (fun m => y_ld1 rfl ag3 ((m.blk 0 rfl).cells0 33 _ (sl33 h))) <| hy (fun _ => yF (y_geq rfl rfl) ((decide_eq_false hs))) <| hy (fun _ => y_move rfl) <| hskip rfl rfl rfl (by decide) <| hskip rfl rfl rfl (by decide) <| hskip rfl rfl rfl (by decide) <| hy (fun _ => y_pickF rfl rfl) <| hy (fun _ => y_assign rfl) <| hend <| hsub (ρ' := [(2, _), (5, _), (1, _), (0, _)]) ⟨rfl, rfl, rfl, rfl, trivial⟩ <| hthen <| hret <| ?_
      exact hret1 trivial rfl rfl [] rfl [] rfl ⟨(by rw [show (decide (0 ≤ x.size ∧ x.size ≤ 65536)) = false by simp [hs]]), rfl, rfl⟩
theorem b_and {p q : Prop} [Decidable p] [Decidable q] : (decide p && decide q) = decide (p ∧ q) := by by_cases h : p <;> by_cases k : q <;> simp [h, k]
theorem supMay_iff {s : Sup} : s.may ↔ s.s0.may ∧ s.s1.may ∧ 0 ≤ s.active ∧ s.active < 2 ∧ 0 ≤ s.gen ∧ s.gen ≤ 2147483647 := by
  unfold Sup.may
  constructor
  · rintro ⟨h1, h2, h3, h4, h5⟩; exact ⟨h4, h5, by omega, by omega, h2, h3⟩
  · rintro ⟨h1, h2, h3, h4, h5, h6⟩; exact ⟨by omega, h5, h6, h1, h2⟩
theorem rmaySC {s : Sup} (h : s.wf) : Con Tryd.prog 15 [.agg s.cs.toArray] [] [] (fun v_ X_ S_ => v_ = (.bool (decide s.may)) ∧ X_ = [] ∧ S_ = []) := by
  have hiff := supMay_iff (s := s)
  refine henter (N := 35) Tryd.func15 rfl rfl (by simp) fun b => ?_
  refine hseq <| hreg <| ?_
  refine hx (xh_box rfl (fun g1 => ?_))
  refine hmemL (fun w m => m.eqX 0 rfl (show _ = RBlk g1 27 s.cs from congrArg (RBlk _ _) (cells_agg _))) ?_
  refine hy (fun _ => y_assign rfl) <| hend <| hmemQ (X' := [_]) (S' := []) (fun _ m => m) <| hthen <| hseq <| hreg <| hy (fun _ => y_fld rfl fa27_2 (by decide)) <| hy (fun m => yV (y_ldN rfl ag25 sz25 (Sl.cs_len h.w0) (fun j u hu => by rw [add_add]; exact (m.blk 0 rfl).cells0 (2 + j) u (sup_s0 hu))) ((rfl : _ = Value.agg s.s0.cs.toArray))) <| ?_
  refine hx (xh_call rfl Tryd.call60 (rslotC h.w0) [] rfl [] rfl ?_)
  rintro _ _ _ ⟨rfl, rfl, rfl⟩
  refine hy (fun _ => y_assign rfl) <| hend <| hsub (ρ' := [(3, _), (2, _), (1, _), (0, _)]) ⟨rfl, rfl, rfl, rfl, trivial⟩ <| hmemQ (X' := [_]) (S' := []) (fun _ m => m) <| hthen <| hseq <| hreg <| hy (fun _ => y_fld rfl fa27_3 (by decide)) <| hy (fun m => yV (y_ldN rfl ag25 sz25 (Sl.cs_len h.w1) (fun j u hu => by rw [add_add]; exact (m.blk 0 rfl).cells0 (36 + j) u (sup_s1 h hu))) ((rfl : _ = Value.agg s.s1.cs.toArray))) <| ?_
  refine hx (xh_call rfl Tryd.call60 (rslotC h.w1) [] rfl [] rfl ?_)
  rintro _ _ _ ⟨rfl, rfl, rfl⟩
  refine hy (fun _ => y_assign rfl) <| hend <| hsub (ρ' := [(4, _), (3, _), (2, _), (1, _), (0, _)]) ⟨rfl, rfl, rfl, rfl, rfl, trivial⟩ <| hmemQ (X' := [_]) (S' := []) (fun _ m => m) <| hthen <| hseq <| hreg <| ?_
  by_cases h1 : s.s0.may
  · rw [decide_eq_true h1]
    by_cases h2 : s.s1.may
    · rw [decide_eq_true h2]
      by_cases h3 : 0 ≤ s.active
      · by_cases h4 : s.active < 2
        · by_cases h5 : 0 ≤ s.gen
          · have hfin : decide s.may = decide (s.gen ≤ 2147483647) := by rw [decide_eq_decide, hiff]; simp [h1, h2, h3, h4, h5]
            rw [hfin]
            refine hy (fun _ => y_move rfl) <| hy (fun _ => y_move rfl) <| hyg (o := _) rfl rfl rfl (fun _ => y_move rfl) <| hy (fun _ => y_pickT rfl rfl) <| hy (fun _ => y_move rfl) <| hyg (o := _) rfl rfl rfl (fun _ => y_fld rfl fa27_0 (by decide)) <| hyg (o := _) rfl rfl rfl (fun m => y_ld1 rfl ag3 ((m.blk 0 rfl).cells0 0 _ sup0)) <| hyg (o := _) rfl rfl rfl (fun _ => yT (y_geq rfl rfl) ((decide_eq_true h3))) <| hy (fun _ => y_pickT rfl rfl) <| hy (fun _ => y_move rfl) <| hyg (o := _) rfl rfl rfl (fun _ => y_fld rfl fa27_0 (by decide)) <| hyg (o := _) rfl rfl rfl (fun m => y_ld1 rfl ag3 ((m.blk 0 rfl).cells0 0 _ sup0)) <| hyg (o := _) rfl rfl rfl (fun _ => yT (y_lss rfl rfl) ((decide_eq_true h4))) <| hy (fun _ => y_pickT rfl rfl) <| hy (fun _ => y_move rfl) <| hyg (o := _) rfl rfl rfl (fun _ => y_fld rfl fa27_1 (by decide)) <| hyg (o := _) rfl rfl rfl (fun m => y_ld1 rfl ag3 ((m.blk 0 rfl).cells0 1 _ sup1)) <| hyg (o := _) rfl rfl rfl (fun _ => yT (y_geq rfl rfl) ((decide_eq_true h5))) <| hy (fun _ => y_pickT rfl rfl) <| hy (fun _ => y_move rfl) <| hyg (o := _) rfl rfl rfl (fun _ => y_fld rfl fa27_1 (by decide)) <| hyg (o := _) rfl rfl rfl (fun m => y_ld1 rfl ag3 ((m.blk 0 rfl).cells0 1 _ sup1)) <| hyg (o := _) rfl rfl rfl (fun _ => y_leq rfl rfl) <| hy (fun _ => y_pickT rfl rfl) <| hy (fun _ => y_assign rfl) <| hend <| hsub (ρ' := [(2, _), (4, _), (3, _), (1, _), (0, _)]) ⟨rfl, rfl, rfl, rfl, rfl, trivial⟩ <| hthen <| hret <| ?_
            exact hret1 trivial rfl rfl [] rfl [] rfl ⟨rfl, rfl, rfl⟩
          · have hno : decide s.may = false := decide_eq_false (fun hm => h5 (hiff.1 hm).2.2.2.2.1)
            rw [hno]
            refine hy (fun _ => y_move rfl) <| hy (fun _ => y_move rfl) <| hyg (o := _) rfl rfl rfl (fun _ => y_move rfl) <| hy (fun _ => y_pickT rfl rfl) <| hy (fun _ => y_move rfl) <| hyg (o := _) rfl rfl rfl (fun _ => y_fld rfl fa27_0 (by decide)) <| hyg (o := _) rfl rfl rfl (fun m => y_ld1 rfl ag3 ((m.blk 0 rfl).cells0 0 _ sup0)) <| hyg (o := _) rfl rfl rfl (fun _ => yT (y_geq rfl rfl) ((decide_eq_true h3))) <| hy (fun _ => y_pickT rfl rfl) <| hy (fun _ => y_move rfl) <| hyg (o := _) rfl rfl rfl (fun _ => y_fld rfl fa27_0 (by decide)) <| hyg (o := _) rfl rfl rfl (fun m => y_ld1 rfl ag3 ((m.blk 0 rfl).cells0 0 _ sup0)) <| hyg (o := _) rfl rfl rfl (fun _ => yT (y_lss rfl rfl) ((decide_eq_true h4))) <| hy (fun _ => y_pickT rfl rfl) <| hy (fun _ => y_move rfl) <| hyg (o := _) rfl rfl rfl (fun _ => y_fld rfl fa27_1 (by decide)) <| hyg (o := _) rfl rfl rfl (fun m => y_ld1 rfl ag3 ((m.blk 0 rfl).cells0 1 _ sup1)) <| hyg (o := _) rfl rfl rfl (fun _ => yF (y_geq rfl rfl) ((decide_eq_false h5))) <| hy (fun _ => y_pickT rfl rfl) <| hy (fun _ => y_move rfl) <| hskip rfl rfl rfl (by decide) <| hskip rfl rfl rfl (by decide) <| hskip rfl rfl rfl (by decide) <| hy (fun _ => y_pickF rfl rfl) <| hy (fun _ => y_assign rfl) <| hend <| hsub (ρ' := [(2, _), (4, _), (3, _), (1, _), (0, _)]) ⟨rfl, rfl, rfl, rfl, rfl, trivial⟩ <| hthen <| hret <| ?_
            exact hret1 trivial rfl rfl [] rfl [] rfl ⟨rfl, rfl, rfl⟩
        · have hno : decide s.may = false := decide_eq_false (fun hm => h4 (hiff.1 hm).2.2.2.1)
          rw [hno]
          refine hy (fun _ => y_move rfl) <| hy (fun _ => y_move rfl) <| hyg (o := _) rfl rfl rfl (fun _ => y_move rfl) <| hy (fun _ => y_pickT rfl rfl) <| hy (fun _ => y_move rfl) <| hyg (o := _) rfl rfl rfl (fun _ => y_fld rfl fa27_0 (by decide)) <| hyg (o := _) rfl rfl rfl (fun m => y_ld1 rfl ag3 ((m.blk 0 rfl).cells0 0 _ sup0)) <| hyg (o := _) rfl rfl rfl (fun _ => yT (y_geq rfl rfl) ((decide_eq_true h3))) <| hy (fun _ => y_pickT rfl rfl) <| hy (fun _ => y_move rfl) <| hyg (o := _) rfl rfl rfl (fun _ => y_fld rfl fa27_0 (by decide)) <| hyg (o := _) rfl rfl rfl (fun m => y_ld1 rfl ag3 ((m.blk 0 rfl).cells0 0 _ sup0)) <| hyg (o := _) rfl rfl rfl (fun _ => yF (y_lss rfl rfl) ((decide_eq_false h4))) <| hy (fun _ => y_pickT rfl rfl) <| hy (fun _ => y_move rfl) <| hskip rfl rfl rfl (by decide) <| hskip rfl rfl rfl (by decide) <| hskip rfl rfl rfl (by decide) <| hy (fun _ => y_pickF rfl rfl) <| hy (fun _ => y_move rfl) <| hskip rfl rfl rfl (by decide) <| hskip rfl rfl rfl (by decide) <| hskip rfl rfl rfl (by decide) <| hy (fun _ => y_pickF rfl rfl) <| hy (fun _ => y_assign rfl) <| hend <| hsub (ρ' := [(2, _), (4, _), (3, _), (1, _), (0, _)]) ⟨rfl, rfl, rfl, rfl, rfl, trivial⟩ <| hthen <| hret <| ?_
          exact hret1 trivial rfl rfl [] rfl [] rfl ⟨rfl, rfl, rfl⟩
      · have hno : decide s.may = false := decide_eq_false (fun hm => h3 (hiff.1 hm).2.2.1)
        rw [hno]
        refine hy (fun _ => y_move rfl) <| hy (fun _ => y_move rfl) <| hyg (o := _) rfl rfl rfl (fun _ => y_move rfl) <| hy (fun _ => y_pickT rfl rfl) <| hy (fun _ => y_move rfl) <| hyg (o := _) rfl rfl rfl (fun _ => y_fld rfl fa27_0 (by decide)) <| hyg (o := _) rfl rfl rfl (fun m => y_ld1 rfl ag3 ((m.blk 0 rfl).cells0 0 _ sup0)) <| hyg (o := _) rfl rfl rfl (fun _ => yF (y_geq rfl rfl) ((decide_eq_false h3))) <| hy (fun _ => y_pickT rfl rfl) <| hy (fun _ => y_move rfl) <| hskip rfl rfl rfl (by decide) <| hskip rfl rfl rfl (by decide) <| hskip rfl rfl rfl (by decide) <| hy (fun _ => y_pickF rfl rfl) <| hy (fun _ => y_move rfl) <| hskip rfl rfl rfl (by decide) <| hskip rfl rfl rfl (by decide) <| hskip rfl rfl rfl (by decide) <| hy (fun _ => y_pickF rfl rfl) <| hy (fun _ => y_move rfl) <| hskip rfl rfl rfl (by decide) <| hskip rfl rfl rfl (by decide) <| hskip rfl rfl rfl (by decide) <| hy (fun _ => y_pickF rfl rfl) <| hy (fun _ => y_assign rfl) <| hend <| hsub (ρ' := [(2, _), (4, _), (3, _), (1, _), (0, _)]) ⟨rfl, rfl, rfl, rfl, rfl, trivial⟩ <| hthen <| hret <| ?_
        exact hret1 trivial rfl rfl [] rfl [] rfl ⟨rfl, rfl, rfl⟩
    · rw [decide_eq_false h2]
      have hno : decide s.may = false := decide_eq_false (fun hm => h2 (hiff.1 hm).2.1)
      rw [hno]
      refine hy (fun _ => y_move rfl) <| hy (fun _ => y_move rfl) <| hyg (o := _) rfl rfl rfl (fun _ => y_move rfl) <| hy (fun _ => y_pickT rfl rfl) <| hy (fun _ => y_move rfl) <| hskip rfl rfl rfl (by decide) <| hskip rfl rfl rfl (by decide) <| hskip rfl rfl rfl (by decide) <| hy (fun _ => y_pickF rfl rfl) <| hy (fun _ => y_move rfl) <| hskip rfl rfl rfl (by decide) <| hskip rfl rfl rfl (by decide) <| hskip rfl rfl rfl (by decide) <| hy (fun _ => y_pickF rfl rfl) <| hy (fun _ => y_move rfl) <| hskip rfl rfl rfl (by decide) <| hskip rfl rfl rfl (by decide) <| hskip rfl rfl rfl (by decide) <| hy (fun _ => y_pickF rfl rfl) <| hy (fun _ => y_move rfl) <| hskip rfl rfl rfl (by decide) <| hskip rfl rfl rfl (by decide) <| hskip rfl rfl rfl (by decide) <| hy (fun _ => y_pickF rfl rfl) <| hy (fun _ => y_assign rfl) <| hend <| hsub (ρ' := [(2, _), (4, _), (3, _), (1, _), (0, _)]) ⟨rfl, rfl, rfl, rfl, rfl, trivial⟩ <| hthen <| hret <| ?_
      exact hret1 trivial rfl rfl [] rfl [] rfl ⟨rfl, rfl, rfl⟩
  · rw [decide_eq_false h1]
    have hno : decide s.may = false := decide_eq_false (fun hm => h1 (hiff.1 hm).1)
    rw [hno]
    refine hy (fun _ => y_move rfl) <| hy (fun _ => y_move rfl) <| hskip rfl rfl rfl (by decide) <| hy (fun _ => y_pickF rfl rfl) <| hy (fun _ => y_move rfl) <| hskip rfl rfl rfl (by decide) <| hskip rfl rfl rfl (by decide) <| hskip rfl rfl rfl (by decide) <| hy (fun _ => y_pickF rfl rfl) <| hy (fun _ => y_move rfl) <| hskip rfl rfl rfl (by decide) <| hskip rfl rfl rfl (by decide) <| hskip rfl rfl rfl (by decide) <| hy (fun _ => y_pickF rfl rfl) <| hy (fun _ => y_move rfl) <| hskip rfl rfl rfl (by decide) <| hskip rfl rfl rfl (by decide) <| hskip rfl rfl rfl (by decide) <| hy (fun _ => y_pickF rfl rfl) <| hy (fun _ => y_move rfl) <| hskip rfl rfl rfl (by decide) <| hskip rfl rfl rfl (by decide) <| hskip rfl rfl rfl (by decide) <| hy (fun _ => y_pickF rfl rfl) <| hy (fun _ => y_assign rfl) <| hend <| hsub (ρ' := [(2, _), (4, _), (3, _), (1, _), (0, _)]) ⟨rfl, rfl, rfl, rfl, rfl, trivial⟩ <| hthen <| hret <| ?_
    exact hret1 trivial rfl rfl [] rfl [] rfl ⟨rfl, rfl, rfl⟩
def nz (x : Sl) : Sl := if x.full then Sl.zero else x
def none0 (s : Sup) (i : Nat) : Sl := if 0 < i then nz s.s0 else Sl.zero
def none1 (s : Sup) (i : Nat) : Sl := if 1 < i then nz s.s1 else Sl.zero
theorem nz_wf {x : Sl} (h : x.wf) : (nz x).wf := by
  unfold nz
  split
  · exact Sl.zero_wf
  · exact h
theorem none0_wf {s : Sup} (h : s.wf) (i : Nat) : (none0 s i).wf := by
  unfold none0
  split
  · exact nz_wf h.w0
  · exact Sl.zero_wf
theorem none1_wf {s : Sup} (h : s.wf) (i : Nat) : (none1 s i).wf := by
  unfold none1
  split
  · exact nz_wf h.w1
  · exact Sl.zero_wf
theorem none_same {s : Sup} {i : Nat} (hi : i < 2) (hf : (s.at i).full = true) : (none0 s (i + 1)).cs ++ (none1 s (i + 1)).cs = (none0 s i).cs ++ (none1 s i).cs := by
  match i, hi with
  | 0, _ => simp only [Sup.at, if_pos] at hf; simp [none0, none1, nz, hf]
  | 1, _ => simp only [Sup.at] at hf; simp at hf; simp [none0, none1, nz, hf]
theorem none_put {s : Sup} (h : s.wf) {i : Nat} (hi : i < 2) (hf : (s.at i).full = false) : splice ((none0 s i).cs ++ (none1 s i).cs) (i * 34) (s.at i).cs = (none0 s (i + 1)).cs ++ (none1 s (i + 1)).cs := by
  have h0 := Sl.cs_len (none0_wf h i)
  have h1 := Sl.cs_len (none1_wf h i)
  have h2 := Sl.cs_len (Sup.at_wf h i)
  match i, hi with
  | 0, _ =>
    simp only [Sup.at, if_pos] at hf h2 ⊢
    rw [splice, Nat.zero_mul, List.take_zero, List.nil_append, Nat.zero_add, h2, List.drop_append, List.drop_of_length_le (by omega), h0]
    simp [none0, none1, nz, hf]
  | 1, _ =>
    have hat : s.at 1 = s.s1 := rfl
    rw [hat] at hf h2 ⊢
    rw [splice, Nat.one_mul, List.take_append_of_le_length (by omega), List.take_of_length_le (by omega), List.drop_of_length_le (by simp; omega)]
    simp [none0, none1, nz, hf]
theorem nz_zero {x : Sl} : nz x = Sl.zero ↔ (x.full = false → x = Sl.zero) := by
  unfold nz
  cases hf : x.full <;> simp
theorem supMay_iff2 {s : Sup} (h0 : 0 ≤ s.s0.size ∧ s.s0.size ≤ 65536) (h1 : 0 ≤ s.s1.size ∧ s.s1.size ≤ 65536) : s.may ↔ (s.active = 0 ∨ s.active = 1) ∧ 0 ≤ s.gen ∧ s.gen ≤ 2147483647 ∧ (nz s.s0 = Sl.zero ∧ nz s.s1 = Sl.zero) := by
  unfold Sup.may Sl.may
  rw [nz_zero, nz_zero]
  constructor
  · rintro ⟨a, c, d, ⟨_, _, e⟩, ⟨_, _, f⟩⟩; exact ⟨a, c, d, e, f⟩
  · rintro ⟨a, c, d, e, f⟩; exact ⟨a, c, d, ⟨h0.1, h0.2, e⟩, ⟨h1.1, h1.2, f⟩⟩
theorem supMay_at {s : Sup} (h : s.may) {i : Nat} : 0 ≤ (s.at i).size ∧ (s.at i).size ≤ 65536 := by
  obtain ⟨_, _, _, ⟨a, c, _⟩, ⟨d, e, _⟩⟩ := h
  unfold Sup.at
  split
  · exact ⟨a, c⟩
  · exact ⟨d, e⟩
theorem maySC {s : Sup} (h : s.wf) : Con Tryd.prog 18 [.agg s.cs.toArray] [] [] (fun v_ X_ S_ => v_ = (.bool (decide s.may)) ∧ X_ = [] ∧ S_ = []) := by
  refine henter (N := 50) Tryd.func18 rfl rfl (by simp) fun b => ?_
  refine hseq <| hreg <| ?_
  refine hx (xh_box rfl (fun g1 => ?_))
  refine hmemL (fun w m => m.eqX 0 rfl (show _ = RBlk g1 39 s.cs from congrArg (RBlk _ _) (cells_agg _))) ?_
  refine hy (fun _ => y_assign rfl) <| hend <| hmemQ (X' := [_]) (S' := []) (fun _ m => m) <| hthen <| hseq <| hreg <| ?_
  refine hx (xh_alloc ti37 (fun g3 => ?_))
  refine hmemL (fun w m => m.eqX 0 rfl (show _ = RBlk g3 37 ((none0 s 0).cs ++ (none1 s 0).cs) from rfl)) ?_
  refine hend <| hmemQ (X' := [_, _]) (S' := []) (fun _ m => m) <| hthen <| hseq <| hseq <| hreg <| hy (fun _ => y_fld rfl fa39_2 (by decide)) <| hy (fun m => yV (y_ldN rfl ag37 sz37 (by rw [List.length_append, Sl.cs_len h.w0, Sl.cs_len h.w1]) (fun j u hu => by rw [add_add]; exact (m.blk 1 rfl).cells0 (2 + j) u (sup_two hu))) ((rfl : _ = Value.agg (s.s0.cs ++ s.s1.cs).toArray))) <| hy (fun _ => y_move rfl) <| hend <| hsub (ρ' := [(8, _), (7, _), (3, _), (2, _), (1, _), (0, _)]) ⟨rfl, rfl, rfl, rfl, rfl, rfl, trivial⟩ <| hthen <| hblock <| ?_
  refine hloop1 (fun i => 2 - i) (fun i => [(8, .int .i64 (i : Nat))]) (fun i => [RBlk g3 37 ((none0 s i).cs ++ (none1 s i).cs)]) (fun i => []) (fun i => i ≤ 2 ∧ ∀ j, j < i → 0 ≤ (s.at j).size ∧ (s.at j).size ≤ 65536) 0 [(7, _), (3, _), (1, _), (0, _)] ⟨rfl, rfl, rfl, rfl, trivial⟩ [0] rfl [] rfl (⟨Nat.zero_le _, fun j hj => absurd hj (Nat.not_lt_zero _)⟩) ⟨rfl, trivial⟩ (fun i ⟨hi2, hsz⟩ => ?_)
  refine hseq <| hreg <| hy (fun _ => y_lss rfl rfl) <| hend <| hthen <| hseq <| ?_
  refine hif rfl (fun hlt => ?_) (fun hlt => ?_)
  · have hi : i < 2 := by omega
    have hxw := Sup.at_wf h i
    have hx1 := hxw.lo
    have hx2 := hxw.hi
    have hat : ((s.s0.cs ++ s.s1.cs).drop (i * 34)).take 34 = (s.at i).cs := two_at h.w0 h.w1 hi
    refine hcskip <| hthen <| hseq <| hblock <| hseq <| hreg <| hy (fun _ => y_move rfl) <| ?_
    refine hy (fun m => yV (y_idxVN rfl rfl Tryd.underlying37 sz36 ag36 rfl hi) (congrArg (fun q => Value.agg q.toArray) hat)) ?_
    refine hx (xh_alloc ti36 (fun g5 => ?_))
    refine hy (fun _ => y_assign rfl) <| ?_
    refine hx0 (xh_stA 0 rfl rfl rfl sz36 (Sl.cs_len hxw) Sl.cs_one rfl ?_)
    by_cases hb : (s.at i).size < 0
    · have hno : decide s.may = false := decide_eq_false (fun hm => by have := (supMay_at hm (i := i)).1; omega)
      rw [hno]
      refine hend <| hsub (ρ' := [(4, _), (5, _), (9, _), (8, _), (7, _), (3, _), (1, _), (0, _)]) ⟨rfl, rfl, rfl, rfl, rfl, rfl, rfl, rfl, trivial⟩ <| hmemQ (X' := [_, _, _]) (S' := []) (fun _ m => m) <| hthen <| hseq <| hseq <| hreg <| hy (fun _ => y_fld rfl fa36_2 (by decide)) <| hy (fun m => y_ld1 rfl ag3 ((m.blk 0 rfl).cells0 33 _ (sl33 hxw))) <| hy (fun _ => yT (y_lss rfl rfl) ((decide_eq_true hb))) <| hy (fun _ => y_move rfl) <| hskip rfl rfl rfl (by decide) <| hskip rfl rfl rfl (by decide) <| hskip rfl rfl rfl (by decide) <| hy (fun _ => y_pickT rfl rfl) <| hend <| hsub (ρ' := [(19, _), (4, _), (5, _), (9, _), (8, _), (7, _), (3, _), (1, _), (0, _)]) ⟨rfl, rfl, rfl, rfl, rfl, rfl, rfl, rfl, rfl, trivial⟩ <| hthen <| ?_
      refine hift rfl (rfl) ?_
      refine hseq <| hreg <| hy (fun _ => y_assign rfl) <| hend <| hthen <| hret <| hthen_ret <| hqblock_ret <| hthen_ret <| hthen_ret <| hqblock_ret <| hthen_ret <| ?_
      exact hret1 trivial rfl rfl [] rfl [] rfl ⟨rfl, rfl, rfl⟩
    · refine hend <| hsub (ρ' := [(4, _), (5, _), (9, _), (8, _), (7, _), (3, _), (1, _), (0, _)]) ⟨rfl, rfl, rfl, rfl, rfl, rfl, rfl, rfl, trivial⟩ <| hthen <| hseq <| hseq <| hreg <| hy (fun _ => y_fld rfl fa36_2 (by decide)) <| hy (fun m => y_ld1 rfl ag3 ((m.blk 0 rfl).cells0 33 _ (sl33 hxw))) <| hy (fun _ => yF (y_lss rfl rfl) ((decide_eq_false hb))) <| hy (fun _ => y_move rfl) <| hyg (o := _) rfl rfl rfl (fun _ => y_fld rfl fa36_2 (by decide)) <| hyg (o := _) rfl rfl rfl (fun m => y_ld1 rfl ag3 ((m.blk 0 rfl).cells0 33 _ (sl33 hxw))) <| hyg (o := _) rfl rfl rfl (fun _ => y_gtr rfl rfl) <| hy (fun _ => y_pickF rfl rfl) <| hend <| hsub (ρ' := [(19, _), (4, _), (5, _), (9, _), (8, _), (7, _), (3, _), (1, _), (0, _)]) ⟨rfl, rfl, rfl, rfl, rfl, rfl, rfl, rfl, rfl, trivial⟩ <| hthen <| ?_
      refine hif rfl (fun hb2 => ?_) (fun hb2 => ?_)
      · have hno : decide s.may = false := decide_eq_false (fun hm => by have := (supMay_at hm (i := i)).2; omega)
        rw [hno]
        refine hseq <| hreg <| hy (fun _ => y_assign rfl) <| hend <| hthen <| hret <| hthen_ret <| hqblock_ret <| hthen_ret <| hthen_ret <| hqblock_ret <| hthen_ret <| ?_
        exact hret1 trivial rfl rfl [] rfl [] rfl ⟨rfl, rfl, rfl⟩
      · have hsz' : ∀ j, j < i + 1 → 0 ≤ (s.at j).size ∧ (s.at j).size ≤ 65536 := fun j hj => by
          rcases Nat.lt_succ_iff_lt_or_eq.1 hj with h1 | h1
          · exact hsz j h1
          · rw [h1]; exact ⟨by omega, by omega⟩
        refine hcskip <| hthen <| hseq <| hreg <| hy (fun _ => y_fld rfl fa36_0 (by decide)) <| hy (fun m => y_ld1 rfl ag4 ((m.blk 0 rfl).cells0 0 _ sl0)) <| hy (fun _ => (y_not rfl)) <| hend <| hsub (ρ' := [(22, _), (19, _), (4, _), (5, _), (9, _), (8, _), (7, _), (3, _), (1, _), (0, _)]) ⟨rfl, rfl, rfl, rfl, rfl, rfl, rfl, rfl, rfl, rfl, trivial⟩ <| hthen <| ?_
        refine hifb rfl (fun hf => ?_) (fun hf => ?_)
        · have hf' : (s.at i).full = false := by simpa using hf
          refine hreg <| hy (fun _ => y_move rfl) <| hy (fun m => yV (y_ldN rfl ag36 sz36 (Sl.cs_len hxw) ((m.blk 0 rfl).cells0)) ((rfl : _ = Value.agg (s.at i).cs.toArray))) <| hy (fun _ => y_idxA rfl rfl Tryd.underlying37 sz36 (show ((i : Nat) : Int) = _ by omega) (by omega)) <| ?_
          refine hx0 (xh_stNa 1 rfl rfl rfl sz36 (Sl.cs_len hxw) Sl.cs_one (by rw [List.length_append, Sl.cs_len (none0_wf h i), Sl.cs_len (none1_wf h i)]; omega) ?_)
          refine hend <| hsub (ρ' := [(22, _), (19, _), (4, _), (5, _), (9, _), (8, _), (7, _), (3, _), (1, _), (0, _)]) ⟨rfl, rfl, rfl, rfl, rfl, rfl, rfl, rfl, rfl, rfl, trivial⟩ <| hmemQ (X' := [_, _, _]) (S' := []) (fun _ m => m) <| hqblock <| hthen <| hreg <| hy (fun _ => y_add rfl rfl (w64 (by omega) (by omega))) <| hy (fun _ => y_move rfl) <| hend <| hsub (ρ' := [(8, _), (22, _), (19, _), (4, _), (5, _), (9, _), (7, _), (3, _), (1, _), (0, _)]) ⟨rfl, rfl, rfl, rfl, rfl, rfl, rfl, rfl, rfl, rfl, trivial⟩ <| ?_
          refine hmemQ (fun w m => m.eqX 0 rfl (show _ = RBlk g3 37 ((none0 s (i + 1)).cs ++ (none1 s (i + 1)).cs) from by rw [Nat.zero_add, none_put h hi hf'])) ?_
          refine hnext1 (i + 1) ⟨rfl, rfl, rfl, rfl, rfl, trivial⟩ [0, 1] rfl [] rfl (⟨by omega, hsz'⟩) (by omega)
        · have hf' : (s.at i).full = true := by simpa using hf
          refine hcskip <| hqblock <| hthen <| hreg <| hy (fun _ => y_add rfl rfl (w64 (by omega) (by omega))) <| hy (fun _ => y_move rfl) <| hend <| hsub (ρ' := [(8, _), (22, _), (19, _), (4, _), (5, _), (9, _), (7, _), (3, _), (1, _), (0, _)]) ⟨rfl, rfl, rfl, rfl, rfl, rfl, rfl, rfl, rfl, rfl, trivial⟩ <| ?_
          refine hmemQ (fun w m => m.eqX 1 rfl (show _ = RBlk g3 37 ((none0 s (i + 1)).cs ++ (none1 s (i + 1)).cs) from by rw [none_same hi hf'])) ?_
          refine hnext1 (i + 1) ⟨rfl, rfl, rfl, rfl, rfl, trivial⟩ [0, 1] rfl [] rfl (⟨by omega, hsz'⟩) (by omega)
  · obtain rfl : i = 2 := by omega
    have hiff := supMay_iff2 (hsz 0 (by decide)) (hsz 1 (by decide))
    refine hmemC (fun w m => m.eqX 0 rfl (show _ = RBlk g3 37 ((nz s.s0).cs ++ (nz s.s1).cs) from rfl)) ?_
    by_cases ha : s.active = 0
    · by_cases h4 : 0 ≤ s.gen
      · by_cases h5 : s.gen ≤ 2147483647
        · have hfin : decide s.may = decide (nz s.s0 = Sl.zero ∧ nz s.s1 = Sl.zero) := by rw [decide_eq_decide, hiff]; simp [ha, h4, h5]
          rw [hfin]
          refine hexit <| hthen_exit <| hthen_exit <| hqblock_exit <| hthen <| hseq <| hreg <| hy (fun _ => y_fld rfl fa39_0 (by decide)) <| hy (fun m => y_ld1 rfl ag3 ((m.blk 1 rfl).cells0 0 _ sup0)) <| hy (fun _ => yT (y_eql rfl rfl) ((decide_eq_true ha))) <| hy (fun _ => y_move rfl) <| hskip rfl rfl rfl (by decide) <| hskip rfl rfl rfl (by decide) <| hskip rfl rfl rfl (by decide) <| hy (fun _ => y_pickT rfl rfl) <| hy (fun _ => y_move rfl) <| hyg (o := _) rfl rfl rfl (fun _ => y_fld rfl fa39_1 (by decide)) <| hyg (o := _) rfl rfl rfl (fun m => y_ld1 rfl ag3 ((m.blk 1 rfl).cells0 1 _ sup1)) <| hyg (o := _) rfl rfl rfl (fun _ => yT (y_geq rfl rfl) ((decide_eq_true h4))) <| hy (fun _ => y_pickT rfl rfl) <| hy (fun _ => y_move rfl) <| hyg (o := _) rfl rfl rfl (fun _ => y_fld rfl fa39_1 (by decide)) <| hyg (o := _) rfl rfl rfl (fun m => y_ld1 rfl ag3 ((m.blk 1 rfl).cells0 1 _ sup1)) <| hyg (o := _) rfl rfl rfl (fun _ => yT (y_leq rfl rfl) ((decide_eq_true h5))) <| hy (fun _ => y_pickT rfl rfl) <| hy (fun _ => y_move rfl) <| hyg (o := _) rfl rfl rfl (fun m => yV (y_ldN rfl ag37 sz37 (by rw [List.length_append, Sl.cs_len (nz_wf h.w0), Sl.cs_len (nz_wf h.w1)]) ((m.blk 0 rfl).cells0)) ((rfl : _ = Value.agg ((nz s.s0).cs ++ (nz s.s1).cs).toArray))) <| hyg (o := _) rfl rfl rfl (fun _ => yV (y_build0 ti37 rfl (by kernel_rfl)) ((rfl : _ = Value.agg (Sl.zero.cs ++ Sl.zero.cs).toArray))) <| ?_
          refine hyg (o := _) rfl rfl rfl (fun m => y_eqTwo rfl rfl (nz_wf h.w0) (nz_wf h.w1) Sl.zero_wf Sl.zero_wf) ?_
          refine hy (fun _ => y_pickT rfl rfl) <| hy (fun _ => y_assign rfl) <| hend <| hsub (ρ' := [(2, _), (9, _), (8, _), (7, _), (3, _), (1, _), (0, _)]) ⟨rfl, rfl, rfl, rfl, rfl, rfl, rfl, trivial⟩ <| hthen <| hret <| ?_
          exact hret1 trivial rfl rfl [] rfl [] rfl ⟨rfl, rfl, rfl⟩
        · have hno : decide s.may = false := decide_eq_false (fun hm => h5 (hiff.1 hm).2.2.1)
          rw [hno]
          refine hexit <| hthen_exit <| hthen_exit <| hqblock_exit <| hthen <| hseq <| hreg <| hy (fun _ => y_fld rfl fa39_0 (by decide)) <| hy (fun m => y_ld1 rfl ag3 ((m.blk 1 rfl).cells0 0 _ sup0)) <| hy (fun _ => yT (y_eql rfl rfl) ((decide_eq_true ha))) <| hy (fun _ => y_move rfl) <| hskip rfl rfl rfl (by decide) <| hskip rfl rfl rfl (by decide) <| hskip rfl rfl rfl (by decide) <| hy (fun _ => y_pickT rfl rfl) <| hy (fun _ => y_move rfl) <| hyg (o := _) rfl rfl rfl (fun _ => y_fld rfl fa39_1 (by decide)) <| hyg (o := _) rfl rfl rfl (fun m => y_ld1 rfl ag3 ((m.blk 1 rfl).cells0 1 _ sup1)) <| hyg (o := _) rfl rfl rfl (fun _ => yT (y_geq rfl rfl) ((decide_eq_true h4))) <| hy (fun _ => y_pickT rfl rfl) <| hy (fun _ => y_move rfl) <| hyg (o := _) rfl rfl rfl (fun _ => y_fld rfl fa39_1 (by decide)) <| hyg (o := _) rfl rfl rfl (fun m => y_ld1 rfl ag3 ((m.blk 1 rfl).cells0 1 _ sup1)) <| hyg (o := _) rfl rfl rfl (fun _ => yF (y_leq rfl rfl) ((decide_eq_false h5))) <| hy (fun _ => y_pickT rfl rfl) <| hy (fun _ => y_move rfl) <| hskip rfl rfl rfl (by decide) <| hskip rfl rfl rfl (by decide) <| hskip rfl rfl rfl (by decide) <| hy (fun _ => y_pickF rfl rfl) <| hy (fun _ => y_assign rfl) <| hend <| hsub (ρ' := [(2, _), (9, _), (8, _), (7, _), (3, _), (1, _), (0, _)]) ⟨rfl, rfl, rfl, rfl, rfl, rfl, rfl, trivial⟩ <| hthen <| hret <| ?_
          exact hret1 trivial rfl rfl [] rfl [] rfl ⟨rfl, rfl, rfl⟩
      · have hno : decide s.may = false := decide_eq_false (fun hm => h4 (hiff.1 hm).2.1)
        rw [hno]
        refine hexit <| hthen_exit <| hthen_exit <| hqblock_exit <| hthen <| hseq <| hreg <| hy (fun _ => y_fld rfl fa39_0 (by decide)) <| hy (fun m => y_ld1 rfl ag3 ((m.blk 1 rfl).cells0 0 _ sup0)) <| hy (fun _ => yT (y_eql rfl rfl) ((decide_eq_true ha))) <| hy (fun _ => y_move rfl) <| hskip rfl rfl rfl (by decide) <| hskip rfl rfl rfl (by decide) <| hskip rfl rfl rfl (by decide) <| hy (fun _ => y_pickT rfl rfl) <| hy (fun _ => y_move rfl) <| hyg (o := _) rfl rfl rfl (fun _ => y_fld rfl fa39_1 (by decide)) <| hyg (o := _) rfl rfl rfl (fun m => y_ld1 rfl ag3 ((m.blk 1 rfl).cells0 1 _ sup1)) <| hyg (o := _) rfl rfl rfl (fun _ => yF (y_geq rfl rfl) ((decide_eq_false h4))) <| hy (fun _ => y_pickT rfl rfl) <| hy (fun _ => y_move rfl) <| hskip rfl rfl rfl (by decide) <| hskip rfl rfl rfl (by decide) <| hskip rfl rfl rfl (by decide) <| hy (fun _ => y_pickF rfl rfl) <| hy (fun _ => y_move rfl) <| hskip rfl rfl rfl (by decide) <| hskip rfl rfl rfl (by decide) <| hskip rfl rfl rfl (by decide) <| hy (fun _ => y_pickF rfl rfl) <| hy (fun _ => y_assign rfl) <| hend <| hsub (ρ' := [(2, _), (9, _), (8, _), (7, _), (3, _), (1, _), (0, _)]) ⟨rfl, rfl, rfl, rfl, rfl, rfl, rfl, trivial⟩ <| hthen <| hret <| ?_
        exact hret1 trivial rfl rfl [] rfl [] rfl ⟨rfl, rfl, rfl⟩
    · by_cases ha1 : s.active = 1
      · by_cases h4 : 0 ≤ s.gen
        · by_cases h5 : s.gen ≤ 2147483647
          · have hfin : decide s.may = decide (nz s.s0 = Sl.zero ∧ nz s.s1 = Sl.zero) := by rw [decide_eq_decide, hiff]; simp [ha1, h4, h5]
            rw [hfin]
            refine hexit <| hthen_exit <| hthen_exit <| hqblock_exit <| hthen <| hseq <| hreg <| hy (fun _ => y_fld rfl fa39_0 (by decide)) <| hy (fun m => y_ld1 rfl ag3 ((m.blk 1 rfl).cells0 0 _ sup0)) <| hy (fun _ => yF (y_eql rfl rfl) ((decide_eq_false ha))) <| hy (fun _ => y_move rfl) <| hyg (o := _) rfl rfl rfl (fun _ => y_fld rfl fa39_0 (by decide)) <| hyg (o := _) rfl rfl rfl (fun m => y_ld1 rfl ag3 ((m.blk 1 rfl).cells0 0 _ sup0)) <| hyg (o := _) rfl rfl rfl (fun _ => yT (y_eql rfl rfl) ((decide_eq_true ha1))) <| hy (fun _ => y_pickF rfl rfl) <| hy (fun _ => y_move rfl) <| hyg (o := _) rfl rfl rfl (fun _ => y_fld rfl fa39_1 (by decide)) <| hyg (o := _) rfl rfl rfl (fun m => y_ld1 rfl ag3 ((m.blk 1 rfl).cells0 1 _ sup1)) <| hyg (o := _) rfl rfl rfl (fun _ => yT (y_geq rfl rfl) ((decide_eq_true h4))) <| hy (fun _ => y_pickT rfl rfl) <| hy (fun _ => y_move rfl) <| hyg (o := _) rfl rfl rfl (fun _ => y_fld rfl fa39_1 (by decide)) <| hyg (o := _) rfl rfl rfl (fun m => y_ld1 rfl ag3 ((m.blk 1 rfl).cells0 1 _ sup1)) <| hyg (o := _) rfl rfl rfl (fun _ => yT (y_leq rfl rfl) ((decide_eq_true h5))) <| hy (fun _ => y_pickT rfl rfl) <| hy (fun _ => y_move rfl) <| hyg (o := _) rfl rfl rfl (fun m => yV (y_ldN rfl ag37 sz37 (by rw [List.length_append, Sl.cs_len (nz_wf h.w0), Sl.cs_len (nz_wf h.w1)]) ((m.blk 0 rfl).cells0)) ((rfl : _ = Value.agg ((nz s.s0).cs ++ (nz s.s1).cs).toArray))) <| hyg (o := _) rfl rfl rfl (fun _ => yV (y_build0 ti37 rfl (by kernel_rfl)) ((rfl : _ = Value.agg (Sl.zero.cs ++ Sl.zero.cs).toArray))) <| ?_
            refine hyg (o := _) rfl rfl rfl (fun m => y_eqTwo rfl rfl (nz_wf h.w0) (nz_wf h.w1) Sl.zero_wf Sl.zero_wf) ?_
            refine hy (fun _ => y_pickT rfl rfl) <| hy (fun _ => y_assign rfl) <| hend <| hsub (ρ' := [(2, _), (9, _), (8, _), (7, _), (3, _), (1, _), (0, _)]) ⟨rfl, rfl, rfl, rfl, rfl, rfl, rfl, trivial⟩ <| hthen <| hret <| ?_
            exact hret1 trivial rfl rfl [] rfl [] rfl ⟨rfl, rfl, rfl⟩
          · have hno : decide s.may = false := decide_eq_false (fun hm => h5 (hiff.1 hm).2.2.1)
            rw [hno]
            refine hexit <| hthen_exit <| hthen_exit <| hqblock_exit <| hthen <| hseq <| hreg <| hy (fun _ => y_fld rfl fa39_0 (by decide)) <| hy (fun m => y_ld1 rfl ag3 ((m.blk 1 rfl).cells0 0 _ sup0)) <| hy (fun _ => yF (y_eql rfl rfl) ((decide_eq_false ha))) <| hy (fun _ => y_move rfl) <| hyg (o := _) rfl rfl rfl (fun _ => y_fld rfl fa39_0 (by decide)) <| hyg (o := _) rfl rfl rfl (fun m => y_ld1 rfl ag3 ((m.blk 1 rfl).cells0 0 _ sup0)) <| hyg (o := _) rfl rfl rfl (fun _ => yT (y_eql rfl rfl) ((decide_eq_true ha1))) <| hy (fun _ => y_pickF rfl rfl) <| hy (fun _ => y_move rfl) <| hyg (o := _) rfl rfl rfl (fun _ => y_fld rfl fa39_1 (by decide)) <| hyg (o := _) rfl rfl rfl (fun m => y_ld1 rfl ag3 ((m.blk 1 rfl).cells0 1 _ sup1)) <| hyg (o := _) rfl rfl rfl (fun _ => yT (y_geq rfl rfl) ((decide_eq_true h4))) <| hy (fun _ => y_pickT rfl rfl) <| hy (fun _ => y_move rfl) <| hyg (o := _) rfl rfl rfl (fun _ => y_fld rfl fa39_1 (by decide)) <| hyg (o := _) rfl rfl rfl (fun m => y_ld1 rfl ag3 ((m.blk 1 rfl).cells0 1 _ sup1)) <| hyg (o := _) rfl rfl rfl (fun _ => yF (y_leq rfl rfl) ((decide_eq_false h5))) <| hy (fun _ => y_pickT rfl rfl) <| hy (fun _ => y_move rfl) <| hskip rfl rfl rfl (by decide) <| hskip rfl rfl rfl (by decide) <| hskip rfl rfl rfl (by decide) <| hy (fun _ => y_pickF rfl rfl) <| hy (fun _ => y_assign rfl) <| hend <| hsub (ρ' := [(2, _), (9, _), (8, _), (7, _), (3, _), (1, _), (0, _)]) ⟨rfl, rfl, rfl, rfl, rfl, rfl, rfl, trivial⟩ <| hthen <| hret <| ?_
            exact hret1 trivial rfl rfl [] rfl [] rfl ⟨rfl, rfl, rfl⟩
        · have hno : decide s.may = false := decide_eq_false (fun hm => h4 (hiff.1 hm).2.1)
          rw [hno]
          refine hexit <| hthen_exit <| hthen_exit <| hqblock_exit <| hthen <| hseq <| hreg <| hy (fun _ => y_fld rfl fa39_0 (by decide)) <| hy (fun m => y_ld1 rfl ag3 ((m.blk 1 rfl).cells0 0 _ sup0)) <| hy (fun _ => yF (y_eql rfl rfl) ((decide_eq_false ha))) <| hy (fun _ => y_move rfl) <| hyg (o := _) rfl rfl rfl (fun _ => y_fld rfl fa39_0 (by decide)) <| hyg (o := _) rfl rfl rfl (fun m => y_ld1 rfl ag3 ((m.blk 1 rfl).cells0 0 _ sup0)) <| hyg (o := _) rfl rfl rfl (fun _ => yT (y_eql rfl rfl) ((decide_eq_true ha1))) <| hy (fun _ => y_pickF rfl rfl) <| hy (fun _ => y_move rfl) <| hyg (o := _) rfl rfl rfl (fun _ => y_fld rfl fa39_1 (by decide)) <| hyg (o := _) rfl rfl rfl (fun m => y_ld1 rfl ag3 ((m.blk 1 rfl).cells0 1 _ sup1)) <| hyg (o := _) rfl rfl rfl (fun _ => yF (y_geq rfl rfl) ((decide_eq_false h4))) <| hy (fun _ => y_pickT rfl rfl) <| hy (fun _ => y_move rfl) <| hskip rfl rfl rfl (by decide) <| hskip rfl rfl rfl (by decide) <| hskip rfl rfl rfl (by decide) <| hy (fun _ => y_pickF rfl rfl) <| hy (fun _ => y_move rfl) <| hskip rfl rfl rfl (by decide) <| hskip rfl rfl rfl (by decide) <| hskip rfl rfl rfl (by decide) <| hy (fun _ => y_pickF rfl rfl) <| hy (fun _ => y_assign rfl) <| hend <| hsub (ρ' := [(2, _), (9, _), (8, _), (7, _), (3, _), (1, _), (0, _)]) ⟨rfl, rfl, rfl, rfl, rfl, rfl, rfl, trivial⟩ <| hthen <| hret <| ?_
          exact hret1 trivial rfl rfl [] rfl [] rfl ⟨rfl, rfl, rfl⟩
      · have hno : decide s.may = false := decide_eq_false (fun hm => by rcases (hiff.1 hm).1 with h | h <;> omega)
        rw [hno]
        refine hexit <| hthen_exit <| hthen_exit <| hqblock_exit <| hthen <| hseq <| hreg <| hy (fun _ => y_fld rfl fa39_0 (by decide)) <| hy (fun m => y_ld1 rfl ag3 ((m.blk 1 rfl).cells0 0 _ sup0)) <| hy (fun _ => yF (y_eql rfl rfl) ((decide_eq_false ha))) <| hy (fun _ => y_move rfl) <| hyg (o := _) rfl rfl rfl (fun _ => y_fld rfl fa39_0 (by decide)) <| hyg (o := _) rfl rfl rfl (fun m => y_ld1 rfl ag3 ((m.blk 1 rfl).cells0 0 _ sup0)) <| hyg (o := _) rfl rfl rfl (fun _ => yF (y_eql rfl rfl) ((decide_eq_false ha1))) <| hy (fun _ => y_pickF rfl rfl) <| hy (fun _ => y_move rfl) <| hskip rfl rfl rfl (by decide) <| hskip rfl rfl rfl (by decide) <| hskip rfl rfl rfl (by decide) <| hy (fun _ => y_pickF rfl rfl) <| hy (fun _ => y_move rfl) <| hskip rfl rfl rfl (by decide) <| hskip rfl rfl rfl (by decide) <| hskip rfl rfl rfl (by decide) <| hy (fun _ => y_pickF rfl rfl) <| hy (fun _ => y_move rfl) <| hskip rfl rfl rfl (by decide) <| hskip rfl rfl rfl (by decide) <| hskip rfl rfl rfl (by decide) <| hy (fun _ => y_pickF rfl rfl) <| hy (fun _ => y_assign rfl) <| hend <| hsub (ρ' := [(2, _), (9, _), (8, _), (7, _), (3, _), (1, _), (0, _)]) ⟨rfl, rfl, rfl, rfl, rfl, rfl, rfl, trivial⟩ <| hthen <| hret <| ?_
        exact hret1 trivial rfl rfl [] rfl [] rfl ⟨rfl, rfl, rfl⟩
end Go.Proofs.YtfikjheicjamhaaDoor
end
section
/- Contracts: superblocks' bytes (layer 22), of the program and of the document. -/
set_option linter.unusedVariables false
set_option linter.unusedSimpArgs false
set_option maxRecDepth 20000
namespace Go.Proofs.YtfikjheicjamhaaDoor
open Go.Eng Go.Hx
theorem snumC {A : Option Addr} {k c : Nat} {l : List UInt8} {n : Nat} (hk : k ≤ 1000000) (hn : n ≤ 9223372036854775807) : Con Tryd.prog 61 [.slice A k c, .int .i64 (n : Int)] [ROwn 5 1 (.slice A k c) k (b8s l)] [] (fun v_ X_ S_ => ∃ A1 c1, v_ = (.slice A1 (k + 4) c1) ∧ X_ = [ROwn 5 1 (.slice A1 (k + 4) c1) (k + 4) (b8s (l ++ le4 n))] ∧ S_ = []) := by
  refine henter (N := 16) Tryd.func61 rfl rfl (by simp) fun b => ?_
  refine hseq <| hreg <| hy (fun _ => y_assign rfl) <| hend <| hthen <| hseq <| hseq <| hreg <| hy (fun _ => y_move rfl) <| hend <| hthen <| hblock <| ?_
  refine hmemC (fun w m => m.eqX 0 rfl (show _ = ROwn 5 1 (.slice A (k + 0) c) (k + 0) (b8s (l ++ lek 0 n)) from by simp [lek])) ?_
  refine hloop3 (fun i A1 c1 => 4 - i) (fun i A1 c1 => [(0, .slice A1 (k + i) c1), (1, .int .i64 ((shr8 i n : Nat) : Int)), (5, .int .i64 (i : Nat))]) (fun i A1 c1 => [ROwn 5 1 (.slice A1 (k + i) c1) (k + i) (b8s (l ++ lek i n))]) (fun i A1 c1 => []) (fun i A1 c1 => i ≤ 4) 0 A c [(4, _)] ⟨rfl, trivial⟩ [0] rfl [] rfl (Nat.zero_le _) ⟨rfl, rfl, rfl, trivial⟩ (fun i A1 c1 hi4 => ?_)
  have hsh : shr8 i n < 9223372036854775808 := shr8_lt (by omega) i
  refine hseq <| hreg <| hy (fun _ => y_lss rfl rfl) <| hend <| hthen <| hseq <| ?_
  refine hif rfl (fun hi => ?_) (fun hi => ?_)
  · refine hcskip <| hthen <| hseq <| hblock <| hseq <| hreg <| hy (fun _ => y_move rfl) <| hy (fun _ => y_move rfl) <| hy (fun _ => y_conv rfl Tryd.underlying3 Tryd.underlying5 (u8mod (shr8 i n))) <| ?_
    refine hx (xh_bsl Tryd.underlying32 ti5 rfl rfl rfl (by simp [Value.cells, B8]) (by decide) (by decide) (fun g10 => ?_))
    have hA_b10 : 0 < 1 → (some (⟨g10, 0, none⟩ : Addr)) ≠ none := fun _ h => by cases h
    refine hmemL (fun w m => m.eqX 0 rfl (show _ = ROwn 5 1 (.slice (some ⟨g10, 0, none⟩) 1 1) 1 (b8s [UInt8.ofNat (shr8 i n)]) from rfl)) ?_
    refine hx (xh_app 1 rfl rfl rfl Tryd.underlying32 Tryd.underlying32 (by exact .inl rfl) ti5 rfl (fun m => Src.of_rd (m.ord 0 rfl)) b8s_one (by unfold maxLen; omega) (by omega) (fun u => ?_))
    refine hfactL (fun m => (m.own 0 rfl).slice) ?_
    rintro ⟨A_o, c_o, rfl, hc_o⟩
    refine hfactL (fun m => (m.ord 0 rfl).2.1) fun hA_o => ?_
    refine hmemL (fun w m => m.eqX 0 rfl (show _ = ROwn 5 1 (.slice A_o (k + (i + 1)) c_o) (k + (i + 1)) (b8s (l ++ lek (i + 1) n)) from by rw [lek_succ]; simp [b8s, Nat.add_assoc])) ?_
    refine hy (fun _ => y_assign rfl) <| hend <| hsub (ρ' := [(0, _), (6, _), (1, _), (5, _), (4, _)]) ⟨rfl, rfl, rfl, rfl, rfl, trivial⟩ <| hmemQ (X' := [_, _]) (S' := []) (fun _ m => m) <| hthen <| hreg <| hy (fun _ => y_move rfl) <| hy (fun _ => yV (y_shr (p := 256) rfl rfl (by decide) (by decide) (by decide)) ((show Value.int .i64 (((shr8 i n : Nat) : Int) / 256) = .int .i64 ((shr8 (i + 1) n : Nat) : Int) from rfl))) <| hy (fun _ => y_assign rfl) <| hend <| hsub (ρ' := [(1, _), (0, _), (6, _), (5, _), (4, _)]) ⟨rfl, rfl, rfl, rfl, rfl, trivial⟩ <| hqblock <| hthen <| hreg <| hy (fun _ => y_add rfl rfl (w64 (by omega) (by omega))) <| hy (fun _ => y_move rfl) <| hend <| hsub (ρ' := [(5, _), (1, _), (0, _), (6, _), (4, _)]) ⟨rfl, rfl, rfl, rfl, rfl, trivial⟩ <| ?_
    refine hnext3 (i + 1) A_o c_o ⟨rfl, rfl, rfl, rfl, trivial⟩ [0] rfl [] rfl (by omega) (by omega)
  · obtain rfl : i = 4 := by omega
    refine hmemC (fun w m => m.eqX 0 rfl (show _ = ROwn 5 1 (.slice A1 (k + 4) c1) (k + 4) (b8s (l ++ le4 n)) from by rw [lek_four])) ?_
    refine hexit <| hthen_exit <| hthen_exit <| hqblock_exit <| hthen <| hseq <| hreg <| hy (fun _ => y_move rfl) <| hy (fun _ => y_assign rfl) <| hend <| hsub (ρ' := [(4, _), (6, _), (0, _), (1, _), (5, _)]) ⟨rfl, rfl, rfl, rfl, rfl, trivial⟩ <| hthen <| hret <| ?_
    exact hret1 trivial rfl rfl [0] rfl [] rfl ⟨_, _, rfl, rfl, rfl⟩
def wpart (s : Sup) (i : Nat) : List UInt8 := [76, 84, 83, 49] ++ [UInt8.ofNat s.active.toNat] ++ le4 s.gen.toNat ++ (if 0 < i then s.s0.by_ else []) ++ (if 1 < i then s.s1.by_ else [])
theorem wpart_succ {s : Sup} {i : Nat} (hi : i < 2) : wpart s (i + 1) = wpart s i ++ (s.at i).by_ := by
  match i, hi with
  | 0, _ => simp [wpart, Sup.at]
  | 1, _ => simp [wpart, Sup.at]
theorem may_nat {s : Sup} (h : s.may) : s.active = (s.active.toNat : Int) ∧ s.active.toNat ≤ 1 ∧ s.gen = (s.gen.toNat : Int) ∧ s.gen.toNat ≤ 2147483647 := by
  obtain ⟨h1, h2, h3, _⟩ := h
  omega
theorem may_size {s : Sup} (h : s.may) {i : Nat} : (s.at i).size = ((s.at i).size.toNat : Int) ∧ (s.at i).size.toNat ≤ 65536 := by
  have := supMay_at h (i := i)
  omega
theorem writeSupC {s : Sup} (h : s.wf) : Con Tryd.prog 16 [.agg s.cs.toArray] [] [] (fun v_ X_ S_ => ∃ v, v_ = (.tuple #[v, .int .i64 (if s.may then 0 else 1)]) ∧ X_ = [ROwn 5 1 v (if s.may then s.bytes else []).length (b8s (if s.may then s.bytes else []))] ∧ S_ = []) := by
  refine henter (N := 41) Tryd.func16 rfl rfl (by simp) fun b => ?_
  refine hseq <| hreg <| ?_
  refine hx (xh_box rfl (fun g1 => ?_))
  refine hmemL (fun w m => m.eqX 0 rfl (show _ = RBlk g1 39 s.cs from congrArg (RBlk _ _) (cells_agg _))) ?_
  refine hy (fun _ => y_assign rfl) <| hy (fun _ => y_assign rfl) <| hend <| hmemQ (X' := [_]) (S' := []) (fun _ m => m) <| hthen <| hseq <| hseq <| hreg <| hy (fun m => yV (y_ldN rfl ag39 sz39 (Sup.cs_len h) ((m.blk 0 rfl).cells0)) ((rfl : _ = Value.agg s.cs.toArray))) <| ?_
  refine hx (xh_call rfl Tryd.call18 (maySC h) [] rfl [] rfl ?_)
  rintro _ _ _ ⟨rfl, rfl, rfl⟩
  refine hy (fun _ => y_notp rfl) <| hend <| hsub (ρ' := [(10, _), (3, _), (2, _), (1, _), (0, _)]) ⟨rfl, rfl, rfl, rfl, rfl, trivial⟩ <| hmemQ (X' := [_]) (S' := []) (fun _ m => m) <| hthen <| ?_
  refine hif rfl (fun hm => ?_) (fun hm => ?_)
  · rw [if_neg hm, if_neg hm]
    refine hseq <| hreg <| hy (fun _ => y_assign rfl) <| hy (fun _ => y_assign rfl) <| hend <| hthen <| hret <| hthen_ret <| ?_
    refine hmemQ (fun w m => m.addX (r' := ROwn 5 1 (.slice none 0 0) 0 []) (.refl _ _) (Own.nil _ _ _ _) (fun k hk => hk.elim)) ?_
    exact hret2 trivial rfl rfl rfl [0] rfl [] rfl ⟨_, rfl, rfl, rfl⟩
  · have hm := Decidable.not_not.1 hm
    obtain ⟨ha, ha1, hg, hg1⟩ := may_nat hm
    rw [if_pos hm, if_pos hm]
    have hav : IntKind.u8.wrap s.active = ((UInt8.ofNat s.active.toNat).toNat : Int) := by
      have := u8mod s.active.toNat
      rwa [← ha] at this
    refine hcskip <| hthen <| hseq <| hdrwPB [0] [] rfl rfl [0, 1, 5, 6, 9] (.take 2 5 <| .take 3 2 <| .take 4 2 <| .take 7 4 <| .take 8 4 <| .alt 0 (.alt 1 (.alt 5 (.alt 6 (.alt 9 (.take 10 5 <| .done) (.stop)) (.stop)) (.stop)) (.alt 5 (.alt 1 (.alt 6 (.alt 9 (.take 10 5 <| .done) (.stop)) (.stop)) (.stop)) (.stop))) (.alt 5 (.alt 0 (.alt 1 (.alt 6 (.alt 9 (.take 10 5 <| .done) (.stop)) (.stop)) (.stop)) (.stop)) (.stop))) (by kernel_rfl) (by kernel_rfl) rfl 99 <| hpyU (y_fld rfl fa39_0 (by decide)) <| hpy (fun m => y_ld1 rfl ag3 ((m.blk 0 rfl).cells0 0 _ sup0)) <| hpyU (y_conv rfl Tryd.underlying3 Tryd.underlying5 hav) <| hpyU (y_fld rfl fa39_1 (by decide)) <| hpy (fun m => yV (y_ld1 rfl ag3 ((m.blk 0 rfl).cells0 1 _ sup1)) ((show Value.int .i64 s.gen = .int .i64 (s.gen.toNat : Int) by rw [← hg]))) <| ?_
    refine hpfork ?_ ?_
    · refine hpx (xh_bsl Tryd.underlying32 ti5 rfl rfl rfl (by simp [Value.cells, B8]) (by decide) (by decide) (fun g11 => ⟨(fun _ => wk [1] [] rfl rfl), ?_⟩))
      have hA_b11 : 0 < 4 → (some (⟨g11, 0, none⟩ : Addr)) ≠ none := fun _ h => by cases h
      refine hpfork ?_ ?_
      · refine hpx (xh_cvS 0 rfl rfl Tryd.underlying32 Tryd.underlying5 ⟨(fun _ => wk [1] [] rfl rfl), ?_⟩)
        refine hpx (xh_bsl Tryd.underlying32 ti5 rfl rfl rfl (by simp [Value.cells, B8]) (by decide) (by decide) (fun g16 => ⟨(fun _ => wk [2] [] rfl rfl), ?_⟩))
        have hA_b16 : 0 < 1 → (some (⟨g16, 0, none⟩ : Addr)) ≠ none := fun _ h => by cases h
        refine hpmem (fun w m => m.eqX 1 rfl (show _ = ROwn 5 1 (.slice (some ⟨g11, 0, none⟩) 4 4) 4 (b8s [76, 84, 83, 49]) from rfl)) ?_
        refine hpmem (fun w m => m.eqX 1 rfl (show _ = ROwn 5 1 (.slice (some ⟨g16, 0, none⟩) 1 1) 1 (b8s [UInt8.ofNat s.active.toNat]) from rfl)) ?_
        refine hpx (xh_app 1 rfl rfl rfl Tryd.underlying32 Tryd.underlying32 (by exact .inl rfl) ti5 rfl (fun m => Src.of_rd (m.ord 0 rfl)) b8s_one (by unfold maxLen; omega) (by omega) (fun u => ⟨(fun _ => wk [2] [] rfl rfl), ?_⟩))
        refine hpfact (fun m => (m.own 0 rfl).slice) ?_
        rintro ⟨A_b11, c_b11, rfl, hc_b11⟩
        refine hpfact (fun m => (m.ord 0 rfl).2.1) fun hA_b11 => ?_
        refine hpmem (fun w m => m.eqX 0 rfl (show _ = ROwn 5 1 (.slice A_b11 5 c_b11) 5 (b8s ([76, 84, 83, 49] ++ [UInt8.ofNat s.active.toNat])) from rfl)) ?_
        refine hpx (xh_call rfl Tryd.call61 (snumC (by decide) (by omega) (l := ([76, 84, 83, 49] ++ [UInt8.ofNat s.active.toNat])) (n := s.gen.toNat)) [0] rfl [] rfl ?_)
        rintro _ _ _ ⟨A1, c1, rfl, rfl, rfl⟩
        refine ⟨(fun _ => wk [2] [] rfl rfl), ?_⟩
        refine hpyU (y_assign rfl) <| hpend <| hsub (ρ' := [(4, _), (10, _), (3, _), (2, _), (1, _), (0, _)]) ⟨rfl, rfl, rfl, rfl, rfl, rfl, trivial⟩ <| hmemQ (X' := [_, _, _]) (S' := []) (fun _ m => m) <| hthen <| hseq <| hseq <| hreg <| hy (fun _ => y_fld rfl fa39_2 (by decide)) <| hy (fun m => yV (y_ldN rfl ag37 sz37 (by rw [List.length_append, Sl.cs_len h.w0, Sl.cs_len h.w1]) (fun j u hu => by rw [add_add]; exact (m.blk 2 rfl).cells0 (2 + j) u (sup_two hu))) ((rfl : _ = Value.agg (s.s0.cs ++ s.s1.cs).toArray))) <| hy (fun _ => y_move rfl) <| hend <| hsub (ρ' := [(23, _), (22, _), (4, _), (10, _), (3, _), (2, _), (1, _), (0, _)]) ⟨rfl, rfl, rfl, rfl, rfl, rfl, rfl, rfl, trivial⟩ <| hthen <| hblock <| ?_
        refine hmemC (fun w m => m.eqX 0 rfl (show _ = ROwn 5 1 (.slice A1 (9 + 37 * 0) c1) (9 + 37 * 0) (b8s (wpart s 0)) from by simp [wpart])) ?_
        refine hloop3 (fun i A2 c2 => 2 - i) (fun i A2 c2 => [(4, .slice A2 (9 + 37 * i) c2), (23, .int .i64 (i : Nat))]) (fun i A2 c2 => [ROwn 5 1 (.slice A2 (9 + 37 * i) c2) (9 + 37 * i) (b8s (wpart s i))]) (fun i A2 c2 => []) (fun i A2 c2 => i ≤ 2) 0 A1 c1 [(22, _), (10, _), (3, _), (2, _), (1, _), (0, _)] ⟨rfl, rfl, rfl, rfl, rfl, rfl, trivial⟩ [0] rfl [] rfl (Nat.zero_le _) ⟨rfl, rfl, trivial⟩ (fun i A2 c2 hi2 => ?_)
        refine hseq <| hreg <| hy (fun _ => y_lss rfl rfl) <| hend <| hthen <| hseq <| ?_
        refine hif rfl (fun hlt => ?_) (fun hlt => ?_)
        · have hi : i < 2 := by omega
          have hxw := Sup.at_wf h i
          obtain ⟨hz, hz1⟩ := may_size hm (i := i)
          have hat : ((s.s0.cs ++ s.s1.cs).drop (i * 34)).take 34 = (s.at i).cs := two_at h.w0 h.w1 hi
          have hws := wpart_succ (s := s) hi
          have hby : (s.at i).by_ = [if (s.at i).full then 1 else 0] ++ (s.at i).image ++ le4 (s.at i).size.toNat := by simp [Sl.by_]
          refine hcskip <| hthen <| hseq <| hblock <| hseq <| hreg <| ?_
          refine hy (fun m => yV (y_idxVN rfl rfl Tryd.underlying37 sz36 ag36 rfl hi) (congrArg (fun q => Value.agg q.toArray) hat)) ?_
          generalize hxe : s.at i = x at hxw hz hz1 hws hby ⊢
          refine hx (xh_alloc ti36 (fun g6 => ?_))
          refine hx0 (xh_stA 0 rfl rfl rfl sz36 (Sl.cs_len hxw) Sl.cs_one rfl ?_)
          refine hend <| hsub (ρ' := [(6, _), (24, _), (4, _), (23, _), (22, _), (10, _), (3, _), (2, _), (1, _), (0, _)]) ⟨rfl, rfl, rfl, rfl, rfl, rfl, rfl, rfl, rfl, rfl, trivial⟩ <| hmemQ (X' := [_, _, _, _]) (S' := []) (fun _ m => m) <| hthen <| hseq <| hreg <| hy (fun _ => y_assign rfl) <| hend <| hthen <| hseq <| hseq <| hreg <| hy (fun _ => y_fld rfl fa36_0 (by decide)) <| hy (fun m => y_ld1 rfl ag4 ((m.blk 0 rfl).cells0 0 _ sl0)) <| hend <| hsub (ρ' := [(27, _), (7, _), (6, _), (24, _), (4, _), (23, _), (22, _), (10, _), (3, _), (2, _), (1, _), (0, _)]) ⟨rfl, rfl, rfl, rfl, rfl, rfl, rfl, rfl, rfl, rfl, rfl, rfl, trivial⟩ <| hthen <| ?_
          have hbit : ∀ q : UInt8, (if x.full then 1 else 0) = q → x.by_ = [q] ++ x.image ++ le4 x.size.toNat := fun q hq => by rw [hby, hq]
          refine hifb rfl (fun hf => ?_) (fun hf => ?_)
          · refine hreg <| hy (fun _ => y_assign rfl) <| hend <| hthen <| hdrwB [0, 1, 1] [] rfl rfl [2, 3, 6, 9] [(0, some 1), (1, some 0), (4, some 2), (5, some 2), (7, some 3), (8, some 3), (2, none), (3, none), (6, none), (9, none), (10, some 4)] (by kernel_rfl) (by kernel_rfl) rfl 99 <| htyU (y_move rfl) <| htyU (y_move rfl) <| htyU (y_fld rfl fa36_1 (by decide)) <| htyU (y_slArr rfl Tryd.underlying23 sz5) <| htyU (y_fld rfl fa36_2 (by decide)) <| hty (fun m => yV (y_ld1 rfl ag3 ((m.blk 0 rfl).cells0 33 _ (sl33 hxw))) ((show Value.int .i64 x.size = .int .i64 (x.size.toNat : Int) by rw [← hz]))) <| ?_
            refine htx (xh_bsl Tryd.underlying32 ti5 rfl rfl rfl (by simp [Value.cells, B8]) (by decide) (by decide) (fun g30 => ⟨(fun _ => wk [1, 2, 2] [] rfl rfl), ?_⟩))
            have hA_b30 : 0 < 1 → (some (⟨g30, 0, none⟩ : Addr)) ≠ none := fun _ h => by cases h
            refine htmem (fun w m => m.eqX 0 rfl (show _ = ROwn 5 1 (.slice (some ⟨g30, 0, none⟩) 1 1) 1 (b8s [1]) from rfl)) ?_
            refine htx (xh_app 2 rfl rfl rfl Tryd.underlying32 Tryd.underlying32 (by exact .inl rfl) ti5 rfl (fun m => Src.of_rd (m.ord 0 rfl)) b8s_one (by unfold maxLen; omega) (by omega) (fun u2 => ⟨(fun _ => wk [2, 2, 2] [] rfl rfl), ?_⟩))
            refine htfact (fun m => (m.own 0 rfl).slice) ?_
            rintro ⟨A_b112, c_b112, rfl, hc_b11⟩
            refine htfact (fun m => (m.ord 0 rfl).2.1) fun hA_b11 => ?_
            refine htx (xh_app 0 rfl rfl rfl Tryd.underlying32 Tryd.underlying32 (by exact .inl rfl) ti5 rfl (fun m => Src.of_rd (rd_of_cells (xs := b8s x.image) (by rw [b8s_length, hxw.len]) (fun j u hu => by rw [add_add]; exact (m.blk 2 rfl).cells0 (1 + j) u (sl_im hu)))) b8s_one (by unfold maxLen; omega) (by omega) (fun u3 => ⟨(fun _ => wk [2, 2, 2] [] rfl rfl), ?_⟩))
            refine htfact (fun m => (m.own 0 rfl).slice) ?_
            rintro ⟨A_b113, c_b113, rfl, hc_b11⟩
            refine htfact (fun m => (m.ord 0 rfl).2.1) fun hA_b11 => ?_
            rw [show 9 + 37 * i + 1 + 32 = 9 + 37 * i + 33 by omega]
            refine htmem (fun w m => m.eqX 0 rfl (show _ = ROwn 5 1 (.slice A_b113 (9 + 37 * i + 33) c_b113) (9 + 37 * i + 33) (b8s (wpart s i ++ ([1] ++ x.image))) from by simp [b8s, Nat.add_assoc])) ?_
            refine htx (xh_call rfl Tryd.call61 (snumC (by omega) (by omega) (l := (wpart s i ++ ([1] ++ x.image))) (n := x.size.toNat)) [0] rfl [] rfl ?_)
            rintro _ _ _ ⟨A12, c12, rfl, rfl, rfl⟩
            refine ⟨(fun _ => wk [2, 2, 2] [] rfl rfl), ?_⟩
            refine htyU (y_assign rfl) <| htend <| hsub (ρ' := [(4, _), (7, _), (27, _), (6, _), (24, _), (23, _), (22, _), (10, _), (3, _), (2, _), (1, _), (0, _)]) ⟨rfl, rfl, rfl, rfl, rfl, rfl, rfl, rfl, rfl, rfl, rfl, rfl, trivial⟩ <| hmemQ (X' := [_, _, _, _, _]) (S' := []) (fun _ m => m) <| hqblock <| hthen <| hreg <| hy (fun _ => y_add rfl rfl (w64 (by omega) (by omega))) <| hy (fun _ => y_move rfl) <| hend <| hsub (ρ' := [(23, _), (4, _), (7, _), (27, _), (6, _), (24, _), (22, _), (10, _), (3, _), (2, _), (1, _), (0, _)]) ⟨rfl, rfl, rfl, rfl, rfl, rfl, rfl, rfl, rfl, rfl, rfl, rfl, trivial⟩ <| ?_
            rw [show 9 + 37 * i + 33 + 4 = 9 + 37 * (i + 1) by omega]
            refine hmemQ (fun w m => m.eqX 0 rfl (show _ = ROwn 5 1 (.slice A12 (9 + 37 * (i + 1)) c12) (9 + 37 * (i + 1)) (b8s (wpart s (i + 1))) from by rw [hws, hbit 1 (by rw [hf]; rfl), List.append_assoc (wpart s i)])) ?_
            refine hnext3 (i + 1) A12 c12 ⟨rfl, rfl, rfl, rfl, rfl, rfl, rfl, rfl, trivial⟩ [0, 2, 2] rfl [] rfl (by omega) (by omega)
          · refine hcskip <| hthen <| hdrwB [0, 1, 1] [] rfl rfl [2, 3, 6, 9] [(0, some 1), (1, some 0), (4, some 2), (5, some 2), (7, some 3), (8, some 3), (2, none), (3, none), (6, none), (9, none), (10, some 4)] (by kernel_rfl) (by kernel_rfl) rfl 99 <| htyU (y_move rfl) <| htyU (y_move rfl) <| htyU (y_fld rfl fa36_1 (by decide)) <| htyU (y_slArr rfl Tryd.underlying23 sz5) <| htyU (y_fld rfl fa36_2 (by decide)) <| hty (fun m => yV (y_ld1 rfl ag3 ((m.blk 0 rfl).cells0 33 _ (sl33 hxw))) ((show Value.int .i64 x.size = .int .i64 (x.size.toNat : Int) by rw [← hz]))) <| ?_
            refine htx (xh_bsl Tryd.underlying32 ti5 rfl rfl rfl (by simp [Value.cells, B8]) (by decide) (by decide) (fun g30 => ⟨(fun _ => wk [1, 2, 2] [] rfl rfl), ?_⟩))
            have hA_b30 : 0 < 1 → (some (⟨g30, 0, none⟩ : Addr)) ≠ none := fun _ h => by cases h
            refine htmem (fun w m => m.eqX 0 rfl (show _ = ROwn 5 1 (.slice (some ⟨g30, 0, none⟩) 1 1) 1 (b8s [0]) from rfl)) ?_
            refine htx (xh_app 2 rfl rfl rfl Tryd.underlying32 Tryd.underlying32 (by exact .inl rfl) ti5 rfl (fun m => Src.of_rd (m.ord 0 rfl)) b8s_one (by unfold maxLen; omega) (by omega) (fun u2 => ⟨(fun _ => wk [2, 2, 2] [] rfl rfl), ?_⟩))
            refine htfact (fun m => (m.own 0 rfl).slice) ?_
            rintro ⟨A_b112, c_b112, rfl, hc_b11⟩
            refine htfact (fun m => (m.ord 0 rfl).2.1) fun hA_b11 => ?_
            refine htx (xh_app 0 rfl rfl rfl Tryd.underlying32 Tryd.underlying32 (by exact .inl rfl) ti5 rfl (fun m => Src.of_rd (rd_of_cells (xs := b8s x.image) (by rw [b8s_length, hxw.len]) (fun j u hu => by rw [add_add]; exact (m.blk 2 rfl).cells0 (1 + j) u (sl_im hu)))) b8s_one (by unfold maxLen; omega) (by omega) (fun u3 => ⟨(fun _ => wk [2, 2, 2] [] rfl rfl), ?_⟩))
            refine htfact (fun m => (m.own 0 rfl).slice) ?_
            rintro ⟨A_b113, c_b113, rfl, hc_b11⟩
            refine htfact (fun m => (m.ord 0 rfl).2.1) fun hA_b11 => ?_
            rw [show 9 + 37 * i + 1 + 32 = 9 + 37 * i + 33 by omega]
            refine htmem (fun w m => m.eqX 0 rfl (show _ = ROwn 5 1 (.slice A_b113 (9 + 37 * i + 33) c_b113) (9 + 37 * i + 33) (b8s (wpart s i ++ ([0] ++ x.image))) from by simp [b8s, Nat.add_assoc])) ?_
            refine htx (xh_call rfl Tryd.call61 (snumC (by omega) (by omega) (l := (wpart s i ++ ([0] ++ x.image))) (n := x.size.toNat)) [0] rfl [] rfl ?_)
            rintro _ _ _ ⟨A12, c12, rfl, rfl, rfl⟩
            refine ⟨(fun _ => wk [2, 2, 2] [] rfl rfl), ?_⟩
            refine htyU (y_assign rfl) <| htend <| hsub (ρ' := [(4, _), (27, _), (7, _), (6, _), (24, _), (23, _), (22, _), (10, _), (3, _), (2, _), (1, _), (0, _)]) ⟨rfl, rfl, rfl, rfl, rfl, rfl, rfl, rfl, rfl, rfl, rfl, rfl, trivial⟩ <| hmemQ (X' := [_, _, _, _, _]) (S' := []) (fun _ m => m) <| hqblock <| hthen <| hreg <| hy (fun _ => y_add rfl rfl (w64 (by omega) (by omega))) <| hy (fun _ => y_move rfl) <| hend <| hsub (ρ' := [(23, _), (4, _), (27, _), (7, _), (6, _), (24, _), (22, _), (10, _), (3, _), (2, _), (1, _), (0, _)]) ⟨rfl, rfl, rfl, rfl, rfl, rfl, rfl, rfl, rfl, rfl, rfl, rfl, trivial⟩ <| ?_
            rw [show 9 + 37 * i + 33 + 4 = 9 + 37 * (i + 1) by omega]
            refine hmemQ (fun w m => m.eqX 0 rfl (show _ = ROwn 5 1 (.slice A12 (9 + 37 * (i + 1)) c12) (9 + 37 * (i + 1)) (b8s (wpart s (i + 1))) from by rw [hws, hbit 0 (by rw [show x.full = false by simpa using hf]; rfl), List.append_assoc (wpart s i)])) ?_
            refine hnext3 (i + 1) A12 c12 ⟨rfl, rfl, rfl, rfl, rfl, rfl, rfl, rfl, trivial⟩ [0, 2, 2] rfl [] rfl (by omega) (by omega)
        · obtain rfl : i = 2 := by omega
          have hbd : wpart s 2 = s.body := by simp [wpart, Sup.body]
          rw [hbd]
          refine hexit <| hthen_exit <| hthen_exit <| hqblock_exit <| hthen <| hseq <| hreg <| hy (fun _ => y_move rfl) <| ?_
          refine hx (xh_calll rfl Tryd.call62 (crcPutC (by omega) (n := 83) (l := s.body)) [] rfl (.x 0 rfl .own .nil) ?_)
          rintro _ _ _ ⟨v, rfl, rfl, rfl⟩
          refine ⟨rfl, ?_⟩
          refine hfactL (fun m => (m.own 0 rfl).slice) ?_
          rintro ⟨A_x, c_x, rfl, hc_x⟩
          refine hfactL (fun m => (m.ord 0 rfl).2.1) fun hA_x => ?_
          refine hy (fun _ => y_assign rfl) <| hy (fun _ => y_assign rfl) <| hend <| hsub (ρ' := [(3, _), (2, _), (24, _), (4, _), (23, _), (22, _), (10, _), (1, _), (0, _)]) ⟨rfl, rfl, rfl, rfl, rfl, rfl, rfl, rfl, rfl, trivial⟩ <| hmemQ (X' := [_, _, _, _]) (S' := []) (fun _ m => m) <| hthen <| hret <| ?_
          exact hret2 trivial rfl rfl rfl [0] rfl [] rfl ⟨_, rfl, (by rw [Sup.bytes_len h]; rfl), rfl⟩
      · refine hpx (xh_bsl Tryd.underlying32 ti5 rfl rfl rfl (by simp [Value.cells, B8]) (by decide) (by decide) (fun g16 => ⟨(fun _ => wk [2] [] rfl rfl), ?_⟩))
        have hA_b16 : 0 < 1 → (some (⟨g16, 0, none⟩ : Addr)) ≠ none := fun _ h => by cases h
        refine hpx (xh_cvS 1 rfl rfl Tryd.underlying32 Tryd.underlying5 ⟨(fun _ => wk [2] [] rfl rfl), ?_⟩)
        refine hpmem (fun w m => m.eqX 0 rfl (show _ = ROwn 5 1 (.slice (some ⟨g11, 0, none⟩) 4 4) 4 (b8s [76, 84, 83, 49]) from rfl)) ?_
        refine hpmem (fun w m => m.eqX 1 rfl (show _ = ROwn 5 1 (.slice (some ⟨g16, 0, none⟩) 1 1) 1 (b8s [UInt8.ofNat s.active.toNat]) from rfl)) ?_
        refine hpx (xh_app 1 rfl rfl rfl Tryd.underlying32 Tryd.underlying32 (by exact .inl rfl) ti5 rfl (fun m => Src.of_rd (m.ord 0 rfl)) b8s_one (by unfold maxLen; omega) (by omega) (fun u => ⟨(fun _ => wk [2] [] rfl rfl), ?_⟩))
        refine hpfact (fun m => (m.own 0 rfl).slice) ?_
        rintro ⟨A_b11, c_b11, rfl, hc_b11⟩
        refine hpfact (fun m => (m.ord 0 rfl).2.1) fun hA_b11 => ?_
        refine hpmem (fun w m => m.eqX 0 rfl (show _ = ROwn 5 1 (.slice A_b11 5 c_b11) 5 (b8s ([76, 84, 83, 49] ++ [UInt8.ofNat s.active.toNat])) from rfl)) ?_
        refine hpx (xh_call rfl Tryd.call61 (snumC (by decide) (by omega) (l := ([76, 84, 83, 49] ++ [UInt8.ofNat s.active.toNat])) (n := s.gen.toNat)) [0] rfl [] rfl ?_)
        rintro _ _ _ ⟨A1, c1, rfl, rfl, rfl⟩
        refine ⟨(fun _ => wk [2] [] rfl rfl), ?_⟩
        refine hpyU (y_assign rfl) <| hpend <| hsub (ρ' := [(4, _), (10, _), (3, _), (2, _), (1, _), (0, _)]) ⟨rfl, rfl, rfl, rfl, rfl, rfl, trivial⟩ <| hmemQ (X' := [_, _, _]) (S' := []) (fun _ m => m) <| hthen <| hseq <| hseq <| hreg <| hy (fun _ => y_fld rfl fa39_2 (by decide)) <| hy (fun m => yV (y_ldN rfl ag37 sz37 (by rw [List.length_append, Sl.cs_len h.w0, Sl.cs_len h.w1]) (fun j u hu => by rw [add_add]; exact (m.blk 2 rfl).cells0 (2 + j) u (sup_two hu))) ((rfl : _ = Value.agg (s.s0.cs ++ s.s1.cs).toArray))) <| hy (fun _ => y_move rfl) <| hend <| hsub (ρ' := [(23, _), (22, _), (4, _), (10, _), (3, _), (2, _), (1, _), (0, _)]) ⟨rfl, rfl, rfl, rfl, rfl, rfl, rfl, rfl, trivial⟩ <| hthen <| hblock <| ?_
        refine hmemC (fun w m => m.eqX 0 rfl (show _ = ROwn 5 1 (.slice A1 (9 + 37 * 0) c1) (9 + 37 * 0) (b8s (wpart s 0)) from by simp [wpart])) ?_
        refine hloop3 (fun i A2 c2 => 2 - i) (fun i A2 c2 => [(4, .slice A2 (9 + 37 * i) c2), (23, .int .i64 (i : Nat))]) (fun i A2 c2 => [ROwn 5 1 (.slice A2 (9 + 37 * i) c2) (9 + 37 * i) (b8s (wpart s i))]) (fun i A2 c2 => []) (fun i A2 c2 => i ≤ 2) 0 A1 c1 [(22, _), (10, _), (3, _), (2, _), (1, _), (0, _)] ⟨rfl, rfl, rfl, rfl, rfl, rfl, trivial⟩ [0] rfl [] rfl (Nat.zero_le _) ⟨rfl, rfl, trivial⟩ (fun i A2 c2 hi2 => ?_)
        refine hseq <| hreg <| hy (fun _ => y_lss rfl rfl) <| hend <| hthen <| hseq <| ?_
        refine hif rfl (fun hlt => ?_) (fun hlt => ?_)
        · have hi : i < 2 := by omega
          have hxw := Sup.at_wf h i
          obtain ⟨hz, hz1⟩ := may_size hm (i := i)
          have hat : ((s.s0.cs ++ s.s1.cs).drop (i * 34)).take 34 = (s.at i).cs := two_at h.w0 h.w1 hi
          have hws := wpart_succ (s := s) hi
          have hby : (s.at i).by_ = [if (s.at i).full then 1 else 0] ++ (s.at i).image ++ le4 (s.at i).size.toNat := by simp [Sl.by_]
          refine hcskip <| hthen <| hseq <| hblock <| hseq <| hreg <| ?_
          refine hy (fun m => yV (y_idxVN rfl rfl Tryd.underlying37 sz36 ag36 rfl hi) (congrArg (fun q => Value.agg q.toArray) hat)) ?_
          generalize hxe : s.at i = x at hxw hz hz1 hws hby ⊢
          refine hx (xh_alloc ti36 (fun g6 => ?_))
          refine hx0 (xh_stA 0 rfl rfl rfl sz36 (Sl.cs_len hxw) Sl.cs_one rfl ?_)
          refine hend <| hsub (ρ' := [(6, _), (24, _), (4, _), (23, _), (22, _), (10, _), (3, _), (2, _), (1, _), (0, _)]) ⟨rfl, rfl, rfl, rfl, rfl, rfl, rfl, rfl, rfl, rfl, trivial⟩ <| hmemQ (X' := [_, _, _, _]) (S' := []) (fun _ m => m) <| hthen <| hseq <| hreg <| hy (fun _ => y_assign rfl) <| hend <| hthen <| hseq <| hseq <| hreg <| hy (fun _ => y_fld rfl fa36_0 (by decide)) <| hy (fun m => y_ld1 rfl ag4 ((m.blk 0 rfl).cells0 0 _ sl0)) <| hend <| hsub (ρ' := [(27, _), (7, _), (6, _), (24, _), (4, _), (23, _), (22, _), (10, _), (3, _), (2, _), (1, _), (0, _)]) ⟨rfl, rfl, rfl, rfl, rfl, rfl, rfl, rfl, rfl, rfl, rfl, rfl, trivial⟩ <| hthen <| ?_
          have hbit : ∀ q : UInt8, (if x.full then 1 else 0) = q → x.by_ = [q] ++ x.image ++ le4 x.size.toNat := fun q hq => by rw [hby, hq]
          refine hifb rfl (fun hf => ?_) (fun hf => ?_)
          · refine hreg <| hy (fun _ => y_assign rfl) <| hend <| hthen <| hdrwB [0, 1, 1] [] rfl rfl [2, 3, 6, 9] [(0, some 1), (1, some 0), (4, some 2), (5, some 2), (7, some 3), (8, some 3), (2, none), (3, none), (6, none), (9, none), (10, some 4)] (by kernel_rfl) (by kernel_rfl) rfl 99 <| htyU (y_move rfl) <| htyU (y_move rfl) <| htyU (y_fld rfl fa36_1 (by decide)) <| htyU (y_slArr rfl Tryd.underlying23 sz5) <| htyU (y_fld rfl fa36_2 (by decide)) <| hty (fun m => yV (y_ld1 rfl ag3 ((m.blk 0 rfl).cells0 33 _ (sl33 hxw))) ((show Value.int .i64 x.size = .int .i64 (x.size.toNat : Int) by rw [← hz]))) <| ?_
            refine htx (xh_bsl Tryd.underlying32 ti5 rfl rfl rfl (by simp [Value.cells, B8]) (by decide) (by decide) (fun g30 => ⟨(fun _ => wk [1, 2, 2] [] rfl rfl), ?_⟩))
            have hA_b30 : 0 < 1 → (some (⟨g30, 0, none⟩ : Addr)) ≠ none := fun _ h => by cases h
            refine htmem (fun w m => m.eqX 0 rfl (show _ = ROwn 5 1 (.slice (some ⟨g30, 0, none⟩) 1 1) 1 (b8s [1]) from rfl)) ?_
            refine htx (xh_app 2 rfl rfl rfl Tryd.underlying32 Tryd.underlying32 (by exact .inl rfl) ti5 rfl (fun m => Src.of_rd (m.ord 0 rfl)) b8s_one (by unfold maxLen; omega) (by omega) (fun u2 => ⟨(fun _ => wk [2, 2, 2] [] rfl rfl), ?_⟩))
            refine htfact (fun m => (m.own 0 rfl).slice) ?_
            rintro ⟨A_b112, c_b112, rfl, hc_b11⟩
            refine htfact (fun m => (m.ord 0 rfl).2.1) fun hA_b11 => ?_
            refine htx (xh_app 0 rfl rfl rfl Tryd.underlying32 Tryd.underlying32 (by exact .inl rfl) ti5 rfl (fun m => Src.of_rd (rd_of_cells (xs := b8s x.image) (by rw [b8s_length, hxw.len]) (fun j u hu => by rw [add_add]; exact (m.blk 2 rfl).cells0 (1 + j) u (sl_im hu)))) b8s_one (by unfold maxLen; omega) (by omega) (fun u3 => ⟨(fun _ => wk [2, 2, 2] [] rfl rfl), ?_⟩))
            refine htfact (fun m => (m.own 0 rfl).slice) ?_
            rintro ⟨A_b113, c_b113, rfl, hc_b11⟩
            refine htfact (fun m => (m.ord 0 rfl).2.1) fun hA_b11 => ?_
            rw [show 9 + 37 * i + 1 + 32 = 9 + 37 * i + 33 by omega]
            refine htmem (fun w m => m.eqX 0 rfl (show _ = ROwn 5 1 (.slice A_b113 (9 + 37 * i + 33) c_b113) (9 + 37 * i + 33) (b8s (wpart s i ++ ([1] ++ x.image))) from by simp [b8s, Nat.add_assoc])) ?_
            refine htx (xh_call rfl Tryd.call61 (snumC (by omega) (by omega) (l := (wpart s i ++ ([1] ++ x.image))) (n := x.size.toNat)) [0] rfl [] rfl ?_)
            rintro _ _ _ ⟨A12, c12, rfl, rfl, rfl⟩
            refine ⟨(fun _ => wk [2, 2, 2] [] rfl rfl), ?_⟩
            refine htyU (y_assign rfl) <| htend <| hsub (ρ' := [(4, _), (7, _), (27, _), (6, _), (24, _), (23, _), (22, _), (10, _), (3, _), (2, _), (1, _), (0, _)]) ⟨rfl, rfl, rfl, rfl, rfl, rfl, rfl, rfl, rfl, rfl, rfl, rfl, trivial⟩ <| hmemQ (X' := [_, _, _, _, _]) (S' := []) (fun _ m => m) <| hqblock <| hthen <| hreg <| hy (fun _ => y_add rfl rfl (w64 (by omega) (by omega))) <| hy (fun _ => y_move rfl) <| hend <| hsub (ρ' := [(23, _), (4, _), (7, _), (27, _), (6, _), (24, _), (22, _), (10, _), (3, _), (2, _), (1, _), (0, _)]) ⟨rfl, rfl, rfl, rfl, rfl, rfl, rfl, rfl, rfl, rfl, rfl, rfl, trivial⟩ <| ?_
            rw [show 9 + 37 * i + 33 + 4 = 9 + 37 * (i + 1) by omega]
            refine hmemQ (fun w m => m.eqX 0 rfl (show _ = ROwn 5 1 (.slice A12 (9 + 37 * (i + 1)) c12) (9 + 37 * (i + 1)) (b8s (wpart s (i + 1))) from by rw [hws, hbit 1 (by rw [hf]; rfl), List.append_assoc (wpart s i)])) ?_
            refine hnext3 (i + 1) A12 c12 ⟨rfl, rfl, rfl, rfl, rfl, rfl, rfl, rfl, trivial⟩ [0, 2, 2] rfl [] rfl (by omega) (by omega)
          · refine hcskip <| hthen <| hdrwB [0, 1, 1] [] rfl rfl [2, 3, 6, 9] [(0, some 1), (1, some 0), (4, some 2), (5, some 2), (7, some 3), (8, some 3), (2, none), (3, none), (6, none), (9, none), (10, some 4)] (by kernel_rfl) (by kernel_rfl) rfl 99 <| htyU (y_move rfl) <| htyU (y_move rfl) <| htyU (y_fld rfl fa36_1 (by decide)) <| htyU (y_slArr rfl Tryd.underlying23 sz5) <| htyU (y_fld rfl fa36_2 (by decide)) <| hty (fun m => yV (y_ld1 rfl ag3 ((m.blk 0 rfl).cells0 33 _ (sl33 hxw))) ((show Value.int .i64 x.size = .int .i64 (x.size.toNat : Int) by rw [← hz]))) <| ?_
            refine htx (xh_bsl Tryd.underlying32 ti5 rfl rfl rfl (by simp [Value.cells, B8]) (by decide) (by decide) (fun g30 => ⟨(fun _ => wk [1, 2, 2] [] rfl rfl), ?_⟩))
            have hA_b30 : 0 < 1 → (some (⟨g30, 0, none⟩ : Addr)) ≠ none := fun _ h => by cases h
            refine htmem (fun w m => m.eqX 0 rfl (show _ = ROwn 5 1 (.slice (some ⟨g30, 0, none⟩) 1 1) 1 (b8s [0]) from rfl)) ?_
            refine htx (xh_app 2 rfl rfl rfl Tryd.underlying32 Tryd.underlying32 (by exact .inl rfl) ti5 rfl (fun m => Src.of_rd (m.ord 0 rfl)) b8s_one (by unfold maxLen; omega) (by omega) (fun u2 => ⟨(fun _ => wk [2, 2, 2] [] rfl rfl), ?_⟩))
            refine htfact (fun m => (m.own 0 rfl).slice) ?_
            rintro ⟨A_b112, c_b112, rfl, hc_b11⟩
            refine htfact (fun m => (m.ord 0 rfl).2.1) fun hA_b11 => ?_
            refine htx (xh_app 0 rfl rfl rfl Tryd.underlying32 Tryd.underlying32 (by exact .inl rfl) ti5 rfl (fun m => Src.of_rd (rd_of_cells (xs := b8s x.image) (by rw [b8s_length, hxw.len]) (fun j u hu => by rw [add_add]; exact (m.blk 2 rfl).cells0 (1 + j) u (sl_im hu)))) b8s_one (by unfold maxLen; omega) (by omega) (fun u3 => ⟨(fun _ => wk [2, 2, 2] [] rfl rfl), ?_⟩))
            refine htfact (fun m => (m.own 0 rfl).slice) ?_
            rintro ⟨A_b113, c_b113, rfl, hc_b11⟩
            refine htfact (fun m => (m.ord 0 rfl).2.1) fun hA_b11 => ?_
            rw [show 9 + 37 * i + 1 + 32 = 9 + 37 * i + 33 by omega]
            refine htmem (fun w m => m.eqX 0 rfl (show _ = ROwn 5 1 (.slice A_b113 (9 + 37 * i + 33) c_b113) (9 + 37 * i + 33) (b8s (wpart s i ++ ([0] ++ x.image))) from by simp [b8s, Nat.add_assoc])) ?_
            refine htx (xh_call rfl Tryd.call61 (snumC (by omega) (by omega) (l := (wpart s i ++ ([0] ++ x.image))) (n := x.size.toNat)) [0] rfl [] rfl ?_)
            rintro _ _ _ ⟨A12, c12, rfl, rfl, rfl⟩
            refine ⟨(fun _ => wk [2, 2, 2] [] rfl rfl), ?_⟩
            refine htyU (y_assign rfl) <| htend <| hsub (ρ' := [(4, _), (27, _), (7, _), (6, _), (24, _), (23, _), (22, _), (10, _), (3, _), (2, _), (1, _), (0, _)]) ⟨rfl, rfl, rfl, rfl, rfl, rfl, rfl, rfl, rfl, rfl, rfl, rfl, trivial⟩ <| hmemQ (X' := [_, _, _, _, _]) (S' := []) (fun _ m => m) <| hqblock <| hthen <| hreg <| hy (fun _ => y_add rfl rfl (w64 (by omega) (by omega))) <| hy (fun _ => y_move rfl) <| hend <| hsub (ρ' := [(23, _), (4, _), (27, _), (7, _), (6, _), (24, _), (22, _), (10, _), (3, _), (2, _), (1, _), (0, _)]) ⟨rfl, rfl, rfl, rfl, rfl, rfl, rfl, rfl, rfl, rfl, rfl, rfl, trivial⟩ <| ?_
            rw [show 9 + 37 * i + 33 + 4 = 9 + 37 * (i + 1) by omega]
            refine hmemQ (fun w m => m.eqX 0 rfl (show _ = ROwn 5 1 (.slice A12 (9 + 37 * (i + 1)) c12) (9 + 37 * (i + 1)) (b8s (wpart s (i + 1))) from by rw [hws, hbit 0 (by rw [show x.full = false by simpa using hf]; rfl), List.append_assoc (wpart s i)])) ?_
            refine hnext3 (i + 1) A12 c12 ⟨rfl, rfl, rfl, rfl, rfl, rfl, rfl, rfl, trivial⟩ [0, 2, 2] rfl [] rfl (by omega) (by omega)
        · obtain rfl : i = 2 := by omega
          have hbd : wpart s 2 = s.body := by simp [wpart, Sup.body]
          rw [hbd]
          refine hexit <| hthen_exit <| hthen_exit <| hqblock_exit <| hthen <| hseq <| hreg <| hy (fun _ => y_move rfl) <| ?_
          refine hx (xh_calll rfl Tryd.call62 (crcPutC (by omega) (n := 83) (l := s.body)) [] rfl (.x 0 rfl .own .nil) ?_)
          rintro _ _ _ ⟨v, rfl, rfl, rfl⟩
          refine ⟨rfl, ?_⟩
          refine hfactL (fun m => (m.own 0 rfl).slice) ?_
          rintro ⟨A_x, c_x, rfl, hc_x⟩
          refine hfactL (fun m => (m.ord 0 rfl).2.1) fun hA_x => ?_
          refine hy (fun _ => y_assign rfl) <| hy (fun _ => y_assign rfl) <| hend <| hsub (ρ' := [(3, _), (2, _), (24, _), (4, _), (23, _), (22, _), (10, _), (1, _), (0, _)]) ⟨rfl, rfl, rfl, rfl, rfl, rfl, rfl, rfl, rfl, trivial⟩ <| hmemQ (X' := [_, _, _, _]) (S' := []) (fun _ m => m) <| hthen <| hret <| ?_
          exact hret2 trivial rfl rfl rfl [0] rfl [] rfl ⟨_, rfl, (by rw [Sup.bytes_len h]; rfl), rfl⟩
    · refine hpx (xh_bsl Tryd.underlying32 ti5 rfl rfl rfl (by simp [Value.cells, B8]) (by decide) (by decide) (fun g16 => ⟨(fun _ => wk [1] [] rfl rfl), ?_⟩))
      have hA_b16 : 0 < 1 → (some (⟨g16, 0, none⟩ : Addr)) ≠ none := fun _ h => by cases h
      refine hpx (xh_bsl Tryd.underlying32 ti5 rfl rfl rfl (by simp [Value.cells, B8]) (by decide) (by decide) (fun g11 => ⟨(fun _ => wk [2] [] rfl rfl), ?_⟩))
      have hA_b11 : 0 < 4 → (some (⟨g11, 0, none⟩ : Addr)) ≠ none := fun _ h => by cases h
      refine hpx (xh_cvS 0 rfl rfl Tryd.underlying32 Tryd.underlying5 ⟨(fun _ => wk [2] [] rfl rfl), ?_⟩)
      refine hpmem (fun w m => m.eqX 0 rfl (show _ = ROwn 5 1 (.slice (some ⟨g11, 0, none⟩) 4 4) 4 (b8s [76, 84, 83, 49]) from rfl)) ?_
      refine hpmem (fun w m => m.eqX 1 rfl (show _ = ROwn 5 1 (.slice (some ⟨g16, 0, none⟩) 1 1) 1 (b8s [UInt8.ofNat s.active.toNat]) from rfl)) ?_
      refine hpx (xh_app 1 rfl rfl rfl Tryd.underlying32 Tryd.underlying32 (by exact .inl rfl) ti5 rfl (fun m => Src.of_rd (m.ord 0 rfl)) b8s_one (by unfold maxLen; omega) (by omega) (fun u => ⟨(fun _ => wk [2] [] rfl rfl), ?_⟩))
      refine hpfact (fun m => (m.own 0 rfl).slice) ?_
      rintro ⟨A_b11, c_b11, rfl, hc_b11⟩
      refine hpfact (fun m => (m.ord 0 rfl).2.1) fun hA_b11 => ?_
      refine hpmem (fun w m => m.eqX 0 rfl (show _ = ROwn 5 1 (.slice A_b11 5 c_b11) 5 (b8s ([76, 84, 83, 49] ++ [UInt8.ofNat s.active.toNat])) from rfl)) ?_
      refine hpx (xh_call rfl Tryd.call61 (snumC (by decide) (by omega) (l := ([76, 84, 83, 49] ++ [UInt8.ofNat s.active.toNat])) (n := s.gen.toNat)) [0] rfl [] rfl ?_)
      rintro _ _ _ ⟨A1, c1, rfl, rfl, rfl⟩
      refine ⟨(fun _ => wk [2] [] rfl rfl), ?_⟩
      refine hpyU (y_assign rfl) <| hpend <| hsub (ρ' := [(4, _), (10, _), (3, _), (2, _), (1, _), (0, _)]) ⟨rfl, rfl, rfl, rfl, rfl, rfl, trivial⟩ <| hmemQ (X' := [_, _, _]) (S' := []) (fun _ m => m) <| hthen <| hseq <| hseq <| hreg <| hy (fun _ => y_fld rfl fa39_2 (by decide)) <| hy (fun m => yV (y_ldN rfl ag37 sz37 (by rw [List.length_append, Sl.cs_len h.w0, Sl.cs_len h.w1]) (fun j u hu => by rw [add_add]; exact (m.blk 2 rfl).cells0 (2 + j) u (sup_two hu))) ((rfl : _ = Value.agg (s.s0.cs ++ s.s1.cs).toArray))) <| hy (fun _ => y_move rfl) <| hend <| hsub (ρ' := [(23, _), (22, _), (4, _), (10, _), (3, _), (2, _), (1, _), (0, _)]) ⟨rfl, rfl, rfl, rfl, rfl, rfl, rfl, rfl, trivial⟩ <| hthen <| hblock <| ?_
      refine hmemC (fun w m => m.eqX 0 rfl (show _ = ROwn 5 1 (.slice A1 (9 + 37 * 0) c1) (9 + 37 * 0) (b8s (wpart s 0)) from by simp [wpart])) ?_
      refine hloop3 (fun i A2 c2 => 2 - i) (fun i A2 c2 => [(4, .slice A2 (9 + 37 * i) c2), (23, .int .i64 (i : Nat))]) (fun i A2 c2 => [ROwn 5 1 (.slice A2 (9 + 37 * i) c2) (9 + 37 * i) (b8s (wpart s i))]) (fun i A2 c2 => []) (fun i A2 c2 => i ≤ 2) 0 A1 c1 [(22, _), (10, _), (3, _), (2, _), (1, _), (0, _)] ⟨rfl, rfl, rfl, rfl, rfl, rfl, trivial⟩ [0] rfl [] rfl (Nat.zero_le _) ⟨rfl, rfl, trivial⟩ (fun i A2 c2 hi2 => ?_)
      refine hseq <| hreg <| hy (fun _ => y_lss rfl rfl) <| hend <| hthen <| hseq <| ?_
      refine hif rfl (fun hlt => ?_) (fun hlt => ?_)
      · have hi : i < 2 := by omega
        have hxw := Sup.at_wf h i
        obtain ⟨hz, hz1⟩ := may_size hm (i := i)
        have hat : ((s.s0.cs ++ s.s1.cs).drop (i * 34)).take 34 = (s.at i).cs := two_at h.w0 h.w1 hi
        have hws := wpart_succ (s := s) hi
        have hby : (s.at i).by_ = [if (s.at i).full then 1 else 0] ++ (s.at i).image ++ le4 (s.at i).size.toNat := by simp [Sl.by_]
        refine hcskip <| hthen <| hseq <| hblock <| hseq <| hreg <| ?_
        refine hy (fun m => yV (y_idxVN rfl rfl Tryd.underlying37 sz36 ag36 rfl hi) (congrArg (fun q => Value.agg q.toArray) hat)) ?_
        generalize hxe : s.at i = x at hxw hz hz1 hws hby ⊢
        refine hx (xh_alloc ti36 (fun g6 => ?_))
        refine hx0 (xh_stA 0 rfl rfl rfl sz36 (Sl.cs_len hxw) Sl.cs_one rfl ?_)
        refine hend <| hsub (ρ' := [(6, _), (24, _), (4, _), (23, _), (22, _), (10, _), (3, _), (2, _), (1, _), (0, _)]) ⟨rfl, rfl, rfl, rfl, rfl, rfl, rfl, rfl, rfl, rfl, trivial⟩ <| hmemQ (X' := [_, _, _, _]) (S' := []) (fun _ m => m) <| hthen <| hseq <| hreg <| hy (fun _ => y_assign rfl) <| hend <| hthen <| hseq <| hseq <| hreg <| hy (fun _ => y_fld rfl fa36_0 (by decide)) <| hy (fun m => y_ld1 rfl ag4 ((m.blk 0 rfl).cells0 0 _ sl0)) <| hend <| hsub (ρ' := [(27, _), (7, _), (6, _), (24, _), (4, _), (23, _), (22, _), (10, _), (3, _), (2, _), (1, _), (0, _)]) ⟨rfl, rfl, rfl, rfl, rfl, rfl, rfl, rfl, rfl, rfl, rfl, rfl, trivial⟩ <| hthen <| ?_
        have hbit : ∀ q : UInt8, (if x.full then 1 else 0) = q → x.by_ = [q] ++ x.image ++ le4 x.size.toNat := fun q hq => by rw [hby, hq]
        refine hifb rfl (fun hf => ?_) (fun hf => ?_)
        · refine hreg <| hy (fun _ => y_assign rfl) <| hend <| hthen <| hdrwB [0, 1, 1] [] rfl rfl [2, 3, 6, 9] [(0, some 1), (1, some 0), (4, some 2), (5, some 2), (7, some 3), (8, some 3), (2, none), (3, none), (6, none), (9, none), (10, some 4)] (by kernel_rfl) (by kernel_rfl) rfl 99 <| htyU (y_move rfl) <| htyU (y_move rfl) <| htyU (y_fld rfl fa36_1 (by decide)) <| htyU (y_slArr rfl Tryd.underlying23 sz5) <| htyU (y_fld rfl fa36_2 (by decide)) <| hty (fun m => yV (y_ld1 rfl ag3 ((m.blk 0 rfl).cells0 33 _ (sl33 hxw))) ((show Value.int .i64 x.size = .int .i64 (x.size.toNat : Int) by rw [← hz]))) <| ?_
          refine htx (xh_bsl Tryd.underlying32 ti5 rfl rfl rfl (by simp [Value.cells, B8]) (by decide) (by decide) (fun g30 => ⟨(fun _ => wk [1, 2, 2] [] rfl rfl), ?_⟩))
          have hA_b30 : 0 < 1 → (some (⟨g30, 0, none⟩ : Addr)) ≠ none := fun _ h => by cases h
          refine htmem (fun w m => m.eqX 0 rfl (show _ = ROwn 5 1 (.slice (some ⟨g30, 0, none⟩) 1 1) 1 (b8s [1]) from rfl)) ?_
          refine htx (xh_app 2 rfl rfl rfl Tryd.underlying32 Tryd.underlying32 (by exact .inl rfl) ti5 rfl (fun m => Src.of_rd (m.ord 0 rfl)) b8s_one (by unfold maxLen; omega) (by omega) (fun u2 => ⟨(fun _ => wk [2, 2, 2] [] rfl rfl), ?_⟩))
          refine htfact (fun m => (m.own 0 rfl).slice) ?_
          rintro ⟨A_b112, c_b112, rfl, hc_b11⟩
          refine htfact (fun m => (m.ord 0 rfl).2.1) fun hA_b11 => ?_
          refine htx (xh_app 0 rfl rfl rfl Tryd.underlying32 Tryd.underlying32 (by exact .inl rfl) ti5 rfl (fun m => Src.of_rd (rd_of_cells (xs := b8s x.image) (by rw [b8s_length, hxw.len]) (fun j u hu => by rw [add_add]; exact (m.blk 2 rfl).cells0 (1 + j) u (sl_im hu)))) b8s_one (by unfold maxLen; omega) (by omega) (fun u3 => ⟨(fun _ => wk [2, 2, 2] [] rfl rfl), ?_⟩))
          refine htfact (fun m => (m.own 0 rfl).slice) ?_
          rintro ⟨A_b113, c_b113, rfl, hc_b11⟩
          refine htfact (fun m => (m.ord 0 rfl).2.1) fun hA_b11 => ?_
          rw [show 9 + 37 * i + 1 + 32 = 9 + 37 * i + 33 by omega]
          refine htmem (fun w m => m.eqX 0 rfl (show _ = ROwn 5 1 (.slice A_b113 (9 + 37 * i + 33) c_b113) (9 + 37 * i + 33) (b8s (wpart s i ++ ([1] ++ x.image))) from by simp [b8s, Nat.add_assoc])) ?_
          refine htx (xh_call rfl Tryd.call61 (snumC (by omega) (by omega) (l := (wpart s i ++ ([1] ++ x.image))) (n := x.size.toNat)) [0] rfl [] rfl ?_)
          rintro _ _ _ ⟨A12, c12, rfl, rfl, rfl⟩
          refine ⟨(fun _ => wk [2, 2, 2] [] rfl rfl), ?_⟩
          refine htyU (y_assign rfl) <| htend <| hsub (ρ' := [(4, _), (7, _), (27, _), (6, _), (24, _), (23, _), (22, _), (10, _), (3, _), (2, _), (1, _), (0, _)]) ⟨rfl, rfl, rfl, rfl, rfl, rfl, rfl, rfl, rfl, rfl, rfl, rfl, trivial⟩ <| hmemQ (X' := [_, _, _, _, _]) (S' := []) (fun _ m => m) <| hqblock <| hthen <| hreg <| hy (fun _ => y_add rfl rfl (w64 (by omega) (by omega))) <| hy (fun _ => y_move rfl) <| hend <| hsub (ρ' := [(23, _), (4, _), (7, _), (27, _), (6, _), (24, _), (22, _), (10, _), (3, _), (2, _), (1, _), (0, _)]) ⟨rfl, rfl, rfl, rfl, rfl, rfl, rfl, rfl, rfl, rfl, rfl, rfl, trivial⟩ <| ?_
          rw [show 9 + 37 * i + 33 + 4 = 9 + 37 * (i + 1) by omega]
          refine hmemQ (fun w m => m.eqX 0 rfl (show _ = ROwn 5 1 (.slice A12 (9 + 37 * (i + 1)) c12) (9 + 37 * (i + 1)) (b8s (wpart s (i + 1))) from by rw [hws, hbit 1 (by rw [hf]; rfl), List.append_assoc (wpart s i)])) ?_
          refine hnext3 (i + 1) A12 c12 ⟨rfl, rfl, rfl, rfl, rfl, rfl, rfl, rfl, trivial⟩ [0, 2, 2] rfl [] rfl (by omega) (by omega)
        · refine hcskip <| hthen <| hdrwB [0, 1, 1] [] rfl rfl [2, 3, 6, 9] [(0, some 1), (1, some 0), (4, some 2), (5, some 2), (7, some 3), (8, some 3), (2, none), (3, none), (6, none), (9, none), (10, some 4)] (by kernel_rfl) (by kernel_rfl) rfl 99 <| htyU (y_move rfl) <| htyU (y_move rfl) <| htyU (y_fld rfl fa36_1 (by decide)) <| htyU (y_slArr rfl Tryd.underlying23 sz5) <| htyU (y_fld rfl fa36_2 (by decide)) <| hty (fun m => yV (y_ld1 rfl ag3 ((m.blk 0 rfl).cells0 33 _ (sl33 hxw))) ((show Value.int .i64 x.size = .int .i64 (x.size.toNat : Int) by rw [← hz]))) <| ?_
          refine htx (xh_bsl Tryd.underlying32 ti5 rfl rfl rfl (by simp [Value.cells, B8]) (by decide) (by decide) (fun g30 => ⟨(fun _ => wk [1, 2, 2] [] rfl rfl), ?_⟩))
          have hA_b30 : 0 < 1 → (some (⟨g30, 0, none⟩ : Addr)) ≠ none := fun _ h => by cases h
          refine htmem (fun w m => m.eqX 0 rfl (show _ = ROwn 5 1 (.slice (some ⟨g30, 0, none⟩) 1 1) 1 (b8s [0]) from rfl)) ?_
          refine htx (xh_app 2 rfl rfl rfl Tryd.underlying32 Tryd.underlying32 (by exact .inl rfl) ti5 rfl (fun m => Src.of_rd (m.ord 0 rfl)) b8s_one (by unfold maxLen; omega) (by omega) (fun u2 => ⟨(fun _ => wk [2, 2, 2] [] rfl rfl), ?_⟩))
          refine htfact (fun m => (m.own 0 rfl).slice) ?_
          rintro ⟨A_b112, c_b112, rfl, hc_b11⟩
          refine htfact (fun m => (m.ord 0 rfl).2.1) fun hA_b11 => ?_
          refine htx (xh_app 0 rfl rfl rfl Tryd.underlying32 Tryd.underlying32 (by exact .inl rfl) ti5 rfl (fun m => Src.of_rd (rd_of_cells (xs := b8s x.image) (by rw [b8s_length, hxw.len]) (fun j u hu => by rw [add_add]; exact (m.blk 2 rfl).cells0 (1 + j) u (sl_im hu)))) b8s_one (by unfold maxLen; omega) (by omega) (fun u3 => ⟨(fun _ => wk [2, 2, 2] [] rfl rfl), ?_⟩))
          refine htfact (fun m => (m.own 0 rfl).slice) ?_
          rintro ⟨A_b113, c_b113, rfl, hc_b11⟩
          refine htfact (fun m => (m.ord 0 rfl).2.1) fun hA_b11 => ?_
          rw [show 9 + 37 * i + 1 + 32 = 9 + 37 * i + 33 by omega]
          refine htmem (fun w m => m.eqX 0 rfl (show _ = ROwn 5 1 (.slice A_b113 (9 + 37 * i + 33) c_b113) (9 + 37 * i + 33) (b8s (wpart s i ++ ([0] ++ x.image))) from by simp [b8s, Nat.add_assoc])) ?_
          refine htx (xh_call rfl Tryd.call61 (snumC (by omega) (by omega) (l := (wpart s i ++ ([0] ++ x.image))) (n := x.size.toNat)) [0] rfl [] rfl ?_)
          rintro _ _ _ ⟨A12, c12, rfl, rfl, rfl⟩
          refine ⟨(fun _ => wk [2, 2, 2] [] rfl rfl), ?_⟩
          refine htyU (y_assign rfl) <| htend <| hsub (ρ' := [(4, _), (27, _), (7, _), (6, _), (24, _), (23, _), (22, _), (10, _), (3, _), (2, _), (1, _), (0, _)]) ⟨rfl, rfl, rfl, rfl, rfl, rfl, rfl, rfl, rfl, rfl, rfl, rfl, trivial⟩ <| hmemQ (X' := [_, _, _, _, _]) (S' := []) (fun _ m => m) <| hqblock <| hthen <| hreg <| hy (fun _ => y_add rfl rfl (w64 (by omega) (by omega))) <| hy (fun _ => y_move rfl) <| hend <| hsub (ρ' := [(23, _), (4, _), (27, _), (7, _), (6, _), (24, _), (22, _), (10, _), (3, _), (2, _), (1, _), (0, _)]) ⟨rfl, rfl, rfl, rfl, rfl, rfl, rfl, rfl, rfl, rfl, rfl, rfl, trivial⟩ <| ?_
          rw [show 9 + 37 * i + 33 + 4 = 9 + 37 * (i + 1) by omega]
          refine hmemQ (fun w m => m.eqX 0 rfl (show _ = ROwn 5 1 (.slice A12 (9 + 37 * (i + 1)) c12) (9 + 37 * (i + 1)) (b8s (wpart s (i + 1))) from by rw [hws, hbit 0 (by rw [show x.full = false by simpa using hf]; rfl), List.append_assoc (wpart s i)])) ?_
          refine hnext3 (i + 1) A12 c12 ⟨rfl, rfl, rfl, rfl, rfl, rfl, rfl, rfl, trivial⟩ [0, 2, 2] rfl [] rfl (by omega) (by omega)
      · obtain rfl : i = 2 := by omega
        have hbd : wpart s 2 = s.body := by simp [wpart, Sup.body]
        rw [hbd]
        refine hexit <| hthen_exit <| hthen_exit <| hqblock_exit <| hthen <| hseq <| hreg <| hy (fun _ => y_move rfl) <| ?_
        refine hx (xh_calll rfl Tryd.call62 (crcPutC (by omega) (n := 83) (l := s.body)) [] rfl (.x 0 rfl .own .nil) ?_)
        rintro _ _ _ ⟨v, rfl, rfl, rfl⟩
        refine ⟨rfl, ?_⟩
        refine hfactL (fun m => (m.own 0 rfl).slice) ?_
        rintro ⟨A_x, c_x, rfl, hc_x⟩
        refine hfactL (fun m => (m.ord 0 rfl).2.1) fun hA_x => ?_
        refine hy (fun _ => y_assign rfl) <| hy (fun _ => y_assign rfl) <| hend <| hsub (ρ' := [(3, _), (2, _), (24, _), (4, _), (23, _), (22, _), (10, _), (1, _), (0, _)]) ⟨rfl, rfl, rfl, rfl, rfl, rfl, rfl, rfl, rfl, trivial⟩ <| hmemQ (X' := [_, _, _, _]) (S' := []) (fun _ m => m) <| hthen <| hret <| ?_
        exact hret2 trivial rfl rfl rfl [0] rfl [] rfl ⟨_, rfl, (by rw [Sup.bytes_len h]; rfl), rfl⟩
end Go.Proofs.YtfikjheicjamhaaDoor
end
section
/- Contracts: the document's superblock, saved (layer 22). -/
set_option linter.unusedVariables false
set_option linter.unusedSimpArgs false
set_option maxRecDepth 20000
namespace Go.Proofs.YtfikjheicjamhaaDoor
open Go.Eng Go.Hx
theorem rputSC {A : Option Addr} {k c : Nat} {l : List UInt8} {x : Sl} (h : x.wf) (hm : x.may) (hk : k ≤ 1000000) : Con Tryd.prog 64 [.slice A k c, .agg x.cs.toArray] [ROwn 5 1 (.slice A k c) k (b8s l)] [] (fun v_ X_ S_ => ∃ A1 c1, v_ = (.slice A1 (k + 37) c1) ∧ X_ = [ROwn 5 1 (.slice A1 (k + 37) c1) (k + 37) (b8s (l ++ x.by_))] ∧ S_ = []) := by
  have hz : x.size = (x.size.toNat : Int) ∧ x.size.toNat ≤ 65536 := by have := hm.1; have := hm.2.1; omega
  refine henter (N := 23) Tryd.func64 rfl rfl (by simp) fun b => ?_
  refine hseq <| hreg <| ?_
  refine hx (xh_box rfl (fun g3 => ?_))
  refine hmemL (fun w m => m.eqX 0 rfl (show _ = RBlk g3 25 x.cs from congrArg (RBlk _ _) (cells_agg _))) ?_
  refine hy (fun _ => y_assign rfl) <| hend <| hmemQ (X' := [_, _]) (S' := []) (fun _ m => m) <| hthen <| hseq <| hseq <| hreg <| hy (fun _ => y_fld rfl fa25_0 (by decide)) <| hy (fun m => y_ld1 rfl ag4 ((m.blk 0 rfl).cells0 0 _ sl0)) <| hend <| hsub (ρ' := [(6, _), (4, _), (3, _), (0, _), (1, _)]) ⟨rfl, rfl, rfl, rfl, rfl, trivial⟩ <| hthen <| ?_
  refine hifb rfl (fun hf => ?_) (fun hf => ?_)
  · refine hreg <| hy (fun _ => y_move rfl) <| ?_
    refine hx (xh_bsl Tryd.underlying32 ti5 rfl rfl rfl (by simp [Value.cells, B8]) (by decide) (by decide) (fun g8 => ?_))
    have hA_b8 : 0 < 1 → (some (⟨g8, 0, none⟩ : Addr)) ≠ none := fun _ h => by cases h
    refine hmemL (fun w m => m.eqX 0 rfl (show _ = ROwn 5 1 (.slice (some ⟨g8, 0, none⟩) 1 1) 1 (b8s [1]) from rfl)) ?_
    refine hx (xh_app 2 rfl rfl rfl Tryd.underlying32 Tryd.underlying32 (by exact .inl rfl) ti5 rfl (fun m => Src.of_rd (m.ord 0 rfl)) b8s_one (by unfold maxLen; omega) (by omega) (fun u => ?_))
    refine hfactL (fun m => (m.own 0 rfl).slice) ?_
    rintro ⟨A_o, c_o, rfl, hc_o⟩
    refine hfactL (fun m => (m.ord 0 rfl).2.1) fun hA_o => ?_
    refine hy (fun _ => y_assign rfl) <| hend <| hsub (ρ' := [(0, _), (6, _), (4, _), (3, _), (1, _)]) ⟨rfl, rfl, rfl, rfl, rfl, trivial⟩ <| hmemQ (X' := [_, _, _]) (S' := []) (fun _ m => m) <| hthen <| hseq <| hreg <| hy (fun _ => y_move rfl) <| hy (fun _ => y_fld rfl fa25_1 (by decide)) <| hy (fun m => yV (y_ldN rfl ag23 sz23 (by rw [b8s_length, h.len]) (fun j u hu => by rw [add_add]; exact (m.blk 2 rfl).cells0 (1 + j) u (sl_im hu))) ((rfl : _ = Value.agg (b8s x.image).toArray))) <| ?_
    refine hx (xh_call rfl Tryd.call105 (bytesC h.len) [] rfl [] rfl ?_)
    rintro _ _ _ ⟨v, rfl, rfl, rfl⟩
    refine hfactL (fun m => (m.own 0 rfl).slice) ?_
    rintro ⟨A_x, c_x, rfl, hc_x⟩
    refine hfactL (fun m => (m.ord 0 rfl).2.1) fun hA_x => ?_
    refine hx (xh_app 1 rfl rfl rfl Tryd.underlying32 Tryd.underlying32 (by exact .inl rfl) ti5 rfl (fun m => Src.of_rd (m.ord 0 rfl)) b8s_one (by unfold maxLen; omega) (by omega) (fun u2 => ?_))
    refine hfactL (fun m => (m.own 0 rfl).slice) ?_
    rintro ⟨A_o2, c_o2, rfl, hc_o⟩
    refine hfactL (fun m => (m.ord 0 rfl).2.1) fun hA_o => ?_
    refine hy (fun _ => y_assign rfl) <| hend <| hsub (ρ' := [(0, _), (6, _), (4, _), (3, _), (1, _)]) ⟨rfl, rfl, rfl, rfl, rfl, trivial⟩ <| hmemQ (X' := [_, _, _, _]) (S' := []) (fun _ m => m) <| hthen <| hseq <| hreg <| hy (fun _ => y_move rfl) <| hy (fun _ => y_fld rfl fa25_2 (by decide)) <| hy (fun m => yV (y_ld1 rfl ag3 ((m.blk 3 rfl).cells0 33 _ (sl33 h))) ((show Value.int .i64 x.size = .int .i64 (x.size.toNat : Int) by rw [← hz.1]))) <| ?_
    refine hx (xh_call rfl Tryd.call63 (numberC (by omega) (n := x.size.toNat)) [] rfl [] rfl ?_)
    rintro _ _ _ ⟨v2, rfl, rfl, rfl⟩
    refine hfactL (fun m => (m.own 0 rfl).slice) ?_
    rintro ⟨A_x2, c_x2, rfl, hc_x2⟩
    refine hfactL (fun m => (m.ord 0 rfl).2.1) fun hA_x2 => ?_
    refine hx (xh_app 1 rfl rfl rfl Tryd.underlying32 Tryd.underlying32 (by exact .inl rfl) ti5 rfl (fun m => Src.of_rd (m.ord 0 rfl)) b8s_one (by unfold maxLen; omega) (by omega) (fun u3 => ?_))
    refine hfactL (fun m => (m.own 0 rfl).slice) ?_
    rintro ⟨A_o3, c_o3, rfl, hc_o⟩
    refine hfactL (fun m => (m.ord 0 rfl).2.1) fun hA_o => ?_
    rw [show k + 1 + 32 + 4 = k + 37 by omega]
    refine hmemL (fun w m => m.eqX 0 rfl (show _ = ROwn 5 1 (.slice A_o3 (k + 37) c_o3) (k + 37) (b8s (l ++ x.by_)) from by rw [Sl.by_, if_pos hf]; simp [b8s])) ?_
    refine hy (fun _ => y_assign rfl) <| hend <| hsub (ρ' := [(4, _), (0, _), (6, _), (3, _), (1, _)]) ⟨rfl, rfl, rfl, rfl, rfl, trivial⟩ <| hmemQ (X' := [_, _, _, _, _]) (S' := []) (fun _ m => m) <| hthen <| hret <| ?_
    exact hret1 trivial rfl rfl [0] rfl [] rfl ⟨_, _, rfl, rfl, rfl⟩
  · refine hreg <| hy (fun _ => y_move rfl) <| ?_
    refine hx (xh_bsl Tryd.underlying32 ti5 rfl rfl rfl (by simp [Value.cells, B8]) (by decide) (by decide) (fun g11 => ?_))
    have hA_b11 : 0 < 1 → (some (⟨g11, 0, none⟩ : Addr)) ≠ none := fun _ h => by cases h
    refine hmemL (fun w m => m.eqX 0 rfl (show _ = ROwn 5 1 (.slice (some ⟨g11, 0, none⟩) 1 1) 1 (b8s [0]) from rfl)) ?_
    refine hx (xh_app 2 rfl rfl rfl Tryd.underlying32 Tryd.underlying32 (by exact .inl rfl) ti5 rfl (fun m => Src.of_rd (m.ord 0 rfl)) b8s_one (by unfold maxLen; omega) (by omega) (fun u => ?_))
    refine hfactL (fun m => (m.own 0 rfl).slice) ?_
    rintro ⟨A_o, c_o, rfl, hc_o⟩
    refine hfactL (fun m => (m.ord 0 rfl).2.1) fun hA_o => ?_
    refine hy (fun _ => y_assign rfl) <| hend <| hsub (ρ' := [(0, _), (6, _), (4, _), (3, _), (1, _)]) ⟨rfl, rfl, rfl, rfl, rfl, trivial⟩ <| hmemQ (X' := [_, _, _]) (S' := []) (fun _ m => m) <| hthen <| hseq <| hreg <| hy (fun _ => y_move rfl) <| hy (fun _ => y_fld rfl fa25_1 (by decide)) <| hy (fun m => yV (y_ldN rfl ag23 sz23 (by rw [b8s_length, h.len]) (fun j u hu => by rw [add_add]; exact (m.blk 2 rfl).cells0 (1 + j) u (sl_im hu))) ((rfl : _ = Value.agg (b8s x.image).toArray))) <| ?_
    refine hx (xh_call rfl Tryd.call105 (bytesC h.len) [] rfl [] rfl ?_)
    rintro _ _ _ ⟨v, rfl, rfl, rfl⟩
    refine hfactL (fun m => (m.own 0 rfl).slice) ?_
    rintro ⟨A_x, c_x, rfl, hc_x⟩
    refine hfactL (fun m => (m.ord 0 rfl).2.1) fun hA_x => ?_
    refine hx (xh_app 1 rfl rfl rfl Tryd.underlying32 Tryd.underlying32 (by exact .inl rfl) ti5 rfl (fun m => Src.of_rd (m.ord 0 rfl)) b8s_one (by unfold maxLen; omega) (by omega) (fun u2 => ?_))
    refine hfactL (fun m => (m.own 0 rfl).slice) ?_
    rintro ⟨A_o2, c_o2, rfl, hc_o⟩
    refine hfactL (fun m => (m.ord 0 rfl).2.1) fun hA_o => ?_
    refine hy (fun _ => y_assign rfl) <| hend <| hsub (ρ' := [(0, _), (6, _), (4, _), (3, _), (1, _)]) ⟨rfl, rfl, rfl, rfl, rfl, trivial⟩ <| hmemQ (X' := [_, _, _, _]) (S' := []) (fun _ m => m) <| hthen <| hseq <| hreg <| hy (fun _ => y_move rfl) <| hy (fun _ => y_fld rfl fa25_2 (by decide)) <| hy (fun m => yV (y_ld1 rfl ag3 ((m.blk 3 rfl).cells0 33 _ (sl33 h))) ((show Value.int .i64 x.size = .int .i64 (x.size.toNat : Int) by rw [← hz.1]))) <| ?_
    refine hx (xh_call rfl Tryd.call63 (numberC (by omega) (n := x.size.toNat)) [] rfl [] rfl ?_)
    rintro _ _ _ ⟨v2, rfl, rfl, rfl⟩
    refine hfactL (fun m => (m.own 0 rfl).slice) ?_
    rintro ⟨A_x2, c_x2, rfl, hc_x2⟩
    refine hfactL (fun m => (m.ord 0 rfl).2.1) fun hA_x2 => ?_
    refine hx (xh_app 1 rfl rfl rfl Tryd.underlying32 Tryd.underlying32 (by exact .inl rfl) ti5 rfl (fun m => Src.of_rd (m.ord 0 rfl)) b8s_one (by unfold maxLen; omega) (by omega) (fun u3 => ?_))
    refine hfactL (fun m => (m.own 0 rfl).slice) ?_
    rintro ⟨A_o3, c_o3, rfl, hc_o⟩
    refine hfactL (fun m => (m.ord 0 rfl).2.1) fun hA_o => ?_
    rw [show k + 1 + 32 + 4 = k + 37 by omega]
    refine hmemL (fun w m => m.eqX 0 rfl (show _ = ROwn 5 1 (.slice A_o3 (k + 37) c_o3) (k + 37) (b8s (l ++ x.by_)) from by rw [Sl.by_, if_neg (by rw [hf]; decide)]; simp [b8s])) ?_
    refine hy (fun _ => y_assign rfl) <| hend <| hsub (ρ' := [(4, _), (0, _), (6, _), (3, _), (1, _)]) ⟨rfl, rfl, rfl, rfl, rfl, trivial⟩ <| hmemQ (X' := [_, _, _, _, _]) (S' := []) (fun _ m => m) <| hthen <| hret <| ?_
    exact hret1 trivial rfl rfl [0] rfl [] rfl ⟨_, _, rfl, rfl, rfl⟩
theorem rbytesSC {s : Sup} (h : s.wf) (hm : s.may) : Con Tryd.prog 19 [.agg s.cs.toArray] [] [] (fun v_ X_ S_ => ∃ v, v_ = v ∧ X_ = [ROwn 5 1 v 87 (b8s s.bytes)] ∧ S_ = []) := by
  obtain ⟨ha, ha1, hg, hg1⟩ := may_nat hm
  have hav : IntKind.u8.wrap s.active = ((UInt8.ofNat s.active.toNat).toNat : Int) := by
    have := u8mod s.active.toNat
    rwa [← ha] at this
  refine henter (N := 26) Tryd.func19 rfl rfl (by simp) fun b => ?_
  refine hseq <| hreg <| ?_
  refine hx (xh_box rfl (fun g1 => ?_))
  refine hmemL (fun w m => m.eqX 0 rfl (show _ = RBlk g1 27 s.cs from congrArg (RBlk _ _) (cells_agg _))) ?_
  refine hy (fun _ => y_assign rfl) <| hend <| hmemQ (X' := [_]) (S' := []) (fun _ m => m) <| hthen <| hseq <| hreg <| ?_
  refine hx (xh_bsl Tryd.underlying32 ti5 rfl rfl rfl (by simp [Value.cells, B8]) (by decide) (by decide) (fun g4 => ?_))
  have hA_b4 : 0 < 4 → (some (⟨g4, 0, none⟩ : Addr)) ≠ none := fun _ h => by cases h
  refine hx (xh_cvS 0 rfl rfl Tryd.underlying32 Tryd.underlying5 ?_)
  refine hy (fun _ => y_assign rfl) <| hend <| hsub (ρ' := [(3, _), (2, _), (1, _), (0, _)]) ⟨rfl, rfl, rfl, rfl, trivial⟩ <| hmemQ (X' := [_, _]) (S' := []) (fun _ m => m) <| hthen <| hseq <| hreg <| hy (fun _ => y_move rfl) <| hy (fun _ => y_fld rfl fa27_0 (by decide)) <| hy (fun m => y_ld1 rfl ag3 ((m.blk 1 rfl).cells0 0 _ sup0)) <| hy (fun _ => y_conv rfl Tryd.underlying3 Tryd.underlying5 hav) <| ?_
  refine hx (xh_bsl Tryd.underlying32 ti5 rfl rfl rfl (by simp [Value.cells, B8]) (by decide) (by decide) (fun g10 => ?_))
  have hA_b10 : 0 < 1 → (some (⟨g10, 0, none⟩ : Addr)) ≠ none := fun _ h => by cases h
  refine hmemL (fun w m => m.eqX 0 rfl (show _ = ROwn 5 1 (.slice (some ⟨g10, 0, none⟩) 1 1) 1 (b8s [UInt8.ofNat s.active.toNat]) from rfl)) ?_
  refine hmemL (fun w m => m.eqX 1 rfl (show _ = ROwn 5 1 (.slice (some ⟨g4, 0, none⟩) 4 4) 4 (b8s [76, 84, 83, 49]) from rfl)) ?_
  refine hx (xh_app 0 rfl rfl rfl Tryd.underlying32 Tryd.underlying32 (by exact .inl rfl) ti5 rfl (fun m => Src.of_rd (m.ord 1 rfl)) b8s_one (by unfold maxLen; omega) (by omega) (fun u => ?_))
  refine hfactL (fun m => (m.own 0 rfl).slice) ?_
  rintro ⟨A_b4, c_b4, rfl, hc_b4⟩
  refine hfactL (fun m => (m.ord 0 rfl).2.1) fun hA_b4 => ?_
  refine hy (fun _ => y_assign rfl) <| hend <| hsub (ρ' := [(3, _), (2, _), (1, _), (0, _)]) ⟨rfl, rfl, rfl, rfl, trivial⟩ <| hmemQ (X' := [_, _, _]) (S' := []) (fun _ m => m) <| hthen <| hseq <| hreg <| hy (fun _ => y_move rfl) <| hy (fun _ => y_fld rfl fa27_1 (by decide)) <| hy (fun m => yV (y_ld1 rfl ag3 ((m.blk 2 rfl).cells0 1 _ sup1)) ((show Value.int .i64 s.gen = .int .i64 (s.gen.toNat : Int) by rw [← hg]))) <| ?_
  refine hx (xh_call rfl Tryd.call63 (numberC (by omega) (n := s.gen.toNat)) [] rfl [] rfl ?_)
  rintro _ _ _ ⟨v, rfl, rfl, rfl⟩
  refine hfactL (fun m => (m.own 0 rfl).slice) ?_
  rintro ⟨A_x, c_x, rfl, hc_x⟩
  refine hfactL (fun m => (m.ord 0 rfl).2.1) fun hA_x => ?_
  refine hx (xh_app 1 rfl rfl rfl Tryd.underlying32 Tryd.underlying32 (by exact .inl rfl) ti5 rfl (fun m => Src.of_rd (m.ord 0 rfl)) b8s_one (by unfold maxLen; omega) (by omega) (fun u2 => ?_))
  refine hfactL (fun m => (m.own 0 rfl).slice) ?_
  rintro ⟨A_b42, c_b42, rfl, hc_b4⟩
  refine hfactL (fun m => (m.ord 0 rfl).2.1) fun hA_b4 => ?_
  refine hmemL (fun w m => m.eqX 0 rfl (show _ = ROwn 5 1 (.slice A_b42 9 c_b42) 9 (b8s ([76, 84, 83, 49] ++ [UInt8.ofNat s.active.toNat] ++ le4 s.gen.toNat)) from by simp [b8s])) ?_
  refine hy (fun _ => y_assign rfl) <| hend <| hsub (ρ' := [(3, _), (2, _), (1, _), (0, _)]) ⟨rfl, rfl, rfl, rfl, trivial⟩ <| hmemQ (X' := [_, _, _, _]) (S' := []) (fun _ m => m) <| hthen <| hseq <| hreg <| hy (fun _ => y_move rfl) <| hy (fun _ => y_fld rfl fa27_2 (by decide)) <| hy (fun m => yV (y_ldN rfl ag25 sz25 (Sl.cs_len h.w0) (fun j u hu => by rw [add_add]; exact (m.blk 3 rfl).cells0 (2 + j) u (sup_s0 hu))) ((rfl : _ = Value.agg s.s0.cs.toArray))) <| ?_
  refine hx (xh_call rfl Tryd.call64 (rputSC h.w0 hm.2.2.2.1 (by decide) (x := s.s0) (l := ([76, 84, 83, 49] ++ [UInt8.ofNat s.active.toNat] ++ le4 s.gen.toNat))) [0] rfl [] rfl ?_)
  rintro _ _ _ ⟨A1, c1, rfl, rfl, rfl⟩
  refine hy (fun _ => y_assign rfl) <| hend <| hsub (ρ' := [(3, _), (2, _), (1, _), (0, _)]) ⟨rfl, rfl, rfl, rfl, trivial⟩ <| hmemQ (X' := [_, _, _, _]) (S' := []) (fun _ m => m) <| hthen <| hseq <| hreg <| hy (fun _ => y_move rfl) <| hy (fun _ => y_fld rfl fa27_3 (by decide)) <| hy (fun m => yV (y_ldN rfl ag25 sz25 (Sl.cs_len h.w1) (fun j u hu => by rw [add_add]; exact (m.blk 3 rfl).cells0 (36 + j) u (sup_s1 h hu))) ((rfl : _ = Value.agg s.s1.cs.toArray))) <| ?_
  refine hx (xh_call rfl Tryd.call64 (rputSC h.w1 hm.2.2.2.2 (by decide) (x := s.s1) (l := ([76, 84, 83, 49] ++ [UInt8.ofNat s.active.toNat] ++ le4 s.gen.toNat ++ s.s0.by_))) [0] rfl [] rfl ?_)
  rintro _ _ _ ⟨A12, c12, rfl, rfl, rfl⟩
  refine hx (xh_calll rfl Tryd.call22 (rcrcPutC (by omega) (n := 83) (l := s.body)) [] rfl (.x 0 rfl .own .nil) ?_)
  rintro _ _ _ ⟨v2, rfl, rfl, rfl⟩
  refine ⟨rfl, ?_⟩
  refine hfactL (fun m => (m.own 0 rfl).slice) ?_
  rintro ⟨A_x2, c_x2, rfl, hc_x2⟩
  refine hfactL (fun m => (m.ord 0 rfl).2.1) fun hA_x2 => ?_
  refine hy (fun _ => y_assign rfl) <| hend <| hsub (ρ' := [(2, _), (3, _), (1, _), (0, _)]) ⟨rfl, rfl, rfl, rfl, trivial⟩ <| hmemQ (X' := [_, _, _, _, _]) (S' := []) (fun _ m => m) <| hthen <| hret <| ?_
  exact hret1 trivial rfl rfl [0] rfl [] rfl ⟨_, rfl, rfl, rfl⟩
end Go.Proofs.YtfikjheicjamhaaDoor
end
section
/- What is done with superblocks, over plain disks. No program walked. -/
set_option linter.unusedVariables false
set_option linter.unusedSimpArgs false
namespace Go.Proofs.YtfikjheicjamhaaDoor
open Go.Eng Go.Hx
/-- a file is written ahead, and takes its place -/
def RD.saveS (d : RD) (a c bb : List UInt8) : RD × Int :=
  if d.writeE a bb ≠ 0 then (d, d.writeE a bb) else
  if (d.write a bb).syncE ≠ 0 then (d.write a bb, (d.write a bb).syncE) else
  if (d.write a bb).sync.renameE a c ≠ 0 then ((d.write a bb).sync, (d.write a bb).sync.renameE a c) else
  (((d.write a bb).sync.rename a c).sync, ((d.write a bb).sync.rename a c).syncE)
def nSup : List UInt8 := [115, 47, 115, 117, 112, 101, 114]
def nNew : List UInt8 := [115, 47, 110, 101, 119]
def nSlot (i : Nat) : List UInt8 := if i = 0 then [115, 47, 48] else [115, 47, 49]
/-- a slot of bytes -/
def rdSl (l : List UInt8) : Sl := ⟨decide (l.getD 0 0 = 1), (l.drop 1).take 32, (num4 (l.drop 33) : Nat)⟩
def rdBody (l : List UInt8) : Sup := ⟨(l.getD 4 0).toNat, (num4 (l.drop 5) : Nat), rdSl (l.drop 9), rdSl (l.drop 46)⟩
/-- the superblock of bytes, or why there is none -/
def rdOk (l : List UInt8) : Prop := l.length = 83 ∧ l.take 4 = [76, 84, 83, 49] ∧ (l.getD 9 0).toNat ≤ 1 ∧ (l.getD 46 0).toNat ≤ 1 ∧ (rdBody l).may
instance (l : List UInt8) : Decidable (rdOk l) := by unfold rdOk; infer_instance
def rdSup (l : List UInt8) : Sup × Int := if takeE l ≠ 0 then (Sup.zero, takeE l) else if rdOk (l.take (l.length - 4)) then (rdBody (l.take (l.length - 4)), 0) else (Sup.zero, 2)
def RD.loadS (d : RD) : Sup × Int := if d.readE nSup ≠ 0 then (Sup.zero, d.readE nSup) else rdSup (d.readB nSup)
def RD.saveSup (d : RD) (s : Sup) : RD × Int := if s.may then d.saveS nNew nSup s.bytes else (d, 1)
def RD.imageS (d : RD) (s : Sup) (i : Nat) : List UInt8 × Int :=
  if (s.at i).full = false then ([], 4) else if d.readE (nSlot i) ≠ 0 then ([], d.readE (nSlot i)) else
  if ((d.readB (nSlot i)).length : Int) ≠ (s.at i).size ∨ shaL (d.readB (nSlot i)) ≠ (s.at i).image then ([], 7) else (d.readB (nSlot i), 0)
def RD.activeS (d : RD) : List UInt8 × Int := if d.loadS.2 ≠ 0 then ([], d.loadS.2) else d.imageS d.loadS.1 d.loadS.1.active.toNat
/-- the other slot -/
def _root_.Go.Hx.Sup.other (s : Sup) : Nat := (1 - s.active).toNat
def RD.stageS (d : RD) (bb : List UInt8) : RD × Int × Int :=
  if 65536 < bb.length then (d, 0, 3) else if d.loadS.2 ≠ 0 then (d, 0, d.loadS.2) else
  let s := d.loadS.1
  let p := if (s.at s.other).full then d.saveSup (s.put s.other Sl.zero) else (d, 0)
  if p.2 ≠ 0 then (p.1, 0, p.2) else
  if p.1.writeE (nSlot s.other) bb ≠ 0 then (p.1, 0, p.1.writeE (nSlot s.other) bb) else
  let d2 := p.1.write (nSlot s.other) bb
  if d2.syncE ≠ 0 then (d2, 0, d2.syncE) else (d2.sync, s.other, 0)
def _root_.Go.Hx.Sup.turned (s : Sup) : Sup := { s with active := 1 - s.active, gen := s.gen + 1 }
def RD.turnS (d : RD) (s : Sup) : RD × Int × Int := if 2147483647 ≤ s.gen then (d, 0, 5) else
  let p := d.saveSup s.turned
  if p.2 ≠ 0 then (p.1, 0, p.2) else (p.1, s.gen + 1, 0)
def RD.flipS (d : RD) (im : List UInt8) : RD × Int × Int :=
  if d.loadS.2 ≠ 0 then (d, 0, d.loadS.2) else
  let s := d.loadS.1
  if d.readE (nSlot s.other) ≠ 0 then (d, 0, d.readE (nSlot s.other)) else
  let q := d.readB (nSlot s.other)
  if 65536 < q.length then (d, 0, 3) else if shaL q ≠ im then (d, 0, 7) else d.turnS (s.put s.other ⟨true, im, (q.length : Int)⟩)
def RD.backS (d : RD) : RD × Int × Int :=
  if d.loadS.2 ≠ 0 then (d, 0, d.loadS.2) else
  let s := d.loadS.1
  if (d.imageS s s.other).2 ≠ 0 then (d, 0, (d.imageS s s.other).2) else d.turnS s
theorem num4_i (l : List UInt8) : (0 : Int) ≤ (num4 l : Nat) ∧ ((num4 l : Nat) : Int) ≤ 4294967295 := by have := num4_lt l; omega
theorem rdSl_wf {l : List UInt8} (h : 33 ≤ l.length) : (rdSl l).wf := by
  have := num4_i (l.drop 33)
  exact ⟨by simp [rdSl]; omega, by show _ ≤ ((num4 (l.drop 33) : Nat) : Int); omega, by show ((num4 (l.drop 33) : Nat) : Int) ≤ _; omega⟩
theorem rdBody_wf {l : List UInt8} (h : l.length = 83) : (rdBody l).wf := by
  have h1 := num4_i (l.drop 5)
  have h2 := (l.getD 4 0).toNat_lt
  refine ⟨?_, ?_, ?_, ?_, rdSl_wf (by rw [List.length_drop]; omega), rdSl_wf (by rw [List.length_drop]; omega)⟩
  · show _ ≤ ((l.getD 4 0).toNat : Int); omega
  · show ((l.getD 4 0).toNat : Int) ≤ _; omega
  · show _ ≤ ((num4 (l.drop 5) : Nat) : Int); omega
  · show ((num4 (l.drop 5) : Nat) : Int) ≤ _; omega
theorem rdSup_wf (l : List UInt8) : (rdSup l).1.wf := by
  unfold rdSup
  split
  · exact Sup.zero_wf
  · split
    · rename_i h; exact rdBody_wf h.1
    · exact Sup.zero_wf
theorem rdSup_may {l : List UInt8} (h : (rdSup l).2 = 0) : (rdSup l).1.may := by
  unfold rdSup at h ⊢
  split at h
  · rename_i h1; exact absurd h h1
  · rename_i h1
    rw [if_neg h1]
    split at h
    · rename_i h2; rw [if_pos h2]; exact h2.2.2.2.2
    · exact absurd h (by decide)
theorem RD.loadS_wf (d : RD) : d.loadS.1.wf := by
  unfold RD.loadS
  split
  · exact Sup.zero_wf
  · exact rdSup_wf _
theorem RD.loadS_may {d : RD} (h : d.loadS.2 = 0) : d.loadS.1.may := by
  unfold RD.loadS at h ⊢
  split at h
  · rename_i h1; exact absurd h h1
  · rename_i h1; rw [if_neg h1]; exact rdSup_may h
theorem _root_.Go.Hx.Sup.may_other {s : Sup} (h : s.may) : s.other < 2 ∧ (s.other : Int) = 1 - s.active ∧ s.active = (s.active.toNat : Int) ∧ s.active.toNat < 2 := by
  have := h.1
  unfold Sup.other
  omega
end Go.Proofs.YtfikjheicjamhaaDoor
end
section
/- Contracts: superblocks saved by the document; read and saved by the program (layer 22). -/
set_option linter.unusedVariables false
set_option linter.unusedSimpArgs false
set_option maxRecDepth 20000
namespace Go.Proofs.YtfikjheicjamhaaDoor
open Go.Eng Go.Hx
theorem saveS_ok {d : RD} {k : Nat} (h : d.ok k) {a c l : List UInt8} (hl : l.length ≤ 1048576) : (d.saveS a c l).1.ok (k + 2) := by
  have h1 := h.write (p := a) hl
  unfold RD.saveS
  split
  · exact h.le (by omega)
  · split
    · exact h1.le (by omega)
    · split
      · exact h1.sync.le (by omega)
      · exact h1.sync.rename.sync
theorem rsaveSC {x : RX} {kk : Nat} {s : Sup} (h : s.wf) (hm : s.may) (hD : x.d.ok kk) (hkk : kk ≤ 90000) : Con Tryd.prog 75 [.agg x.cs.toArray, .agg s.cs.toArray] [] [RRef x] (fun v_ X_ S_ => ∃ y, v_ = (.tuple #[.agg y.cs.toArray, .int .i64 (x.d.saveS nNew nSup s.bytes).2]) ∧ X_ = [] ∧ S_ = [RRef y] ∧ (y.d = (x.d.saveS nNew nSup s.bytes).1)) := by
  have hbl : s.bytes.length ≤ 1048576 := by rw [Sup.bytes_len h]; decide
  have ok1 := hD.write (p := nNew) hbl
  have okr := hD.rok
  have okr1 := ok1.rok
  have okr2 := ok1.sync.rok
  have okr3 := ok1.sync.rename (a := nNew) (c := nSup) |>.rok
  refine henter (N := 38) Tryd.func75 rfl rfl (by simp) fun b => ?_
  refine hseq <| hreg <| ?_
  refine hx (xh_box rfl (fun g2 => ?_))
  refine hmemL (fun w m => m.eqX 0 rfl (show _ = RBlk g2 62 x.cs from congrArg (RBlk _ _) (cells_agg _))) ?_
  refine hx (xh_box rfl (fun g3 => ?_))
  refine hmemL (fun w m => m.eqX 0 rfl (show _ = RBlk g3 27 s.cs from congrArg (RBlk _ _) (cells_agg _))) ?_
  refine hx (xh_alloc ti62 (fun g4 => ?_))
  refine hy (fun _ => y_assign rfl) <| hend <| hmemQ (X' := [_, _, _]) (S' := [_]) (fun _ m => m) <| hthen <| hseq <| hdrw [2, 3, 4, 8] [(0, some 2), (1, some 0), (2, none), (3, none), (4, none), (5, some 3), (6, some 3), (7, some 4), (8, none), (9, some 4)] (by kernel_rfl) (by kernel_rfl) rfl 3 <| hty (fun m => yV (y_ldN rfl ag62 sz62 rfl ((m.blk 2 rfl).cells0)) ((rfl : _ = Value.agg x.cs.toArray))) <| hty (fun m => yV (y_ldN rfl ag27 sz27 (Sup.cs_len h) ((m.blk 1 rfl).cells0)) ((rfl : _ = Value.agg s.cs.toArray))) <| ?_
  refine htx (xh_call rfl Tryd.call19 (rbytesSC h hm) [] rfl [] rfl ?_)
  rintro _ _ _ ⟨v, rfl, rfl, rfl⟩
  refine ⟨(fun _ => wk [1, 1, 1] [0] rfl rfl), ?_⟩
  refine htfact (fun m => (m.own 0 rfl).slice) ?_
  rintro ⟨A_x, c_x, rfl, hc_x⟩
  refine htfact (fun m => (m.ord 0 rfl).2.1) fun hA_x => ?_
  refine hts (fun _ => wk [1, 1, 1] [0] rfl rfl) (fun m => y_b2s rfl Tryd.underlying32 Tryd.underlying5 Tryd.underlying9 (m.ord 0 rfl)) <| ?_
  refine htx (xh_call rfl Tryd.call120 (rwriteX okr (by omega) (by decide) (by rw [Sup.bytes_len h]; decide) (p := nNew) (bb := s.bytes)) [] rfl [0] rfl ?_)
  rintro _ _ _ ⟨y, rfl, rfl, rfl, hd1⟩
  refine ⟨(fun _ => wk [1, 1, 1] [1] rfl rfl), ?_⟩
  refine htyU (y_move rfl) <| htyU (y_extract rfl rfl) <| htyU (y_extract rfl rfl) <| ?_
  refine htx0 (xh_stA 3 rfl rfl rfl sz62 rfl cs_one rfl ⟨(fun h => absurd h (by decide)), ?_⟩)
  refine htyU (y_assign rfl) <| htend <| hsub (ρ' := [(6, _), (5, _), (4, _), (3, _), (2, _), (0, _), (1, _)]) ⟨rfl, rfl, rfl, rfl, rfl, rfl, rfl, trivial⟩ <| hmemQ (X' := [_, _, _, _]) (S' := [_, _]) (fun _ m => m) <| hthen <| hseq <| hseq <| hreg <| hy (fun _ => y_move rfl) <| hy (fun _ => y_eql rfl rfl) <| hend <| hsub (ρ' := [(16, _), (6, _), (5, _), (4, _), (3, _), (2, _), (0, _), (1, _)]) ⟨rfl, rfl, rfl, rfl, rfl, rfl, rfl, rfl, trivial⟩ <| hthen <| ?_
  refine hif rfl (fun h1 => ?_) (fun h1 => ?_)
  · refine hreg <| hy (fun m => yV (y_ldN rfl ag62 sz62 rfl ((m.blk 0 rfl).cells0)) ((rfl : _ = Value.agg y.cs.toArray))) <| ?_
    refine hx (xh_call rfl Tryd.call121 (rsyncX (by rw [hd1]; exact okr1)) [] rfl [0] rfl ?_)
    rintro _ _ _ ⟨y2, rfl, rfl, rfl, hd2⟩
    refine hy (fun _ => y_move rfl) <| hy (fun _ => y_extract rfl rfl) <| hy (fun _ => y_extract rfl rfl) <| ?_
    refine hx0 (xh_stA 0 rfl rfl rfl sz62 rfl cs_one rfl ?_)
    refine hy (fun _ => y_assign rfl) <| hend <| hsub (ρ' := [(6, _), (16, _), (5, _), (4, _), (3, _), (2, _), (0, _), (1, _)]) ⟨rfl, rfl, rfl, rfl, rfl, rfl, rfl, rfl, trivial⟩ <| hmemQ (X' := [_, _, _, _]) (S' := [_, _, _]) (fun _ m => m) <| hthen <| hseq <| hseq <| hreg <| hy (fun _ => y_move rfl) <| hy (fun _ => y_eql rfl rfl) <| hend <| hsub (ρ' := [(23, _), (6, _), (16, _), (5, _), (4, _), (3, _), (2, _), (0, _), (1, _)]) ⟨rfl, rfl, rfl, rfl, rfl, rfl, rfl, rfl, rfl, trivial⟩ <| hthen <| ?_
    refine hif rfl (fun h2 => ?_) (fun h2 => ?_)
    · refine hreg <| hy (fun m => yV (y_ldN rfl ag62 sz62 rfl ((m.blk 0 rfl).cells0)) ((rfl : _ = Value.agg y2.cs.toArray))) <| ?_
      refine hx (xh_call rfl Tryd.call122 (rrenameX (by rw [hd2, hd1]; exact okr2) (by omega) (by decide) (a := nNew) (c := nSup)) [] rfl [0] rfl ?_)
      rintro _ _ _ ⟨y3, rfl, rfl, rfl, hd3⟩
      refine hy (fun _ => y_move rfl) <| hy (fun _ => y_extract rfl rfl) <| hy (fun _ => y_extract rfl rfl) <| ?_
      refine hx0 (xh_stA 0 rfl rfl rfl sz62 rfl cs_one rfl ?_)
      refine hy (fun _ => y_assign rfl) <| hend <| hsub (ρ' := [(6, _), (23, _), (16, _), (5, _), (4, _), (3, _), (2, _), (0, _), (1, _)]) ⟨rfl, rfl, rfl, rfl, rfl, rfl, rfl, rfl, rfl, trivial⟩ <| hmemQ (X' := [_, _, _, _]) (S' := [_, _, _, _]) (fun _ m => m) <| hthen <| hseq <| hseq <| hreg <| hy (fun _ => y_move rfl) <| hy (fun _ => y_eql rfl rfl) <| hend <| hsub (ρ' := [(30, _), (6, _), (23, _), (16, _), (5, _), (4, _), (3, _), (2, _), (0, _), (1, _)]) ⟨rfl, rfl, rfl, rfl, rfl, rfl, rfl, rfl, rfl, rfl, trivial⟩ <| hthen <| ?_
      refine hif rfl (fun h3 => ?_) (fun h3 => ?_)
      · have hS : x.d.saveS nNew nSup s.bytes = (y3.d.sync, y3.d.syncE) := by
          rw [hd3, hd2, hd1, RD.saveS, if_neg (by rw [h1]; decide), if_neg (by rw [← hd1, h2]; decide), if_neg (by rw [← hd1, ← hd2, h3]; decide)]
        rw [hS]
        refine hreg <| hy (fun m => yV (y_ldN rfl ag62 sz62 rfl ((m.blk 0 rfl).cells0)) ((rfl : _ = Value.agg y3.cs.toArray))) <| ?_
        refine hx (xh_call rfl Tryd.call121 (rsyncX (by rw [hd3, hd2, hd1]; exact okr3)) [] rfl [0] rfl ?_)
        rintro _ _ _ ⟨y4, rfl, rfl, rfl, hv⟩
        refine hy (fun _ => y_move rfl) <| hy (fun _ => y_extract rfl rfl) <| hy (fun _ => y_extract rfl rfl) <| ?_
        refine hx0 (xh_stA 0 rfl rfl rfl sz62 rfl cs_one rfl ?_)
        refine hy (fun _ => y_assign rfl) <| hend <| hsub (ρ' := [(6, _), (30, _), (23, _), (16, _), (5, _), (4, _), (3, _), (2, _), (0, _), (1, _)]) ⟨rfl, rfl, rfl, rfl, rfl, rfl, rfl, rfl, rfl, rfl, trivial⟩ <| hmemQ (X' := [_, _, _, _]) (S' := [_, _, _, _, _]) (fun _ m => m) <| hthen <| hseq <| hreg <| hy (fun m => yV (y_ldN rfl ag62 sz62 rfl ((m.blk 0 rfl).cells0)) ((rfl : _ = Value.agg y4.cs.toArray))) <| hy (fun _ => y_move rfl) <| ?_
        refine hx0 (xh_stA 2 rfl rfl rfl sz62 rfl cs_one rfl ?_)
        refine hy (fun _ => y_assign rfl) <| hend <| hsub (ρ' := [(5, _), (6, _), (30, _), (23, _), (16, _), (4, _), (3, _), (2, _), (0, _), (1, _)]) ⟨rfl, rfl, rfl, rfl, rfl, rfl, rfl, rfl, rfl, rfl, trivial⟩ <| hmemQ (X' := [_, _, _, _]) (S' := [_, _, _, _, _]) (fun _ m => m) <| hthen <| hret <| ?_
        exact hretN1 trivial rfl rfl rfl ag62 sz62 rfl (fun m => (m.blk 0 rfl).cells0) [] rfl [0] rfl ⟨y4, rfl, rfl, rfl, hv⟩
      · have hS : x.d.saveS nNew nSup s.bytes = (y2.d, y2.d.renameE nNew nSup) := by
          rw [hd2, hd1, RD.saveS, if_neg (by rw [h1]; decide), if_neg (by rw [← hd1, h2]; decide), if_pos (by rw [← hd1, ← hd2]; exact h3)]
        have hv : y3.d = y2.d := by rw [hd3, RD.rename, if_neg h3]
        rw [hS]
        refine hcskip <| hthen <| hseq <| hreg <| hy (fun m => yV (y_ldN rfl ag62 sz62 rfl ((m.blk 0 rfl).cells0)) ((rfl : _ = Value.agg y3.cs.toArray))) <| hy (fun _ => y_move rfl) <| ?_
        refine hx0 (xh_stA 2 rfl rfl rfl sz62 rfl cs_one rfl ?_)
        refine hy (fun _ => y_assign rfl) <| hend <| hsub (ρ' := [(5, _), (30, _), (6, _), (23, _), (16, _), (4, _), (3, _), (2, _), (0, _), (1, _)]) ⟨rfl, rfl, rfl, rfl, rfl, rfl, rfl, rfl, rfl, rfl, trivial⟩ <| hmemQ (X' := [_, _, _, _]) (S' := [_, _, _, _]) (fun _ m => m) <| hthen <| hret <| ?_
        exact hretN1 trivial rfl rfl rfl ag62 sz62 rfl (fun m => (m.blk 0 rfl).cells0) [] rfl [0] rfl ⟨y3, rfl, rfl, rfl, hv⟩
    · have hS : x.d.saveS nNew nSup s.bytes = (y.d, y.d.syncE) := by
        rw [hd1, RD.saveS, if_neg (by rw [h1]; decide), if_pos (by rw [← hd1]; exact h2)]
      have hv : y2.d = y.d := by
        rw [hd2, RD.sync, if_pos]
        unfold RD.syncE at h2
        split at h2
        · assumption
        · exact absurd rfl h2
      rw [hS]
      refine hcskip <| hthen <| hseq <| hseq <| hreg <| hy (fun _ => y_move rfl) <| hy (fun _ => y_eql rfl rfl) <| hend <| hsub (ρ' := [(30, _), (23, _), (6, _), (16, _), (5, _), (4, _), (3, _), (2, _), (0, _), (1, _)]) ⟨rfl, rfl, rfl, rfl, rfl, rfl, rfl, rfl, rfl, rfl, trivial⟩ <| hthen <| ?_
      refine hiff rfl (decide_eq_false h2) ?_
      refine hcskip <| hthen <| hseq <| hreg <| hy (fun m => yV (y_ldN rfl ag62 sz62 rfl ((m.blk 0 rfl).cells0)) ((rfl : _ = Value.agg y2.cs.toArray))) <| hy (fun _ => y_move rfl) <| ?_
      refine hx0 (xh_stA 2 rfl rfl rfl sz62 rfl cs_one rfl ?_)
      refine hy (fun _ => y_assign rfl) <| hend <| hsub (ρ' := [(5, _), (30, _), (23, _), (6, _), (16, _), (4, _), (3, _), (2, _), (0, _), (1, _)]) ⟨rfl, rfl, rfl, rfl, rfl, rfl, rfl, rfl, rfl, rfl, trivial⟩ <| hmemQ (X' := [_, _, _, _]) (S' := [_, _, _]) (fun _ m => m) <| hthen <| hret <| ?_
      exact hretN1 trivial rfl rfl rfl ag62 sz62 rfl (fun m => (m.blk 0 rfl).cells0) [] rfl [0] rfl ⟨y2, rfl, rfl, rfl, hv⟩
  · have hS : x.d.saveS nNew nSup s.bytes = (x.d, x.d.writeE nNew s.bytes) := by rw [RD.saveS, if_pos h1]
    have hv : y.d = x.d := by rw [hd1, RD.write, if_neg h1]
    rw [hS]
    refine hcskip <| hthen <| hseq <| hseq <| hreg <| hy (fun _ => y_move rfl) <| hy (fun _ => y_eql rfl rfl) <| hend <| hsub (ρ' := [(23, _), (16, _), (6, _), (5, _), (4, _), (3, _), (2, _), (0, _), (1, _)]) ⟨rfl, rfl, rfl, rfl, rfl, rfl, rfl, rfl, rfl, trivial⟩ <| hthen <| ?_
    refine hiff rfl (decide_eq_false h1) ?_
    refine hcskip <| hthen <| hseq <| hseq <| hreg <| hy (fun _ => y_move rfl) <| hy (fun _ => y_eql rfl rfl) <| hend <| hsub (ρ' := [(30, _), (23, _), (16, _), (6, _), (5, _), (4, _), (3, _), (2, _), (0, _), (1, _)]) ⟨rfl, rfl, rfl, rfl, rfl, rfl, rfl, rfl, rfl, rfl, trivial⟩ <| hthen <| ?_
    refine hiff rfl (decide_eq_false h1) ?_
    refine hcskip <| hthen <| hseq <| hreg <| hy (fun m => yV (y_ldN rfl ag62 sz62 rfl ((m.blk 0 rfl).cells0)) ((rfl : _ = Value.agg y.cs.toArray))) <| hy (fun _ => y_move rfl) <| ?_
    refine hx0 (xh_stA 2 rfl rfl rfl sz62 rfl cs_one rfl ?_)
    refine hy (fun _ => y_assign rfl) <| hend <| hsub (ρ' := [(5, _), (30, _), (23, _), (16, _), (6, _), (4, _), (3, _), (2, _), (0, _), (1, _)]) ⟨rfl, rfl, rfl, rfl, rfl, rfl, rfl, rfl, rfl, rfl, trivial⟩ <| hmemQ (X' := [_, _, _, _]) (S' := [_, _]) (fun _ m => m) <| hthen <| hret <| ?_
    exact hretN1 trivial rfl rfl rfl ag62 sz62 rfl (fun m => (m.blk 0 rfl).cells0) [] rfl [0] rfl ⟨y, rfl, rfl, rfl, hv⟩
end Go.Proofs.YtfikjheicjamhaaDoor
end
section
/- Contracts: superblocks read and saved by the program (layer 22). -/
set_option linter.unusedVariables false
set_option linter.unusedSimpArgs false
set_option maxRecDepth 20000
namespace Go.Proofs.YtfikjheicjamhaaDoor
open Go.Eng Go.Hx
theorem valueC {l : List UInt8} (h4 : 4 ≤ l.length) : Con Tryd.prog 69 [.string (strOf l)] [] [] (fun v_ X_ S_ => v_ = (.int .i64 (num4 l : Nat)) ∧ X_ = [] ∧ S_ = []) := by
  have hs := strOf_size l
  refine henter (N := 17) Tryd.func69 rfl rfl (by simp) fun b => ?_
  refine hseq <| hreg <| hy (fun _ => y_assign rfl) <| hend <| hthen <| hseq <| hreg <| hy (fun _ => y_assign rfl) <| hend <| hthen <| hseq <| hseq <| hreg <| hy (fun _ => y_assign rfl) <| hend <| hthen <| hblock <| ?_
  refine hloop1 (fun i => 4 - i) (fun i => [(3, .int .i64 ((acc l i : Nat) : Int)), (4, .int .i64 (3 - (i : Int)))]) (fun i => []) (fun i => []) (fun i => i ≤ 4) 0 [(2, _), (0, _)] ⟨rfl, rfl, trivial⟩ [] rfl [] rfl (Nat.zero_le _) ⟨rfl, rfl, trivial⟩ (fun i hi4 => ?_)
  refine hseq <| hseq <| hreg <| hy (fun _ => y_move rfl) <| hy (fun _ => y_geq rfl rfl) <| hend <| hsub (ρ' := [(6, _), (3, _), (4, _), (2, _), (0, _)]) ⟨rfl, rfl, rfl, rfl, rfl, trivial⟩ <| hthen <| ?_
  refine hif rfl (fun hi => ?_) (fun hi => ?_)
  · have hn := acc_le l hi4
    have hb := (l.getD (3 - i) 0).toNat_lt
    refine hcskip <| hthen <| hseq <| hblock <| hreg <| hy (fun _ => y_move rfl) <| hy (fun _ => y_shl (p := 256) rfl rfl (by decide) (by decide) (by decide) (w64 (by omega) (by omega))) <| hy (fun _ => y_move rfl) <| hy (fun _ => y_move rfl) <| hy (fun _ => y_idxStr rfl rfl Tryd.underlying9 (show ((3 - i : Nat) : Int) = _ by omega) (strOf_at (by omega))) <| hy (fun _ => y_conv rfl Tryd.underlying5 Tryd.underlying3 (w64 (by omega) (by omega))) <| hy (fun _ => y_bits (by simp) rfl rfl (or_byte _ _ hn hb)) <| hy (fun _ => y_assign rfl) <| hend <| hsub (ρ' := [(3, _), (6, _), (4, _), (2, _), (0, _)]) ⟨rfl, rfl, rfl, rfl, rfl, trivial⟩ <| hqblock <| hthen <| hreg <| hy (fun _ => y_move rfl) <| hy (fun _ => yV (y_sub rfl rfl (w64 (by omega) (by omega))) ((show Value.int .i64 (3 - (i : Int) - 1) = .int .i64 (3 - ((i + 1 : Nat) : Int)) from congrArg (Value.int .i64) (by omega)))) <| hy (fun _ => y_assign rfl) <| hend <| hsub (ρ' := [(4, _), (3, _), (6, _), (2, _), (0, _)]) ⟨rfl, rfl, rfl, rfl, rfl, trivial⟩ <| ?_
    refine hnext1 (i + 1) ⟨rfl, rfl, rfl, rfl, trivial⟩ [] rfl [] rfl (by omega) (by omega)
  · obtain rfl : i = 4 := by omega
    rw [acc4]
    refine hexit <| hthen_exit <| hthen_exit <| hqblock_exit <| hthen <| hseq <| hreg <| hy (fun _ => y_move rfl) <| hy (fun _ => y_assign rfl) <| hend <| hsub (ρ' := [(2, _), (6, _), (3, _), (4, _), (0, _)]) ⟨rfl, rfl, rfl, rfl, rfl, trivial⟩ <| hthen <| hret <| ?_
    exact hret1 trivial rfl rfl [] rfl [] rfl ⟨rfl, rfl, rfl⟩
theorem cutPrefixC {s p : List UInt8} (hs : s.length ≤ 70368744177664) (hp : p.length ≤ 70368744177664) : Con Tryd.prog 68 [.string (strOf s), .string (strOf p)] [] [] (fun v_ X_ S_ => v_ = (.tuple #[.string (strOf (if s.take p.length = p then s.drop p.length else s)), .bool (decide (s.take p.length = p))]) ∧ X_ = [] ∧ S_ = []) := by
  exact con_pure fun m => Calls.mono (cutPrefix s p _ hs hp) (fun e w' ⟨h, hw⟩ => ⟨_, h, ⟨rfl, rfl, rfl⟩, hw ▸ Fr.refl _ _⟩)
theorem bld_sl {P : Program} {pl : Nat → Option (Nat × Nat)} {x : Sl} (h : x.image.length = 32) {zs : List Value} (hz : zs.length = 34) (p0 : pl 0 = some (0, 1)) (p1 : pl 1 = some (1, 32)) (p2 : pl 2 = some (33, 1)) :
    Bld P pl zs [(0, .bool x.full), (1, .agg (b8s x.image).toArray), (2, .int .i64 x.size)] x.cs := by
  have hw : (b8s x.image).length = 32 := by rw [b8s_length, h]
  have l1 : (splice zs 0 [Value.bool x.full]).length = 34 := by rw [splice_length (by rw [hz]; show 0 + 1 ≤ 34; decide), hz]
  have l2 : (splice (splice zs 0 [Value.bool x.full]) 1 (b8s x.image)).length = 34 := by rw [splice_length (by omega), l1]
  refine .cons (vs := [.bool x.full]) p0 rfl rfl (by omega) (.cons (vs := b8s x.image) p1 rfl hw (by omega) (.cons (vs := [.int .i64 x.size]) p2 rfl rfl (by omega) ?_))
  have e : splice (splice (splice zs 0 [Value.bool x.full]) 1 (b8s x.image)) 33 [.int .i64 x.size] = x.cs := by
    match zs, hz with
    | z :: r, hz =>
      have e1 : splice (z :: r) 0 [Value.bool x.full] = .bool x.full :: r := rfl
      have e2 : splice (Value.bool x.full :: r) 1 (b8s x.image) = .bool x.full :: (b8s x.image ++ r.drop 32) := by
        rw [splice, hw]
        show [Value.bool x.full] ++ b8s x.image ++ (Value.bool x.full :: r).drop 33 = _
        rw [List.drop_succ_cons]; rfl
      match hq : r.drop 32, (show (r.drop 32).length = 1 by rw [List.length_drop]; simp at hz; omega) with
      | [q], _ =>
        rw [e1, e2, hq, splice, show (33 : Nat) = 32 + 1 from rfl, List.take_succ_cons, List.take_append_of_le_length (by omega), List.take_of_length_le (by omega)]
        show (Value.bool x.full :: b8s x.image) ++ [.int .i64 x.size] ++ (Value.bool x.full :: (b8s x.image ++ [q])).drop 34 = _
        rw [List.drop_of_length_le (by simp [hw]), List.append_nil]; rfl
  rw [e]
  exact .nil
/-- a superblock that is being read -/
def rpart (l : List UInt8) (i : Nat) : Sup := ⟨(l.getD 4 0).toNat, (num4 (l.drop 5) : Nat), if 0 < i then rdSl (l.drop 9) else Sl.zero, if 1 < i then rdSl (l.drop 46) else Sl.zero⟩
theorem rpart_wf {l : List UInt8} (h : l.length = 83) (i : Nat) : (rpart l i).wf := by
  have hb := rdBody_wf h
  refine ⟨hb.a0, hb.a1, hb.g0, hb.g1, ?_, ?_⟩
  · unfold rpart; dsimp only; split
    · exact hb.w0
    · exact Sl.zero_wf
  · unfold rpart; dsimp only; split
    · exact hb.w1
    · exact Sl.zero_wf
theorem rpart_put {l : List UInt8} (h : l.length = 83) {i : Nat} (hi : i < 2) : splice (rpart l i).cs (2 + i * 34) (rdSl (l.drop (9 + 37 * i))).cs = (rpart l (i + 1)).cs := by
  have hx : (rdSl (l.drop (9 + 37 * i))).cs.length = 34 := Sl.cs_len (rdSl_wf (by rw [List.length_drop]; omega))
  match i, hi with
  | 0, _ =>
    have e1 : (rpart l 0).cs = [Value.int .i64 (rpart l 0).active, .int .i64 (rpart l 0).gen] ++ Sl.zero.cs ++ Sl.zero.cs := rfl
    have e2 : (rpart l 1).cs = [Value.int .i64 (rpart l 0).active, .int .i64 (rpart l 0).gen] ++ (rdSl (l.drop (9 + 37 * 0))).cs ++ Sl.zero.cs := rfl
    rw [e1, e2]
    exact splice_app rfl (by rw [hx]; exact Sl.cs_len Sl.zero_wf)
  | 1, _ =>
    have e1 : (rpart l 1).cs = ([Value.int .i64 (rpart l 0).active, .int .i64 (rpart l 0).gen] ++ (rdSl (l.drop 9)).cs) ++ Sl.zero.cs ++ [] := by rw [List.append_nil]; rfl
    have e2 : (rpart l 2).cs = ([Value.int .i64 (rpart l 0).active, .int .i64 (rpart l 0).gen] ++ (rdSl (l.drop 9)).cs) ++ (rdSl (l.drop (9 + 37 * 1))).cs ++ [] := by rw [List.append_nil]; rfl
    rw [e1, e2]
    exact splice_app (by rw [List.length_append, Sl.cs_len (rdSl_wf (by rw [List.length_drop]; omega))]; rfl) (by rw [hx]; exact Sl.cs_len Sl.zero_wf)
end Go.Proofs.YtfikjheicjamhaaDoor
end
