/- Contracts: the document's disk (layer 12), as one thing: Read, Write, Rename, Remove, Sync, Power, Restart. -/
import Derived.Test.YtflcokdkobhieaaRefD4
import Derived.Test.YtflcokdkobhieaaDisk7
import Derived.Test.YtflcokdkobhieaaMem7
set_option linter.unusedVariables false
set_option linter.unusedSimpArgs false
set_option maxRecDepth 20000
namespace Go.Proofs.Ytflcokdkobhieaa
open Go.Eng Go.Hx
/-- a disk of the document, and where its lists lie -/
structure RX where
  d : RD
  A : Option Addr
  c : Nat
  Al : Option Addr
  cl : Nat
  A3 : Option Addr
  c3 : Nat
def RX.cs (x : RX) : List Value := rv x.d x.A x.d.seen.length x.c x.Al x.d.lasts.length x.cl x.A3 x.d.waits.length x.c3
abbrev RX.parts (x : RX) : List Res := [RRd 2 x.A x.d.seen.length (fc x.d.seen), RRd 2 x.Al x.d.lasts.length (fc x.d.lasts), RRd 4 x.A3 x.d.waits.length (wcs x.d.waits)]
def RRef (x : RX) : Res := RAll x.parts
theorem cs_one {x : RX} : ∀ u ∈ x.cs, u.oneCell' = true := dv_one
theorem View.ref0 {x : RX} : View (RRef x) (RRd 2 x.A x.d.seen.length (fc x.d.seen)) := View.alls 0 rfl
theorem View.ref1 {x : RX} : View (RRef x) (RRd 2 x.Al x.d.lasts.length (fc x.d.lasts)) := View.alls 1 rfl
theorem View.ref2 {x : RX} : View (RRef x) (RRd 4 x.A3 x.d.waits.length (wcs x.d.waits)) := View.alls 2 rfl
def RD.new (room : Int) : RD := ⟨room, [], [], [], -1⟩
def RX.new (room : Int) : RX := ⟨RD.new room, none, 0, none, 0, none, 0⟩
theorem der_ref {y : RX} {S : List Res} (h0 : ∃ t ∈ S, View t (RRd 2 y.A y.d.seen.length (fc y.d.seen))) (h1 : ∃ t ∈ S, View t (RRd 2 y.Al y.d.lasts.length (fc y.d.lasts))) (h2 : ∃ t ∈ S, View t (RRd 4 y.A3 y.d.waits.length (wcs y.d.waits))) : Der S [RRef y] := by
  refine Der.cons (fun s hs => ?_) Der.nil
  simp only [List.mem_cons, List.not_mem_nil, or_false] at hs
  rcases hs with rfl | rfl | rfl
  · exact h0
  · exact h1
  · exact h2
theorem ref_new {room : Int} : Der [] [RRef (RX.new room)] := by
  intro s hs
  obtain rfl := List.mem_singleton.1 hs
  refine ⟨fun w _ x hx => ?_, fun k hk => ?_⟩
  · simp only [List.mem_cons, List.not_mem_nil, or_false] at hx
    rcases hx with rfl | rfl | rfl <;> exact Rd.nil _ _ _
  · obtain ⟨x, hx, hk⟩ := hk
    simp only [List.mem_cons, List.not_mem_nil, or_false] at hx
    rcases hx with rfl | rfl | rfl <;> exact absurd rfl hk.1
theorem in1 {r : Res} {S : List Res} : ∃ t ∈ r :: S, View t r := ⟨r, List.mem_cons_self .., .same⟩
theorem inr {r a : Res} {S : List Res} (h : ∃ t ∈ S, View t r) : ∃ t ∈ a :: S, View t r := by
  obtain ⟨t, ht, hv⟩ := h
  exact ⟨t, List.mem_cons_of_mem _ ht, hv⟩
theorem inv1 {r a : Res} {S : List Res} (h : View a r) : ∃ t ∈ a :: S, View t r := ⟨a, List.mem_cons_self .., h⟩
theorem rnewX {room : Int} : Con Try.prog 23 [.int .i64 room] [] [] (fun v_ X_ S_ => ∃ y, v_ = (.agg y.cs.toArray) ∧ X_ = [] ∧ S_ = [RRef y] ∧ (y.d = RD.new room)) := by
  exact Con.viaS rnewC (fun s hs => by cases hs) (fun v X S h => by
    obtain ⟨rfl, rfl, rfl⟩ := h
    exact ⟨_, ⟨RX.new room, rfl, rfl, rfl, rfl⟩, ref_new⟩)
theorem rreadX {x : RX} {kk : Nat} {p : List UInt8} (ok : ROk x.d kk) (hkk : kk ≤ 100000) : Con Try.prog 62 [.agg x.cs.toArray, .string (strOf p)] [] [RRef x] (fun v_ X_ S_ => v_ = (.tuple #[.string (strOf (x.d.readB p)), .int .i64 (x.d.readE p)]) ∧ X_ = [] ∧ S_ = []) := by
  exact Con.viaS (rreadC rfl ok hkk) (fun s hs => ⟨_, List.mem_singleton_self _, by rw [List.mem_singleton.1 hs]; exact View.ref0⟩) (fun v X S h => ⟨[], ⟨h.1, h.2.1, rfl⟩, Der.nil⟩)
theorem rusedX {x : RX} {kk : Nat} (ok : ROk x.d kk) (hkk : kk ≤ 100000) : Con Try.prog 38 [.agg x.cs.toArray] [] [RRef x] (fun v_ X_ S_ => v_ = (.int .i64 (totF x.d.seen : Nat)) ∧ X_ = [] ∧ S_ = []) := by
  exact Con.viaS (rusedC rfl (by have := ok.seen; omega) (by have := ok.tot; omega)) (fun s hs => ⟨_, List.mem_singleton_self _, by rw [List.mem_singleton.1 hs]; exact View.ref0⟩) (fun v X S h => ⟨[], ⟨h.1, h.2.1, rfl⟩, Der.nil⟩)
theorem write_lasts (d : RD) (p bb : List UInt8) : (d.write p bb).lasts = d.lasts := by
  unfold RD.write
  split <;> rfl
theorem views02 {x : RX} : ∀ s ∈ [RRd 2 x.A x.d.seen.length (fc x.d.seen), RRd 4 x.A3 x.d.waits.length (wcs x.d.waits)], ∃ t ∈ [RRef x], View t s := by
  intro s hs
  refine ⟨_, List.mem_singleton_self _, ?_⟩
  simp only [List.mem_cons, List.not_mem_nil, or_false] at hs
  rcases hs with rfl | rfl
  · exact View.ref0
  · exact View.ref2
theorem rwriteX {x : RX} {kk : Nat} {p bb : List UInt8} (ok : ROk x.d kk) (hkk : kk ≤ 100000) (hpl : p.length ≤ 1000000) (hbb : bb.length ≤ 1000000) : Con Try.prog 24 [.agg x.cs.toArray, .string (strOf p), .string (strOf bb)] [] [RRef x] (fun v_ X_ S_ => ∃ y, v_ = (.tuple #[.agg y.cs.toArray, .int .i64 (x.d.writeE p bb)]) ∧ X_ = [] ∧ S_ = [RRef y] ∧ (y.d = x.d.write p bb)) := by
  refine Con.viaS (rwriteC rfl rfl ok hkk hpl hbb) views02 (fun v X S h => ?_)
  obtain ⟨A1, n1, c1, A2, n2, c2, rfl, rfl, rfl, rfl, rfl⟩ := h
  refine ⟨_, ⟨⟨x.d.write p bb, A1, c1, x.Al, x.cl, A2, c2⟩, by unfold RX.cs; simp only [write_lasts], rfl, rfl, rfl⟩, der_ref in1 (inr (inr (inv1 ?_))) (inr in1)⟩
  simp only [write_lasts]
  exact View.ref1
theorem rdoX {x : RX} {kk : Nat} {k : Int} {p t bb : List UInt8} (ok : ROk x.d kk) (hkk : kk ≤ 100000) : Con Try.prog 56 [.agg x.cs.toArray, .agg (cv k p t bb).toArray] [] [RRef x] (fun v_ X_ S_ => ∃ y, v_ = (.agg y.cs.toArray) ∧ X_ = [] ∧ S_ = [RRef y] ∧ (y.d = x.d.did k p t bb)) := by
  have h1 := ok.seen
  have h2 := ok.waits
  refine Con.viaS (rdoC rfl (by omega) rfl (by omega) ok.p1 ok.p2) views02 (fun v X S h => ?_)
  obtain ⟨A1, n1, c1, A2, n2, c2, rfl, rfl, rfl, rfl, _, rfl⟩ := h
  have e : (x.d.waits ++ [(k, p, t, bb)]).length = x.d.waits.length + 1 := by simp
  refine ⟨_, ⟨⟨x.d.did k p t bb, A1, c1, x.Al, x.cl, A2, c2⟩, by unfold RX.cs; simp only [RD.did, e]; rfl, rfl, rfl, rfl⟩, der_ref in1 (inr (inr (inv1 View.ref1))) (inr (inv1 ?_))⟩
  simp only [RD.did, e]
  exact .same
/-- what is told of a Rename -/
def RD.renameE (d : RD) (a c : List UInt8) : Int := if ¬ Named c then 1 else d.readE a
def RD.rename (d : RD) (a c : List UInt8) : RD := if d.renameE a c = 0 then d.did 1 a c [] else d
def RD.remove (d : RD) (p : List UInt8) : RD := if d.readE p = 0 then d.did 2 p [] [] else d
theorem rrenameX {x : RX} {kk : Nat} {a c : List UInt8} (ok : ROk x.d kk) (hkk : kk ≤ 100000) (hcl : c.length ≤ 1000000) : Con Try.prog 66 [.agg x.cs.toArray, .string (strOf a), .string (strOf c)] [] [RRef x] (fun v_ X_ S_ => ∃ y, v_ = (.tuple #[.agg y.cs.toArray, .int .i64 (x.d.renameE a c)]) ∧ X_ = [] ∧ S_ = [RRef y] ∧ (y.d = x.d.rename a c)) := by
  refine henter (N := 31) Try.func66 rfl rfl (by simp) fun b => ?_
  refine hseq <| hreg <| ?_
  refine hx (xh_box rfl (fun g3 => ?_))
  refine hmemL (fun w m => m.eqX 0 rfl (show _ = RBlk g3 54 x.cs from congrArg (RBlk _ _) (cells_agg _))) ?_
  refine hx (xh_alloc ti54 (fun g6 => ?_))
  refine hy (fun _ => y_assign rfl) <| hend <| hmemQ (X' := [_, _]) (S' := [_]) (fun _ m => m) <| hthen <| hseq <| hreg <| hy (fun _ => y_move rfl) <| ?_
  refine hx (xh_call rfl Try.call54 (rnamedC (by omega)) [] rfl [] rfl ?_)
  rintro _ _ _ ⟨rfl, rfl, rfl⟩
  refine hy (fun _ => y_assign rfl) <| hend <| hsub (ρ' := [(8, _), (7, _), (6, _), (3, _), (0, _), (1, _), (2, _)]) ⟨rfl, rfl, rfl, rfl, rfl, rfl, rfl, trivial⟩ <| hmemQ (X' := [_, _]) (S' := [_]) (fun _ m => m) <| hthen <| hseq <| hseq <| hreg <| hy (fun _ => y_move rfl) <| hy (fun _ => y_notp rfl) <| hend <| hsub (ρ' := [(14, _), (8, _), (7, _), (6, _), (3, _), (0, _), (1, _), (2, _)]) ⟨rfl, rfl, rfl, rfl, rfl, rfl, rfl, rfl, trivial⟩ <| hthen <| ?_
  refine hif rfl (fun hN => ?_) (fun hN => ?_)
  · have hE : x.d.renameE a c = 1 := by rw [RD.renameE, if_pos hN]
    have hE0 : ¬ (1 : Int) = 0 := by decide
    have hW : x.d.rename a c = x.d := by rw [RD.rename, if_neg (by rw [hE]; exact hE0)]
    rw [hE, hW]
    refine hseq <| hreg <| hy (fun m => yV (y_ldN rfl ag54 sz54 rfl ((m.blk 1 rfl).cells0)) ((rfl : _ = Value.agg x.cs.toArray))) <| ?_
    refine hx0 (xh_stA 0 rfl rfl rfl sz54 rfl cs_one rfl ?_)
    refine hy (fun _ => y_assign rfl) <| hend <| hsub (ρ' := [(7, _), (14, _), (8, _), (6, _), (3, _), (0, _), (1, _), (2, _)]) ⟨rfl, rfl, rfl, rfl, rfl, rfl, rfl, rfl, trivial⟩ <| hmemQ (X' := [_, _]) (S' := [_]) (fun _ m => m) <| hthen <| hret <| hthen_ret <| ?_
    exact hretN1 trivial rfl rfl rfl ag54 sz54 rfl (fun m => (m.blk 0 rfl).cells0) [] rfl [0] rfl ⟨x, rfl, rfl, rfl, rfl⟩
  · have hE : x.d.renameE a c = x.d.readE a := by rw [RD.renameE, if_neg hN]
    refine hcskip <| hthen <| hseq <| hreg <| hy (fun m => yV (y_ldN rfl ag54 sz54 rfl ((m.blk 1 rfl).cells0)) ((rfl : _ = Value.agg x.cs.toArray))) <| hy (fun _ => y_move rfl) <| ?_
    refine hx (xh_call rfl Try.call62 (rreadX (by omega) (by omega)) [] rfl [0] rfl ?_)
    rintro _ _ _ ⟨rfl, rfl, rfl⟩
    refine hy (fun _ => y_move rfl) <| hy (fun _ => y_extract rfl rfl) <| hy (fun _ => y_extract rfl rfl) <| hy (fun _ => y_assign rfl) <| hy (fun _ => y_assign rfl) <| hend <| hsub (ρ' := [(10, _), (14, _), (8, _), (7, _), (6, _), (3, _), (0, _), (1, _), (2, _)]) ⟨rfl, rfl, rfl, rfl, rfl, rfl, rfl, rfl, rfl, trivial⟩ <| hmemQ (X' := [_, _]) (S' := [_]) (fun _ m => m) <| hthen <| hseq <| hseq <| hreg <| hy (fun _ => y_move rfl) <| hy (fun _ => y_neq rfl rfl) <| hend <| hsub (ρ' := [(23, _), (10, _), (14, _), (8, _), (7, _), (6, _), (3, _), (0, _), (1, _), (2, _)]) ⟨rfl, rfl, rfl, rfl, rfl, rfl, rfl, rfl, rfl, rfl, trivial⟩ <| hthen <| ?_
    refine hif rfl (fun hE0 => ?_) (fun hE0 => ?_)
    · have hW : x.d.rename a c = x.d := by rw [RD.rename, if_neg (by rw [hE]; exact hE0)]
      rw [hE, hW]
      refine hseq <| hreg <| hy (fun m => yV (y_ldN rfl ag54 sz54 rfl ((m.blk 1 rfl).cells0)) ((rfl : _ = Value.agg x.cs.toArray))) <| hy (fun _ => y_move rfl) <| ?_
      refine hx0 (xh_stA 0 rfl rfl rfl sz54 rfl cs_one rfl ?_)
      refine hy (fun _ => y_assign rfl) <| hend <| hsub (ρ' := [(7, _), (23, _), (10, _), (14, _), (8, _), (6, _), (3, _), (0, _), (1, _), (2, _)]) ⟨rfl, rfl, rfl, rfl, rfl, rfl, rfl, rfl, rfl, rfl, trivial⟩ <| hmemQ (X' := [_, _]) (S' := [_]) (fun _ m => m) <| hthen <| hret <| hthen_ret <| ?_
      exact hretN1 trivial rfl rfl rfl ag54 sz54 rfl (fun m => (m.blk 0 rfl).cells0) [] rfl [0] rfl ⟨x, rfl, rfl, rfl, rfl⟩
    · have hr0 := Decidable.not_not.1 hE0
      have hW : x.d.rename a c = x.d.did 1 a c [] := by rw [RD.rename, if_pos (by rw [hE]; exact hr0)]
      rw [hE, hW, hr0]
      refine hcskip <| hthen <| hseq <| hreg <| hy (fun m => yV (y_ldN rfl ag54 sz54 rfl ((m.blk 1 rfl).cells0)) ((rfl : _ = Value.agg x.cs.toArray))) <| hy (fun _ => y_move rfl) <| hy (fun _ => y_move rfl) <| hy (fun _ => yV (y_build ti105 rfl rfl (by kernel_rfl) (.cons (o := 0) (sz := 1) (by kernel_rfl) rfl rfl (Nat.le_of_ble_eq_true rfl) (.cons (o := 1) (sz := 1) (by kernel_rfl) rfl rfl (Nat.le_of_ble_eq_true rfl) (.cons (o := 2) (sz := 1) (by kernel_rfl) rfl rfl (Nat.le_of_ble_eq_true rfl) .nil)))) ((rfl : _ = Value.agg (cv 1 a c []).toArray))) <| ?_
      refine hx (xh_call rfl Try.call56 (rdoX (by omega) (by omega)) [] rfl [0] rfl ?_)
      rintro _ _ _ ⟨y, rfl, rfl, rfl, hp⟩
      refine hx0 (xh_stA 0 rfl rfl rfl sz54 rfl cs_one rfl ?_)
      refine hy (fun _ => y_assign rfl) <| hend <| hsub (ρ' := [(7, _), (23, _), (10, _), (14, _), (8, _), (6, _), (3, _), (0, _), (1, _), (2, _)]) ⟨rfl, rfl, rfl, rfl, rfl, rfl, rfl, rfl, rfl, rfl, trivial⟩ <| hmemQ (X' := [_, _]) (S' := [_, _]) (fun _ m => m) <| hthen <| hret <| ?_
      exact hretN1 trivial rfl rfl rfl ag54 sz54 rfl (fun m => (m.blk 0 rfl).cells0) [] rfl [0] rfl ⟨y, rfl, rfl, rfl, hp⟩
theorem rremoveX {x : RX} {kk : Nat} {p : List UInt8} (ok : ROk x.d kk) (hkk : kk ≤ 100000) : Con Try.prog 67 [.agg x.cs.toArray, .string (strOf p)] [] [RRef x] (fun v_ X_ S_ => ∃ y, v_ = (.tuple #[.agg y.cs.toArray, .int .i64 (x.d.readE p)]) ∧ X_ = [] ∧ S_ = [RRef y] ∧ (y.d = x.d.remove p)) := by
  refine henter (N := 22) Try.func67 rfl rfl (by simp) fun b => ?_
  refine hseq <| hreg <| ?_
  refine hx (xh_box rfl (fun g2 => ?_))
  refine hmemL (fun w m => m.eqX 0 rfl (show _ = RBlk g2 54 x.cs from congrArg (RBlk _ _) (cells_agg _))) ?_
  refine hx (xh_alloc ti54 (fun g4 => ?_))
  refine hy (fun _ => y_assign rfl) <| hend <| hmemQ (X' := [_, _]) (S' := [_]) (fun _ m => m) <| hthen <| hseq <| hreg <| hy (fun m => yV (y_ldN rfl ag54 sz54 rfl ((m.blk 1 rfl).cells0)) ((rfl : _ = Value.agg x.cs.toArray))) <| hy (fun _ => y_move rfl) <| ?_
  refine hx (xh_call rfl Try.call62 (rreadX (by omega) (by omega)) [] rfl [0] rfl ?_)
  rintro _ _ _ ⟨rfl, rfl, rfl⟩
  refine hy (fun _ => y_move rfl) <| hy (fun _ => y_extract rfl rfl) <| hy (fun _ => y_extract rfl rfl) <| hy (fun _ => y_assign rfl) <| hy (fun _ => y_assign rfl) <| hend <| hsub (ρ' := [(7, _), (5, _), (4, _), (2, _), (0, _), (1, _)]) ⟨rfl, rfl, rfl, rfl, rfl, rfl, trivial⟩ <| hmemQ (X' := [_, _]) (S' := [_]) (fun _ m => m) <| hthen <| hseq <| hseq <| hreg <| hy (fun _ => y_move rfl) <| hy (fun _ => y_neq rfl rfl) <| hend <| hsub (ρ' := [(15, _), (7, _), (5, _), (4, _), (2, _), (0, _), (1, _)]) ⟨rfl, rfl, rfl, rfl, rfl, rfl, rfl, trivial⟩ <| hthen <| ?_
  refine hif rfl (fun hE0 => ?_) (fun hE0 => ?_)
  · have hW : x.d.remove p = x.d := by rw [RD.remove, if_neg hE0]
    rw [hW]
    refine hseq <| hreg <| hy (fun m => yV (y_ldN rfl ag54 sz54 rfl ((m.blk 1 rfl).cells0)) ((rfl : _ = Value.agg x.cs.toArray))) <| hy (fun _ => y_move rfl) <| ?_
    refine hx0 (xh_stA 0 rfl rfl rfl sz54 rfl cs_one rfl ?_)
    refine hy (fun _ => y_assign rfl) <| hend <| hsub (ρ' := [(5, _), (15, _), (7, _), (4, _), (2, _), (0, _), (1, _)]) ⟨rfl, rfl, rfl, rfl, rfl, rfl, rfl, trivial⟩ <| hmemQ (X' := [_, _]) (S' := [_]) (fun _ m => m) <| hthen <| hret <| hthen_ret <| ?_
    exact hretN1 trivial rfl rfl rfl ag54 sz54 rfl (fun m => (m.blk 0 rfl).cells0) [] rfl [0] rfl ⟨x, rfl, rfl, rfl, rfl⟩
  · have hr0 := Decidable.not_not.1 hE0
    have hW : x.d.remove p = x.d.did 2 p [] [] := by rw [RD.remove, if_pos hr0]
    rw [hW, hr0]
    refine hcskip <| hthen <| hseq <| hreg <| hy (fun m => yV (y_ldN rfl ag54 sz54 rfl ((m.blk 1 rfl).cells0)) ((rfl : _ = Value.agg x.cs.toArray))) <| hy (fun _ => y_move rfl) <| hy (fun _ => yV (y_build ti105 rfl rfl (by kernel_rfl) (.cons (o := 0) (sz := 1) (by kernel_rfl) rfl rfl (Nat.le_of_ble_eq_true rfl) (.cons (o := 1) (sz := 1) (by kernel_rfl) rfl rfl (Nat.le_of_ble_eq_true rfl) .nil))) ((rfl : _ = Value.agg (cv 2 p [] []).toArray))) <| ?_
    refine hx (xh_call rfl Try.call56 (rdoX (by omega) (by omega)) [] rfl [0] rfl ?_)
    rintro _ _ _ ⟨y, rfl, rfl, rfl, hp⟩
    refine hx0 (xh_stA 0 rfl rfl rfl sz54 rfl cs_one rfl ?_)
    refine hy (fun _ => y_assign rfl) <| hend <| hsub (ρ' := [(5, _), (15, _), (7, _), (4, _), (2, _), (0, _), (1, _)]) ⟨rfl, rfl, rfl, rfl, rfl, rfl, rfl, trivial⟩ <| hmemQ (X' := [_, _]) (S' := [_, _]) (fun _ m => m) <| hthen <| hret <| ?_
    exact hretN1 trivial rfl rfl rfl ag54 sz54 rfl (fun m => (m.blk 0 rfl).cells0) [] rfl [0] rfl ⟨y, rfl, rfl, rfl, hp⟩
def RD.syncE (d : RD) : Int := if d.pw = 0 then 6 else 0
def RD.sync (d : RD) : RD := if d.pw = 0 then d else { d with lasts := d.seen, waits := [], pw := lessP d.pw }
theorem rsyncX {x : RX} {kk : Nat} (ok : ROk x.d kk) : Con Try.prog 68 [.agg x.cs.toArray] [] [RRef x] (fun v_ X_ S_ => ∃ y, v_ = (.tuple #[.agg y.cs.toArray, .int .i64 x.d.syncE]) ∧ X_ = [] ∧ S_ = [RRef y] ∧ (y.d = x.d.sync)) := by
  have hp1 := ok.p1
  have hp2 := ok.p2
  refine henter (N := 20) Try.func68 rfl rfl (by simp) fun b => ?_
  refine hseq <| hreg <| ?_
  refine hx (xh_box rfl (fun g1 => ?_))
  refine hmemL (fun w m => m.eqX 0 rfl (show _ = RBlk g1 54 x.cs from congrArg (RBlk _ _) (cells_agg _))) ?_
  refine hx (xh_alloc ti54 (fun g2 => ?_))
  refine hy (fun _ => y_assign rfl) <| hend <| hmemQ (X' := [_, _]) (S' := [_]) (fun _ m => m) <| hthen <| hseq <| hseq <| hreg <| hy (fun _ => y_fld rfl fa54_4 (by decide)) <| hy (fun m => y_ld1 rfl ag3 (ld_blk (m.blk 1 rfl) (i := 4) rfl)) <| hy (fun _ => y_eql rfl rfl) <| hend <| hsub (ρ' := [(6, _), (3, _), (2, _), (1, _), (0, _)]) ⟨rfl, rfl, rfl, rfl, rfl, trivial⟩ <| hthen <| ?_
  refine hif rfl (fun h0 => ?_) (fun h0 => ?_)
  · have hE : x.d.syncE = 6 := by rw [RD.syncE, if_pos h0]
    have hW : x.d.sync = x.d := by rw [RD.sync, if_pos h0]
    rw [hE, hW]
    refine hseq <| hreg <| hy (fun m => yV (y_ldN rfl ag54 sz54 rfl ((m.blk 1 rfl).cells0)) ((rfl : _ = Value.agg x.cs.toArray))) <| ?_
    refine hx0 (xh_stA 0 rfl rfl rfl sz54 rfl cs_one rfl ?_)
    refine hy (fun _ => y_assign rfl) <| hend <| hsub (ρ' := [(3, _), (6, _), (2, _), (1, _), (0, _)]) ⟨rfl, rfl, rfl, rfl, rfl, trivial⟩ <| hmemQ (X' := [_, _]) (S' := [_]) (fun _ m => m) <| hthen <| hret <| hthen_ret <| ?_
    exact hretN1 trivial rfl rfl rfl ag54 sz54 rfl (fun m => (m.blk 0 rfl).cells0) [] rfl [0] rfl ⟨x, rfl, rfl, rfl, rfl⟩
  · have hE : x.d.syncE = 0 := by rw [RD.syncE, if_neg h0]
    have hW : x.d.sync = { x.d with lasts := x.d.seen, waits := [], pw := lessP x.d.pw } := by rw [RD.sync, if_neg h0]
    rw [hE]
    refine hmemC (fun w m => m.asV 0 rfl View.ref0) ?_
    refine hfactC (fun m => rdX (m.rd 0 rfl)) ?_
    rintro ⟨hl_r0, hA_r0⟩
    refine hmemC (fun w m => m.addS (r' := RRd 4 none 0 []) (.refl _ _) (Rd.nil _ _ _) (fun k hk => absurd rfl hk.1)) ?_
    have hA_z : 0 < 0 → (none : Option Addr) ≠ none := fun h => absurd h (by decide)
    refine hcskip <| hthen <| hseq <| hreg <| hy (fun _ => y_fld rfl fa54_1 (by decide)) <| hy (fun m => y_ld1 rfl ag51 (ld_blk (m.blk 1 rfl) (i := 1) rfl)) <| hy (fun _ => y_fld rfl fa54_2 (by decide)) <| ?_
    refine hx0 (xh_st1a 1 rfl rfl rfl sz51 rfl (by first | exact Nat.le_of_ble_eq_true rfl | simp) ?_)
    refine hend <| hsub (ρ' := [(6, _), (3, _), (2, _), (1, _), (0, _)]) ⟨rfl, rfl, rfl, rfl, rfl, trivial⟩ <| hmemQ (X' := [_, _]) (S' := [_, _, _]) (fun _ m => m) <| hthen <| hseq <| hreg <| hy (fun _ => y_fld rfl fa54_3 (by decide)) <| ?_
    refine hx0 (xh_st1a 0 rfl rfl rfl sz52 rfl (by first | exact Nat.le_of_ble_eq_true rfl | simp) ?_)
    refine hend <| hsub (ρ' := [(6, _), (3, _), (2, _), (1, _), (0, _)]) ⟨rfl, rfl, rfl, rfl, rfl, trivial⟩ <| hmemQ (X' := [_, _]) (S' := [_, _, _]) (fun _ m => m) <| hthen <| hseq <| hseq <| hreg <| hy (fun _ => y_fld rfl fa54_4 (by decide)) <| hy (fun m => y_ld1 rfl ag3 (ld_blk (m.blk 0 rfl) (i := 4) rfl)) <| hy (fun _ => y_gtr rfl rfl) <| hend <| hsub (ρ' := [(14, _), (6, _), (3, _), (2, _), (1, _), (0, _)]) ⟨rfl, rfl, rfl, rfl, rfl, rfl, trivial⟩ <| hthen <| ?_
    refine hmemC (S' := RRef ⟨{ x.d with lasts := x.d.seen, waits := [], pw := lessP x.d.pw }, x.A, x.c, x.A, x.c, none, 0⟩ :: _) (fun w m => m.allS [1, 1, 0] rfl) ?_
    refine hif rfl (fun h1 => ?_) (fun h1 => ?_)
    · refine hreg <| hy (fun _ => y_fld rfl fa54_4 (by decide)) <| hy (fun m => y_ld1 rfl ag3 (ld_blk (m.blk 0 rfl) (i := 4) rfl)) <| hy (fun _ => y_sub rfl rfl (w64 (by omega) (by omega))) <| hy (fun _ => y_fld rfl fa54_4 (by decide)) <| ?_
      refine hx0 (xh_st1a 0 rfl rfl rfl sz3 rfl (by first | exact Nat.le_of_ble_eq_true rfl | simp) ?_)
      refine hend <| hsub (ρ' := [(14, _), (6, _), (3, _), (2, _), (1, _), (0, _)]) ⟨rfl, rfl, rfl, rfl, rfl, rfl, trivial⟩ <| hmemQ (X' := [_, _]) (S' := [_, _, _, _]) (fun _ m => m) <| hthen <| hseq <| hreg <| ?_
      refine hmemL (fun w m => m.eqX 0 rfl (show _ = RBlk g1 54 (RX.cs ⟨{ x.d with lasts := x.d.seen, waits := [], pw := lessP x.d.pw }, x.A, x.c, x.A, x.c, none, 0⟩) from by rw [lessP, if_pos h1]; rfl)) ?_
      refine hy (fun m => yV (y_ldN rfl ag54 sz54 rfl ((m.blk 0 rfl).cells0)) ((rfl : _ = Value.agg (RX.cs ⟨{ x.d with lasts := x.d.seen, waits := [], pw := lessP x.d.pw }, x.A, x.c, x.A, x.c, none, 0⟩).toArray))) <| ?_
      refine hx0 (xh_stA 1 rfl rfl rfl sz54 rfl cs_one rfl ?_)
      refine hy (fun _ => y_assign rfl) <| hend <| hsub (ρ' := [(3, _), (14, _), (6, _), (2, _), (1, _), (0, _)]) ⟨rfl, rfl, rfl, rfl, rfl, rfl, trivial⟩ <| hmemQ (X' := [_, _]) (S' := [_, _, _, _]) (fun _ m => m) <| hthen <| hret <| ?_
      exact hretN1 trivial rfl rfl rfl ag54 sz54 rfl (fun m => (m.blk 0 rfl).cells0) [] rfl [0] rfl ⟨_, rfl, rfl, rfl, hW.symm⟩
    · refine hcskip <| hthen <| hseq <| hreg <| ?_
      refine hmemL (fun w m => m.eqX 0 rfl (show _ = RBlk g1 54 (RX.cs ⟨{ x.d with lasts := x.d.seen, waits := [], pw := lessP x.d.pw }, x.A, x.c, x.A, x.c, none, 0⟩) from by rw [lessP, if_neg h1]; rfl)) ?_
      refine hy (fun m => yV (y_ldN rfl ag54 sz54 rfl ((m.blk 0 rfl).cells0)) ((rfl : _ = Value.agg (RX.cs ⟨{ x.d with lasts := x.d.seen, waits := [], pw := lessP x.d.pw }, x.A, x.c, x.A, x.c, none, 0⟩).toArray))) <| ?_
      refine hx0 (xh_stA 1 rfl rfl rfl sz54 rfl cs_one rfl ?_)
      refine hy (fun _ => y_assign rfl) <| hend <| hsub (ρ' := [(3, _), (14, _), (6, _), (2, _), (1, _), (0, _)]) ⟨rfl, rfl, rfl, rfl, rfl, rfl, trivial⟩ <| hmemQ (X' := [_, _]) (S' := [_, _, _, _]) (fun _ m => m) <| hthen <| hret <| ?_
      exact hretN1 trivial rfl rfl rfl ag54 sz54 rfl (fun m => (m.blk 0 rfl).cells0) [] rfl [0] rfl ⟨_, rfl, rfl, rfl, hW.symm⟩
def RD.power (d : RD) (n : Int) : RD := { d with pw := max n (-1) }
theorem rpowerX {x : RX} {n : Int} : Con Try.prog 69 [.agg x.cs.toArray, .int .i64 n] [] [RRef x] (fun v_ X_ S_ => ∃ y, v_ = (.agg y.cs.toArray) ∧ X_ = [] ∧ S_ = [RRef y] ∧ (y.d = x.d.power n)) := by
  refine henter (N := 9) Try.func69 rfl rfl (by simp) fun b => ?_
  refine hseq <| hreg <| ?_
  refine hx (xh_box rfl (fun g2 => ?_))
  refine hmemL (fun w m => m.eqX 0 rfl (show _ = RBlk g2 54 x.cs from congrArg (RBlk _ _) (cells_agg _))) ?_
  refine hmemL (fun w m => m.asV 0 rfl View.ref0) ?_
  refine hfactL (fun m => rdX (m.rd 0 rfl)) ?_
  rintro ⟨hl_r0, hA_r0⟩
  refine hmemL (fun w m => m.asV 1 rfl View.ref1) ?_
  refine hfactL (fun m => rdX (m.rd 0 rfl)) ?_
  rintro ⟨hl_r1, hA_r1⟩
  refine hmemL (fun w m => m.asV 2 rfl View.ref2) ?_
  refine hfactL (fun m => rdX (m.rd 0 rfl)) ?_
  rintro ⟨hl_r2, hA_r2⟩
  refine hx (xh_alloc ti54 (fun g4 => ?_))
  refine hend <| hmemQ (X' := [_, _]) (S' := [_, _, _, _]) (fun _ m => m) <| hthen <| hseq <| hreg <| hy (fun _ => y_move rfl) <| hy (fun _ => y_max rfl rfl) <| hy (fun _ => y_fld rfl fa54_4 (by decide)) <| ?_
  refine hx0 (xh_st1a 1 rfl rfl rfl sz3 rfl (by first | exact Nat.le_of_ble_eq_true rfl | simp) ?_)
  refine hend <| hsub (ρ' := [(4, _), (2, _), (0, _), (1, _)]) ⟨rfl, rfl, rfl, rfl, trivial⟩ <| hmemQ (X' := [_, _]) (S' := [_, _, _, _]) (fun _ m => m) <| hthen <| hseq <| hreg <| ?_
  refine hmemL (S' := RRef ⟨x.d.power n, x.A, x.c, x.Al, x.cl, x.A3, x.c3⟩ :: _) (fun w m => m.allS [2, 1, 0] rfl) ?_
  refine hmemL (fun w m => m.eqX 0 rfl (show _ = RBlk g2 54 (RX.cs ⟨x.d.power n, x.A, x.c, x.Al, x.cl, x.A3, x.c3⟩) from rfl)) ?_
  refine hy (fun m => yV (y_ldN rfl ag54 sz54 rfl ((m.blk 0 rfl).cells0)) ((rfl : _ = Value.agg (RX.cs ⟨x.d.power n, x.A, x.c, x.Al, x.cl, x.A3, x.c3⟩).toArray))) <| ?_
  refine hx0 (xh_stA 1 rfl rfl rfl sz54 rfl cs_one rfl ?_)
  refine hend <| hsub (ρ' := [(4, _), (2, _), (0, _), (1, _)]) ⟨rfl, rfl, rfl, rfl, trivial⟩ <| hmemQ (X' := [_, _]) (S' := [_, _, _, _, _]) (fun _ m => m) <| hthen <| hret <| ?_
  exact hretN trivial rfl rfl ag54 sz54 rfl (fun m => (m.blk 0 rfl).cells0) [] rfl [0] rfl ⟨_, rfl, rfl, rfl, rfl⟩
end Go.Proofs.Ytflcokdkobhieaa
