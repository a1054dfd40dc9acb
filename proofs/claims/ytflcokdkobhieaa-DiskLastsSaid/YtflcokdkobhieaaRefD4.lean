/- Contracts: the document's disk (layer 12): Write, Read. -/
import Derived.Test.YtflcokdkobhieaaRefD3
set_option linter.unusedVariables false
set_option linter.unusedSimpArgs false
set_option maxRecDepth 20000
namespace Go.Proofs.Ytflcokdkobhieaa
open Go.Eng Go.Hx
/-- a disk of the document -/
structure RD where
  room : Int
  seen : List FP
  lasts : List FP
  waits : List RC
  pw : Int
def RD.sz (d : RD) (p : List UInt8) : Nat := ((d.seen[findN d.seen p]?).map (·.2.length)).getD 0
def RD.writeE (d : RD) (p bb : List UInt8) : Int := if ¬ Named p then 1 else if d.pw = 0 then 6 else if d.room < (totF d.seen : Int) + (bb.length : Nat) - (d.sz p : Nat) then 5 else 0
def RD.did (d : RD) (k : Int) (p t bb : List UInt8) : RD := { d with seen := makeF d.seen k p t bb, waits := d.waits ++ [(k, p, t, bb)], pw := lessP d.pw }
def RD.write (d : RD) (p bb : List UInt8) : RD := if d.writeE p bb = 0 then d.did 0 p [] bb else d
structure ROk (d : RD) (k : Nat) : Prop where
  seen : d.seen.length ≤ k
  waits : d.waits.length ≤ k
  tot : totF d.seen ≤ k * 1048576
  p1 : -10 ≤ d.pw
  p2 : d.pw ≤ 1000000000000
theorem sz_le (d : RD) (p : List UInt8) : d.sz p ≤ totF d.seen := by
  unfold RD.sz
  cases h : d.seen[findN d.seen p]? with
  | none => simp
  | some x =>
    have h1 := totF_take h
    have h2 := totF_le d.seen (findN d.seen p + 1)
    simp only [Option.map_some, Option.getD_some]
    omega
def rv (d : RD) (A : Option Addr) (n c : Nat) (Al : Option Addr) (nl cl : Nat) (A3 : Option Addr) (n3 c3 : Nat) : List Value := dv d.room (.slice A n c) (.slice Al nl cl) (.slice A3 n3 c3) d.pw
theorem rnewC {room : Int} : Con Try.prog 23 [.int .i64 room] [] [] (fun v_ X_ S_ => v_ = (.agg (dv room (.slice none 0 0) (.slice none 0 0) (.slice none 0 0) (-1)).toArray) ∧ X_ = [] ∧ S_ = []) := by
  refine henter (N := 5) Try.func23 rfl rfl (by simp) fun b => ?_
  refine hseq <| hreg <| ?_
  refine hx (xh_alloc ti54 (fun g2 => ?_))
  refine hend <| hmemQ (X' := [_]) (S' := []) (fun _ m => m) <| hthen <| hseq <| hreg <| hy (fun _ => y_move rfl) <| hy (fun _ => yV (y_build ti54 rfl rfl (by kernel_rfl) (.cons (o := 0) (sz := 1) (by kernel_rfl) rfl rfl (Nat.le_of_ble_eq_true rfl) (.cons (o := 4) (sz := 1) (by kernel_rfl) rfl rfl (Nat.le_of_ble_eq_true rfl) .nil))) ((rfl : _ = Value.agg (dv room (.slice none 0 0) (.slice none 0 0) (.slice none 0 0) (-1)).toArray))) <| ?_
  refine hx0 (xh_stA 0 rfl rfl rfl sz54 rfl dv_one rfl ?_)
  refine hend <| hsub (ρ' := [(2, _), (0, _)]) ⟨rfl, rfl, trivial⟩ <| hmemQ (X' := [_]) (S' := []) (fun _ m => m) <| hthen <| hret <| ?_
  exact hretN trivial rfl rfl ag54 sz54 rfl (fun m => (m.blk 0 rfl).cells0) [] rfl [] rfl ⟨rfl, rfl, rfl⟩
theorem rwriteC {d : RD} {kk : Nat} {A Al A3 : Option Addr} {n c nl cl n3 c3 : Nat} {p bb : List UInt8} (hl : d.seen.length = n) (hw : d.waits.length = n3) (ok : ROk d kk) (hkk : kk ≤ 100000) (hpl : p.length ≤ 1000000) (hbb : bb.length ≤ 1000000) : Con Try.prog 24 [.agg (rv d A n c Al nl cl A3 n3 c3).toArray, .string (strOf p), .string (strOf bb)] [] [RRd 2 A n (fc d.seen), RRd 4 A3 n3 (wcs d.waits)] (fun v_ X_ S_ => ∃ A1 n1 c1 A2 n2 c2, v_ = (.tuple #[.agg (rv (d.write p bb) A1 n1 c1 Al nl cl A2 n2 c2).toArray, .int .i64 (d.writeE p bb)]) ∧ X_ = [] ∧ S_ = [RRd 2 A1 n1 (fc (d.write p bb).seen), RRd 4 A2 n2 (wcs (d.write p bb).waits)] ∧ ((d.write p bb).seen.length = n1 ∧ (d.write p bb).waits.length = n2)) := by
  have hk1 := ok.seen
  have hk2 := ok.waits
  have hk3 := ok.tot
  have hk4 := ok.p1
  have hk5 := ok.p2
  have hsz := sz_le d p
  refine henter (N := 50) Try.func24 rfl rfl (by simp) fun b => ?_
  refine hfactC (fun m => rdX (m.rd 0 rfl)) ?_
  rintro ⟨hl_r, hA_r⟩
  refine hfactC (fun m => rdX (m.rd 1 rfl)) ?_
  rintro ⟨hl_w, hA_w⟩
  refine hseq <| hreg <| ?_
  refine hx (xh_box rfl (fun g3 => ?_))
  refine hmemL (fun w m => m.eqX 0 rfl (show _ = RBlk g3 54 (rv d A n c Al nl cl A3 n3 c3) from congrArg (RBlk _ _) (cells_agg _))) ?_
  refine hx (xh_alloc ti54 (fun g6 => ?_))
  refine hy (fun _ => y_assign rfl) <| hend <| hmemQ (X' := [_, _]) (S' := [_, _]) (fun _ m => m) <| hthen <| hseq <| hreg <| hy (fun _ => y_move rfl) <| ?_
  refine hx (xh_call rfl Try.call54 (rnamedC (by omega)) [] rfl [] rfl ?_)
  rintro _ _ _ ⟨rfl, rfl, rfl⟩
  refine hy (fun _ => y_assign rfl) <| hend <| hsub (ρ' := [(8, _), (7, _), (6, _), (3, _), (0, _), (1, _), (2, _)]) ⟨rfl, rfl, rfl, rfl, rfl, rfl, rfl, trivial⟩ <| hmemQ (X' := [_, _]) (S' := [_, _]) (fun _ m => m) <| hthen <| hseq <| hseq <| hreg <| hy (fun _ => y_move rfl) <| hy (fun _ => y_notp rfl) <| hend <| hsub (ρ' := [(14, _), (8, _), (7, _), (6, _), (3, _), (0, _), (1, _), (2, _)]) ⟨rfl, rfl, rfl, rfl, rfl, rfl, rfl, rfl, trivial⟩ <| hthen <| ?_
  refine hif rfl (fun hN => ?_) (fun hN => ?_)
  · have hE : d.writeE p bb = 1 := by rw [RD.writeE, if_pos hN]
    have hW : d.write p bb = d := by rw [RD.write, if_neg (by rw [hE]; decide)]
    rw [hE, hW]
    refine hseq <| hreg <| hy (fun m => yV (y_ldN rfl ag54 sz54 rfl ((m.blk 1 rfl).cells0)) ((rfl : _ = Value.agg (rv d A n c Al nl cl A3 n3 c3).toArray))) <| ?_
    refine hx0 (xh_stA 0 rfl rfl rfl sz54 rfl dv_one rfl ?_)
    refine hy (fun _ => y_assign rfl) <| hend <| hsub (ρ' := [(7, _), (14, _), (8, _), (6, _), (3, _), (0, _), (1, _), (2, _)]) ⟨rfl, rfl, rfl, rfl, rfl, rfl, rfl, rfl, trivial⟩ <| hmemQ (X' := [_, _]) (S' := [_, _]) (fun _ m => m) <| hthen <| hret <| hthen_ret <| ?_
    exact hretN1 trivial rfl rfl rfl ag54 sz54 rfl (fun m => (m.blk 0 rfl).cells0) [] rfl [0, 1] rfl ⟨_, _, _, _, _, _, rfl, rfl, rfl, ⟨hl, hw⟩⟩
  · refine hcskip <| hthen <| hseq <| hseq <| hreg <| hy (fun _ => y_fld rfl fa54_4 (by decide)) <| hy (fun m => y_ld1 rfl ag3 (ld_blk (m.blk 1 rfl) (i := 4) rfl)) <| hy (fun _ => y_eql rfl rfl) <| hend <| hsub (ρ' := [(18, _), (14, _), (8, _), (7, _), (6, _), (3, _), (0, _), (1, _), (2, _)]) ⟨rfl, rfl, rfl, rfl, rfl, rfl, rfl, rfl, rfl, trivial⟩ <| hthen <| ?_
    refine hif rfl (fun h0 => ?_) (fun h0 => ?_)
    · have hE : d.writeE p bb = 6 := by rw [RD.writeE, if_neg hN, if_pos h0]
      have hW : d.write p bb = d := by rw [RD.write, if_neg (by rw [hE]; decide)]
      rw [hE, hW]
      refine hseq <| hreg <| hy (fun m => yV (y_ldN rfl ag54 sz54 rfl ((m.blk 1 rfl).cells0)) ((rfl : _ = Value.agg (rv d A n c Al nl cl A3 n3 c3).toArray))) <| ?_
      refine hx0 (xh_stA 0 rfl rfl rfl sz54 rfl dv_one rfl ?_)
      refine hy (fun _ => y_assign rfl) <| hend <| hsub (ρ' := [(7, _), (18, _), (14, _), (8, _), (6, _), (3, _), (0, _), (1, _), (2, _)]) ⟨rfl, rfl, rfl, rfl, rfl, rfl, rfl, rfl, rfl, trivial⟩ <| hmemQ (X' := [_, _]) (S' := [_, _]) (fun _ m => m) <| hthen <| hret <| hthen_ret <| ?_
      exact hretN1 trivial rfl rfl rfl ag54 sz54 rfl (fun m => (m.blk 0 rfl).cells0) [] rfl [0, 1] rfl ⟨_, _, _, _, _, _, rfl, rfl, rfl, ⟨hl, hw⟩⟩
    · have hsb := strOf_size bb
      refine hcskip <| hthen <| hseq <| hreg <| hy (fun m => yV (y_ldN rfl ag54 sz54 rfl ((m.blk 1 rfl).cells0)) ((rfl : _ = Value.agg (rv d A n c Al nl cl A3 n3 c3).toArray))) <| ?_
      refine hx (xh_call rfl Try.call38 (rusedC (by omega) (by omega) (by omega)) [] rfl [0] rfl ?_)
      rintro _ _ _ ⟨rfl, rfl, rfl⟩
      refine hy (fun _ => y_move rfl) <| hy (fun _ => y_lenStr rfl Try.underlying9) <| hy (fun _ => y_add rfl rfl (w64 (by omega) (by omega))) <| hy (fun _ => y_assign rfl) <| hend <| hsub (ρ' := [(9, _), (18, _), (14, _), (8, _), (7, _), (6, _), (3, _), (0, _), (1, _), (2, _)]) ⟨rfl, rfl, rfl, rfl, rfl, rfl, rfl, rfl, rfl, rfl, trivial⟩ <| hmemQ (X' := [_, _]) (S' := [_, _]) (fun _ m => m) <| hthen <| hseq <| hreg <| hy (fun _ => y_fld rfl fa54_1 (by decide)) <| hy (fun m => y_ld1 rfl ag51 (ld_blk (m.blk 1 rfl) (i := 1) rfl)) <| hy (fun _ => y_move rfl) <| ?_
      refine hx (xh_call rfl Try.call55 (rfindC (by omega) (by omega)) [] rfl [0] rfl ?_)
      rintro _ _ _ ⟨rfl, rfl, rfl⟩
      refine hy (fun _ => y_assign rfl) <| hend <| hsub (ρ' := [(10, _), (9, _), (18, _), (14, _), (8, _), (7, _), (6, _), (3, _), (0, _), (1, _), (2, _)]) ⟨rfl, rfl, rfl, rfl, rfl, rfl, rfl, rfl, rfl, rfl, rfl, trivial⟩ <| hmemQ (X' := [_, _]) (S' := [_, _]) (fun _ m => m) <| hthen <| hseq <| hseq <| hreg <| hy (fun _ => y_move rfl) <| hy (fun _ => y_geq rfl rfl) <| hend <| hsub (ρ' := [(30, _), (10, _), (9, _), (18, _), (14, _), (8, _), (7, _), (6, _), (3, _), (0, _), (1, _), (2, _)]) ⟨rfl, rfl, rfl, rfl, rfl, rfl, rfl, rfl, rfl, rfl, rfl, rfl, trivial⟩ <| hthen <| ?_
      refine hif rfl (fun hf => ?_) (fun hf => ?_)
      · obtain ⟨x0, hfx⟩ : ∃ x0, d.seen[findN d.seen p]? = some x0 := by
          cases hq : d.seen[findN d.seen p]? with
          | none => exact absurd (findI_neg.2 hq) (by omega)
          | some x0 => exact ⟨x0, rfl⟩
        have hfl : findN d.seen p < d.seen.length := (List.getElem?_eq_some_iff.1 hfx).1
        obtain ⟨f0, f1⟩ := fc_get d.seen _ x0 hfx
        have hfi : findI d.seen p = (findN d.seen p : Nat) := by rw [findI, if_pos hfl]
        have hsx := strOf_size x0.2
        have hs0 : d.sz p = x0.2.length := by unfold RD.sz; rw [hfx]; rfl
        refine hreg <| hy (fun _ => y_move rfl) <| hy (fun _ => y_fld rfl fa54_1 (by decide)) <| hy (fun m => y_ld1 rfl ag51 (ld_blk (m.blk 1 rfl) (i := 1) rfl)) <| hy (fun _ => y_move rfl) <| hy (fun _ => y_idxS rfl rfl Try.underlying51 sz60 hA_r hfi.symm (by omega)) <| hy (fun _ => y_fld rfl fa60_1 (by decide)) <| hy (fun m => yV (y_ld1 rfl ag9 (rd_fld (m.rd 0 rfl) f1)) ((rfl : _ = Value.string (strOf x0.2)))) <| hy (fun _ => y_lenStr rfl Try.underlying9) <| hy (fun _ => y_sub rfl rfl (w64 (by omega) (by omega))) <| hy (fun _ => y_assign rfl) <| hend <| hsub (ρ' := [(9, _), (30, _), (10, _), (18, _), (14, _), (8, _), (7, _), (6, _), (3, _), (0, _), (1, _), (2, _)]) ⟨rfl, rfl, rfl, rfl, rfl, rfl, rfl, rfl, rfl, rfl, rfl, rfl, trivial⟩ <| hthen <| hseq <| hseq <| hreg <| hy (fun _ => y_move rfl) <| hy (fun _ => y_fld rfl fa54_0 (by decide)) <| hy (fun m => y_ld1 rfl ag3 (ld_blk (m.blk 1 rfl) (i := 0) rfl)) <| hy (fun _ => y_gtr rfl rfl) <| hend <| hsub (ρ' := [(43, _), (9, _), (30, _), (10, _), (18, _), (14, _), (8, _), (7, _), (6, _), (3, _), (0, _), (1, _), (2, _)]) ⟨rfl, rfl, rfl, rfl, rfl, rfl, rfl, rfl, rfl, rfl, rfl, rfl, rfl, trivial⟩ <| hthen <| ?_
        refine hif rfl (fun hR => ?_) (fun hR => ?_)
        · have hE : d.writeE p bb = 5 := by rw [RD.writeE, if_neg hN, if_neg h0, if_pos (by omega)]
          have hW : d.write p bb = d := by rw [RD.write, if_neg (by rw [hE]; decide)]
          rw [hE, hW]
          refine hseq <| hreg <| hy (fun m => yV (y_ldN rfl ag54 sz54 rfl ((m.blk 1 rfl).cells0)) ((rfl : _ = Value.agg (rv d A n c Al nl cl A3 n3 c3).toArray))) <| ?_
          refine hx0 (xh_stA 0 rfl rfl rfl sz54 rfl dv_one rfl ?_)
          refine hy (fun _ => y_assign rfl) <| hend <| hsub (ρ' := [(7, _), (43, _), (9, _), (30, _), (10, _), (18, _), (14, _), (8, _), (6, _), (3, _), (0, _), (1, _), (2, _)]) ⟨rfl, rfl, rfl, rfl, rfl, rfl, rfl, rfl, rfl, rfl, rfl, rfl, rfl, trivial⟩ <| hmemQ (X' := [_, _]) (S' := [_, _]) (fun _ m => m) <| hthen <| hret <| hthen_ret <| ?_
          exact hretN1 trivial rfl rfl rfl ag54 sz54 rfl (fun m => (m.blk 0 rfl).cells0) [] rfl [0, 1] rfl ⟨_, _, _, _, _, _, rfl, rfl, rfl, ⟨hl, hw⟩⟩
        · have hE : d.writeE p bb = 0 := by rw [RD.writeE, if_neg hN, if_neg h0, if_neg (by omega)]
          have hW : d.write p bb = d.did 0 p [] bb := by rw [RD.write, if_pos hE]
          rw [hE, hW]
          refine hcskip <| hthen <| hseq <| hreg <| hy (fun m => yV (y_ldN rfl ag54 sz54 rfl ((m.blk 1 rfl).cells0)) ((rfl : _ = Value.agg (dv d.room (.slice A n c) (.slice Al nl cl) (.slice A3 n3 c3) d.pw).toArray))) <| hy (fun _ => y_move rfl) <| hy (fun _ => y_move rfl) <| hy (fun _ => yV (y_build ti105 rfl rfl (by kernel_rfl) (.cons (o := 1) (sz := 1) (by kernel_rfl) rfl rfl (Nat.le_of_ble_eq_true rfl) (.cons (o := 3) (sz := 1) (by kernel_rfl) rfl rfl (Nat.le_of_ble_eq_true rfl) .nil))) ((rfl : _ = Value.agg (cv 0 p [] bb).toArray))) <| ?_
          refine hx (xh_call rfl Try.call56 (rdoC (by omega) (by omega) (by omega) (by omega) (by omega) (by omega)) [] rfl [0, 1] rfl ?_)
          rintro _ _ _ ⟨A1, n1, c1, A2, n2, c2, rfl, rfl, rfl, hp⟩
          refine hfactL (fun m => rdX (m.rd 0 rfl)) ?_
          rintro ⟨hl_q, hA_q⟩
          refine hfactL (fun m => rdX (m.rd 1 rfl)) ?_
          rintro ⟨hl_u, hA_u⟩
          refine hx0 (xh_stA 0 rfl rfl rfl sz54 rfl dv_one rfl ?_)
          refine hy (fun _ => y_assign rfl) <| hend <| hsub (ρ' := [(7, _), (43, _), (9, _), (30, _), (10, _), (18, _), (14, _), (8, _), (6, _), (3, _), (0, _), (1, _), (2, _)]) ⟨rfl, rfl, rfl, rfl, rfl, rfl, rfl, rfl, rfl, rfl, rfl, rfl, rfl, trivial⟩ <| hmemQ (X' := [_, _]) (S' := [_, _, _, _]) (fun _ m => m) <| hthen <| hret <| ?_
          exact hretN1 trivial rfl rfl rfl ag54 sz54 rfl (fun m => (m.blk 0 rfl).cells0) [] rfl [0, 1] rfl ⟨_, _, _, _, _, _, rfl, rfl, rfl, ⟨hp.1.symm, by rw [hp.2.2, ← hw]; exact List.length_append⟩⟩
      · have hs0 : d.sz p = 0 := by
          unfold RD.sz
          rw [findI_neg.1 (by omega)]; rfl
        refine hcskip <| hthen <| hseq <| hseq <| hreg <| hy (fun _ => y_move rfl) <| hy (fun _ => y_fld rfl fa54_0 (by decide)) <| hy (fun m => y_ld1 rfl ag3 (ld_blk (m.blk 1 rfl) (i := 0) rfl)) <| hy (fun _ => y_gtr rfl rfl) <| hend <| hsub (ρ' := [(43, _), (30, _), (10, _), (9, _), (18, _), (14, _), (8, _), (7, _), (6, _), (3, _), (0, _), (1, _), (2, _)]) ⟨rfl, rfl, rfl, rfl, rfl, rfl, rfl, rfl, rfl, rfl, rfl, rfl, rfl, trivial⟩ <| hthen <| ?_
        refine hif rfl (fun hR => ?_) (fun hR => ?_)
        · have hE : d.writeE p bb = 5 := by rw [RD.writeE, if_neg hN, if_neg h0, if_pos (by omega)]
          have hW : d.write p bb = d := by rw [RD.write, if_neg (by rw [hE]; decide)]
          rw [hE, hW]
          refine hseq <| hreg <| hy (fun m => yV (y_ldN rfl ag54 sz54 rfl ((m.blk 1 rfl).cells0)) ((rfl : _ = Value.agg (rv d A n c Al nl cl A3 n3 c3).toArray))) <| ?_
          refine hx0 (xh_stA 0 rfl rfl rfl sz54 rfl dv_one rfl ?_)
          refine hy (fun _ => y_assign rfl) <| hend <| hsub (ρ' := [(7, _), (43, _), (30, _), (10, _), (9, _), (18, _), (14, _), (8, _), (6, _), (3, _), (0, _), (1, _), (2, _)]) ⟨rfl, rfl, rfl, rfl, rfl, rfl, rfl, rfl, rfl, rfl, rfl, rfl, rfl, trivial⟩ <| hmemQ (X' := [_, _]) (S' := [_, _]) (fun _ m => m) <| hthen <| hret <| hthen_ret <| ?_
          exact hretN1 trivial rfl rfl rfl ag54 sz54 rfl (fun m => (m.blk 0 rfl).cells0) [] rfl [0, 1] rfl ⟨_, _, _, _, _, _, rfl, rfl, rfl, ⟨hl, hw⟩⟩
        · have hE : d.writeE p bb = 0 := by rw [RD.writeE, if_neg hN, if_neg h0, if_neg (by omega)]
          have hW : d.write p bb = d.did 0 p [] bb := by rw [RD.write, if_pos hE]
          rw [hE, hW]
          refine hcskip <| hthen <| hseq <| hreg <| hy (fun m => yV (y_ldN rfl ag54 sz54 rfl ((m.blk 1 rfl).cells0)) ((rfl : _ = Value.agg (dv d.room (.slice A n c) (.slice Al nl cl) (.slice A3 n3 c3) d.pw).toArray))) <| hy (fun _ => y_move rfl) <| hy (fun _ => y_move rfl) <| hy (fun _ => yV (y_build ti105 rfl rfl (by kernel_rfl) (.cons (o := 1) (sz := 1) (by kernel_rfl) rfl rfl (Nat.le_of_ble_eq_true rfl) (.cons (o := 3) (sz := 1) (by kernel_rfl) rfl rfl (Nat.le_of_ble_eq_true rfl) .nil))) ((rfl : _ = Value.agg (cv 0 p [] bb).toArray))) <| ?_
          refine hx (xh_call rfl Try.call56 (rdoC (by omega) (by omega) (by omega) (by omega) (by omega) (by omega)) [] rfl [0, 1] rfl ?_)
          rintro _ _ _ ⟨A1, n1, c1, A2, n2, c2, rfl, rfl, rfl, hp⟩
          refine hfactL (fun m => rdX (m.rd 0 rfl)) ?_
          rintro ⟨hl_q, hA_q⟩
          refine hfactL (fun m => rdX (m.rd 1 rfl)) ?_
          rintro ⟨hl_u, hA_u⟩
          refine hx0 (xh_stA 0 rfl rfl rfl sz54 rfl dv_one rfl ?_)
          refine hy (fun _ => y_assign rfl) <| hend <| hsub (ρ' := [(7, _), (43, _), (30, _), (10, _), (9, _), (18, _), (14, _), (8, _), (6, _), (3, _), (0, _), (1, _), (2, _)]) ⟨rfl, rfl, rfl, rfl, rfl, rfl, rfl, rfl, rfl, rfl, rfl, rfl, rfl, trivial⟩ <| hmemQ (X' := [_, _]) (S' := [_, _, _, _]) (fun _ m => m) <| hthen <| hret <| ?_
          exact hretN1 trivial rfl rfl rfl ag54 sz54 rfl (fun m => (m.blk 0 rfl).cells0) [] rfl [0, 1] rfl ⟨_, _, _, _, _, _, rfl, rfl, rfl, ⟨hp.1.symm, by rw [hp.2.2, ← hw]; exact List.length_append⟩⟩
def RD.readE (d : RD) (p : List UInt8) : Int := if d.pw = 0 then 6 else if d.seen[findN d.seen p]? = none then 4 else 0
def RD.readB (d : RD) (p : List UInt8) : List UInt8 := if d.pw = 0 then [] else ((d.seen[findN d.seen p]?).map (·.2)).getD []
theorem rreadC {d : RD} {kk : Nat} {A Al A3 : Option Addr} {n c nl cl n3 c3 : Nat} {p : List UInt8} (hl : d.seen.length = n) (ok : ROk d kk) (hkk : kk ≤ 100000) : Con Try.prog 62 [.agg (rv d A n c Al nl cl A3 n3 c3).toArray, .string (strOf p)] [] [RRd 2 A n (fc d.seen)] (fun v_ X_ S_ => v_ = (.tuple #[.string (strOf (d.readB p)), .int .i64 (d.readE p)]) ∧ X_ = [] ∧ S_ = []) := by
  have hk1 := ok.seen
  refine henter (N := 22) Try.func62 rfl rfl (by simp) fun b => ?_
  refine hfactC (fun m => rdX (m.rd 0 rfl)) ?_
  rintro ⟨hl_r, hA_r⟩
  refine hseq <| hreg <| ?_
  refine hx (xh_box rfl (fun g2 => ?_))
  refine hmemL (fun w m => m.eqX 0 rfl (show _ = RBlk g2 54 (rv d A n c Al nl cl A3 n3 c3) from congrArg (RBlk _ _) (cells_agg _))) ?_
  refine hy (fun _ => y_assign rfl) <| hy (fun _ => y_assign rfl) <| hend <| hmemQ (X' := [_]) (S' := [_]) (fun _ m => m) <| hthen <| hseq <| hreg <| hy (fun _ => y_fld rfl fa54_1 (by decide)) <| hy (fun m => y_ld1 rfl ag51 (ld_blk (m.blk 0 rfl) (i := 1) rfl)) <| hy (fun _ => y_move rfl) <| ?_
  refine hx (xh_call rfl Try.call55 (rfindC (by omega) (by omega)) [] rfl [0] rfl ?_)
  rintro _ _ _ ⟨rfl, rfl, rfl⟩
  refine hy (fun _ => y_assign rfl) <| hend <| hsub (ρ' := [(6, _), (5, _), (4, _), (2, _), (0, _), (1, _)]) ⟨rfl, rfl, rfl, rfl, rfl, rfl, trivial⟩ <| hmemQ (X' := [_]) (S' := [_]) (fun _ m => m) <| hthen <| hseq <| hseq <| hreg <| hy (fun _ => y_fld rfl fa54_4 (by decide)) <| hy (fun m => y_ld1 rfl ag3 (ld_blk (m.blk 0 rfl) (i := 4) rfl)) <| hy (fun _ => y_eql rfl rfl) <| hend <| hsub (ρ' := [(13, _), (6, _), (5, _), (4, _), (2, _), (0, _), (1, _)]) ⟨rfl, rfl, rfl, rfl, rfl, rfl, rfl, trivial⟩ <| hthen <| ?_
  refine hif rfl (fun h0 => ?_) (fun h0 => ?_)
  · have hE : d.readE p = 6 := by rw [RD.readE, if_pos h0]
    have hB : d.readB p = [] := by rw [RD.readB, if_pos h0]
    rw [hE, hB]
    refine hseq <| hreg <| hy (fun _ => y_assign rfl) <| hy (fun _ => y_assign rfl) <| hend <| hthen <| hret <| hthen_ret <| ?_
    exact hret2 trivial rfl rfl rfl [] rfl [] rfl ⟨rfl, rfl, rfl⟩
  · refine hcskip <| hthen <| hseq <| hseq <| hreg <| hy (fun _ => y_move rfl) <| hy (fun _ => y_lss rfl rfl) <| hend <| hsub (ρ' := [(15, _), (13, _), (6, _), (5, _), (4, _), (2, _), (0, _), (1, _)]) ⟨rfl, rfl, rfl, rfl, rfl, rfl, rfl, rfl, trivial⟩ <| hthen <| ?_
    refine hif rfl (fun h1 => ?_) (fun h1 => ?_)
    · have hq := findI_neg.1 h1
      have hE : d.readE p = 4 := by rw [RD.readE, if_neg h0, if_pos hq]
      have hB : d.readB p = [] := by rw [RD.readB, if_neg h0, hq]; rfl
      rw [hE, hB]
      refine hseq <| hreg <| hy (fun _ => y_assign rfl) <| hy (fun _ => y_assign rfl) <| hend <| hthen <| hret <| hthen_ret <| ?_
      exact hret2 trivial rfl rfl rfl [] rfl [] rfl ⟨rfl, rfl, rfl⟩
    · obtain ⟨x0, hfx⟩ : ∃ x0, d.seen[findN d.seen p]? = some x0 := by
        cases hq : d.seen[findN d.seen p]? with
        | none => exact absurd (findI_neg.2 hq) h1
        | some x0 => exact ⟨x0, rfl⟩
      have hfl : findN d.seen p < d.seen.length := (List.getElem?_eq_some_iff.1 hfx).1
      obtain ⟨f0, f1⟩ := fc_get d.seen _ x0 hfx
      have hfi : findI d.seen p = (findN d.seen p : Nat) := by rw [findI, if_pos hfl]
      have hE : d.readE p = 0 := by rw [RD.readE, if_neg h0, if_neg (by rw [hfx]; exact fun e => by cases e)]
      have hB : d.readB p = x0.2 := by rw [RD.readB, if_neg h0, hfx]; rfl
      rw [hE, hB]
      refine hcskip <| hthen <| hseq <| hreg <| hy (fun _ => y_fld rfl fa54_1 (by decide)) <| hy (fun m => y_ld1 rfl ag51 (ld_blk (m.blk 0 rfl) (i := 1) rfl)) <| hy (fun _ => y_move rfl) <| hy (fun _ => y_idxS rfl rfl Try.underlying51 sz60 hA_r hfi.symm (by omega)) <| hy (fun _ => y_fld rfl fa60_1 (by decide)) <| hy (fun m => yV (y_ld1 rfl ag9 (rd_fld (m.rd 0 rfl) f1)) ((rfl : _ = Value.string (strOf x0.2)))) <| hy (fun _ => y_assign rfl) <| hy (fun _ => y_assign rfl) <| hend <| hsub (ρ' := [(5, _), (4, _), (15, _), (13, _), (6, _), (2, _), (0, _), (1, _)]) ⟨rfl, rfl, rfl, rfl, rfl, rfl, rfl, rfl, trivial⟩ <| hthen <| hret <| ?_
      exact hret2 trivial rfl rfl rfl [] rfl [] rfl ⟨rfl, rfl, rfl⟩
end Go.Proofs.Ytflcokdkobhieaa
