/- The law DiskPlays, computed; deeds that came in, in cells. -/
import Derived.Test.YtflcokdkobhieaaDiskDo
set_option linter.unusedVariables false
set_option linter.unusedSimpArgs false
set_option maxRecDepth 20000
namespace Go.Proofs.Ytflcokdkobhieaa
open Go.Eng Go.Hx
/-- what is done to a disk, in cells -/
theorem ty_O {xs : List Cell} (h : Ty Try.prog 75 xs) : ∃ (a p t n : Int) (B : Option Addr) (m c : Nat) (ys : List Cell) (l : List UInt8) (B2 : Option Addr) (m2 c2 : Nat) (zs : List Cell), xs = [.v (.int .i64 a), .v (.int .i64 p), .v (.int .i64 t), .v (.int .i64 n), .s 1 B m c ys, .s 1 B2 m2 c2 zs] ∧
    (-9223372036854775808 ≤ a ∧ a ≤ 9223372036854775807) ∧ (-9223372036854775808 ≤ p ∧ p ≤ 9223372036854775807) ∧ (-9223372036854775808 ≤ t ∧ t ≤ 9223372036854775807) ∧ (-9223372036854775808 ≤ n ∧ n ≤ 9223372036854775807) ∧ m ≤ c ∧ m ≤ 140737488351232 ∧ ys.map Cell.val = b8s l ∧ l.length = m ∧ m2 ≤ c2 ∧ Ty Try.prog 27 [.s 1 B2 m2 c2 zs] := by
  obtain ⟨hl, hf⟩ := ty_struct Try.underlying75 h
  have hl6 : xs.length = 6 := hl.trans (by kernel_rfl)
  match xs, hl6 with
  | [x0, x1, x2, x3, x4, x5], _ =>
    obtain ⟨a, e0, h0⟩ := ty_i64 Try.underlying3 (hf 0 _ rfl)
    obtain ⟨p, e1, h1⟩ := ty_i64 Try.underlying3 (hf 1 _ rfl)
    obtain ⟨t, e2, h2⟩ := ty_i64 Try.underlying3 (hf 2 _ rfl)
    obtain ⟨n, e3, h3⟩ := ty_i64 Try.underlying3 (hf 3 _ rfl)
    obtain ⟨B, m, c, ys, l, e4, h4, h5, h6, h7⟩ := ty_bytes Try.underlying44 Try.underlying5 (by kernel_rfl) (by kernel_rfl) (hf 4 _ rfl)
    have h8 := hf 5 _ rfl
    obtain ⟨B2, m2, c2, zs, e5, h9, _⟩ := ty_slice Try.underlying27 h8
    have c1 : Try.prog.cellsOf 4 = 1 := by kernel_rfl
    rw [c1] at e5
    have d0 : x0 = .v (.int .i64 a) := List.singleton_inj.1 e0
    have d1 : x1 = .v (.int .i64 p) := List.singleton_inj.1 e1
    have d2 : x2 = .v (.int .i64 t) := List.singleton_inj.1 e2
    have d3 : x3 = .v (.int .i64 n) := List.singleton_inj.1 e3
    have d4 : x4 = .s 1 B m c ys := List.singleton_inj.1 e4
    have d5 : x5 = .s 1 B2 m2 c2 zs := List.singleton_inj.1 e5
    subst d0 d1 d2 d3 d4 d5
    rw [e5] at h8
    exact ⟨a, p, t, n, B, m, c, ys, l, B2, m2, c2, zs, rfl, h0, h1, h2, h3, h4, h5, h6, h7, h9, h8⟩
theorem bool_cells {P : Program} {e : TypeId} (he : P.underlying e = some .bool) : ∀ {n : Nat} {ys : List Cell}, ys.length = n → (∀ i, i < n → Ty P e ((ys.drop i).take 1)) → ∃ l : List Bool, ys.map Cell.val = bools l ∧ l.length = n := by
  intro n ys hl h
  refine ⟨ys.map fun y => match y.val with | .bool z => z | _ => false, ?_, by simpa using hl⟩
  apply List.ext_getElem?
  intro i
  simp only [bools, List.map_map, List.getElem?_map]
  by_cases hi : i < n
  · obtain ⟨c, hc⟩ := ty_bool he (h i hi)
    have h2 : ((ys.drop i).take 1)[0]? = some (.v (.bool c)) := by rw [hc]; rfl
    rw [List.getElem?_take, if_pos (by omega), List.getElem?_drop, Nat.add_zero] at h2
    rw [h2]
    simp [Cell.val]
  · rw [List.getElem?_eq_none (by omega)]
    rfl
theorem ty_bools {xs : List Cell} (h : Ty Try.prog 27 xs) : ∃ A n c ys l, xs = [.s 1 A n c ys] ∧ n ≤ c ∧ n ≤ 140737488351232 ∧ ys.map Cell.val = bools l ∧ l.length = n := by
  obtain ⟨A, n, c, ys, rfl, h1, h2, h3, h4⟩ := ty_slice Try.underlying27 h
  have c1 : Try.prog.cellsOf 4 = 1 := by kernel_rfl
  have b1 : Try.prog.bytesOf 4 = 1 := by kernel_rfl
  rw [c1] at h3 h4 ⊢
  rw [b1] at h2
  obtain ⟨l, h5, h6⟩ := bool_cells Try.underlying4 (by omega : ys.length = n) (fun i hi => by have := h4 i hi; rwa [Nat.mul_one] at this)
  exact ⟨A, n, c, ys, l, rfl, h1, by omega, h5, h6⟩
theorem Od_cells {w : World} {A : Option Addr} {n i : Nat} {xs ys zs : List Cell} {a p t nn : Int} {B : Option Addr} {m mc : Nat} {B2 : Option Addr} {m2 mc2 : Nat} (h : Rd w 6 A n (xs.map Cell.val)) (he : (xs.drop (i * 6)).take 6 = [.v (.int .i64 a), .v (.int .i64 p), .v (.int .i64 t), .v (.int .i64 nn), .s 1 B m mc ys, .s 1 B2 m2 mc2 zs]) :
    ∀ (j : Nat) (u : Value), (ocs a p t nn B m mc B2 m2 mc2)[j]? = some u → w.cell? (((A.getD d0).add (i * 6)).add j) = some u := by
  intro j u hu
  match j, hu with
  | 0, hu => cases hu; exact rd_fld h (cell_val (piece_get he (o := 0) rfl))
  | 1, hu => cases hu; exact rd_fld h (cell_val (piece_get he (o := 1) rfl))
  | 2, hu => cases hu; exact rd_fld h (cell_val (piece_get he (o := 2) rfl))
  | 3, hu => cases hu; exact rd_fld h (cell_val (piece_get he (o := 3) rfl))
  | 4, hu => cases hu; exact rd_fld h (cell_val (piece_get he (o := 4) rfl))
  | 5, hu => cases hu; exact rd_fld h (cell_val (piece_get he (o := 5) rfl))
  | j + 6, hu => simp [ocs] at hu
theorem likeX {g : Nat} {st : DSt} {x : RX} {kk : Nat} (hD : DS st x.d kk) (hk : kk ≤ 1000) : Con Try.prog 28 [.pointer (some ⟨g, 0, none⟩), .agg x.cs.toArray] [RDisk g st] [RRef x] (fun v_ X_ S_ => v_ = (.bool true) ∧ X_ = [RDisk g st] ∧ S_ = []) := by
  exact Con.viaS (likeC rfl rfl hD.ok hD.rok hk hD.sim) (fun s hs => ⟨_, List.mem_singleton_self _, by rw [List.mem_singleton.1 hs]; exact View.ref0⟩) (fun v X S h => ⟨[], ⟨h.1, h.2.1, rfl⟩, Der.nil⟩)
theorem diskPlaysC {z : Int} {A : Option Addr} {n c : Nat} {xs : List Cell} (hz : -9223372036854775808 ≤ z ∧ z ≤ 9223372036854775807) (hT : Ty Try.prog 71 [.s 6 A n c xs]) : Con Try.prog 6 [.int .i64 z, .slice A n c] [] [RCell (.s 6 A n c xs)] (fun v_ X_ S_ => v_ = (.bool true) ∧ X_ = [] ∧ S_ = []) := by
  obtain ⟨_, _, _, _, e6, hnc, hnb, hxl, hel⟩ := ty_slice Try.underlying71 hT
  have c6 : Try.prog.cellsOf 75 = 6 := by kernel_rfl
  have b6 : Try.prog.bytesOf 75 = 80 := by kernel_rfl
  rw [c6] at e6 hel hxl
  rw [b6] at hnb
  cases e6
  obtain ⟨ar0, ar1⟩ := around_lt z 90 (by decide)
  refine henter (N := 58) Try.func6 rfl rfl (by simp) fun b => ?_
  refine hfactC (fun m => cellF (m.sres 0 rfl)) ?_
  rintro ⟨hl_r, hA_r, hc_r⟩
  refine hseq <| hreg <| hy (fun _ => y_assign rfl) <| hend <| hthen <| hseq <| hreg <| hy (fun _ => y_move rfl) <| ?_
  refine hx (xh_call rfl Try.call20 (aroundC (by omega) (by omega) (by omega)) [] rfl [] rfl ?_)
  rintro _ _ _ ⟨rfl, rfl, rfl⟩
  generalize around z 90 = N0 at ar0 ar1 ⊢
  refine hy (fun _ => y_add rfl rfl (w64 (by omega) (by omega))) <| hy (fun _ => y_assign rfl) <| hend <| hsub (ρ' := [(5, _), (4, _), (0, _), (1, _)]) ⟨rfl, rfl, rfl, rfl, trivial⟩ <| hmemQ (X' := []) (S' := [_]) (fun _ m => m) <| hthen <| hseq <| hreg <| hy (fun _ => y_move rfl) <| ?_
  refine hx (xh_call rfl Try.call22 (newC (by omega) (by omega)) [] rfl [] rfl ?_)
  rintro _ _ _ ⟨g, gs, gl, rfl, rfl, rfl⟩
  refine hy (fun _ => y_move rfl) <| hy (fun _ => y_extract rfl rfl) <| hy (fun _ => y_extract rfl rfl) <| hy (fun _ => y_assign rfl) <| hy (fun _ => y_assign rfl) <| hend <| hsub (ρ' := [(7, _), (6, _), (5, _), (4, _), (0, _), (1, _)]) ⟨rfl, rfl, rfl, rfl, rfl, rfl, trivial⟩ <| hmemQ (X' := [_]) (S' := [_]) (fun _ m => m) <| hthen <| hseq <| hseq <| hreg <| hy (fun _ => y_move rfl) <| hy (fun _ => y_eqPn rfl rfl (by kernel_rfl)) <| hy (fun _ => y_move rfl) <| ?_
  refine hyg (o := _) rfl rfl rfl (fun _ => y_move rfl) <| hyg (o := _) rfl rfl rfl (fun _ => y_neq rfl rfl) <| hy (fun _ => y_pickF rfl rfl) <| hend <| hsub (ρ' := [(25, _), (7, _), (6, _), (5, _), (4, _), (0, _), (1, _)]) ⟨rfl, rfl, rfl, rfl, rfl, rfl, rfl, trivial⟩ <| hthen <| ?_
  refine hiff rfl ((by decide)) ?_
  refine hcskip <| hthen <| hseq <| hreg <| hy (fun _ => y_move rfl) <| ?_
  refine hx (xh_call rfl Try.call23 (rnewX) [] rfl [] rfl ?_)
  rintro _ _ _ ⟨y, rfl, rfl, rfl, hyd⟩
  refine hx (xh_alloc ti54 (fun g8 => ?_))
  refine hx0 (xh_stA 0 rfl rfl rfl sz54 rfl cs_one rfl ?_)
  have hD0 : DS (dinit (1 + N0) gs gl) y.d 0 := by rw [hyd]; exact DS.init (by omega)
  refine hend <| hsub (ρ' := [(8, _), (25, _), (7, _), (6, _), (5, _), (4, _), (0, _), (1, _)]) ⟨rfl, rfl, rfl, rfl, rfl, rfl, rfl, rfl, trivial⟩ <| hmemQ (X' := [_, _]) (S' := [_, _]) (fun _ m => m) <| hthen <| hseq <| hseq <| hreg <| hy (fun _ => y_assign rfl) <| hend <| hthen <| hblock <| ?_
  refine hloop3 (fun i st x => n - i) (fun i st x => [(9, .int .i64 (i : Nat))]) (fun i st x => [RDisk g st, RBlk g8 54 x.cs]) (fun i st x => [RRef x]) (fun i st x => i ≤ 24 ∧ i ≤ n ∧ DS st x.d i) 0 (dinit (1 + N0) gs gl) y [(8, _), (25, _), (7, _), (6, _), (5, _), (0, _), (1, _)] ⟨rfl, rfl, rfl, rfl, rfl, rfl, rfl, trivial⟩ [1, 0] rfl [0] rfl (⟨by decide, Nat.zero_le _, hD0⟩) ⟨rfl, trivial⟩ (fun i st x ⟨h24, hin, hD⟩ => ?_)
  refine hseq <| hseq <| hreg <| hy (fun _ => y_move rfl) <| hy (fun _ => y_move rfl) <| hy (fun _ => y_lenS rfl Try.underlying71) <| hy (fun _ => y_lss rfl rfl) <| hy (fun _ => y_move rfl) <| ?_
  refine hsplit 32 rfl (fun h1 => ?_) (fun h1 => ?_)
  · refine hyg (o := _) rfl rfl rfl (fun _ => y_move rfl) <| hyg (o := _) rfl rfl rfl (fun _ => y_lss rfl rfl) <| hy (fun _ => y_pickT rfl rfl) <| hend <| hsub (ρ' := [(35, _), (9, _), (8, _), (25, _), (7, _), (6, _), (5, _), (0, _), (1, _)]) ⟨rfl, rfl, rfl, rfl, rfl, rfl, rfl, rfl, rfl, trivial⟩ <| hthen <| ?_
    refine hif rfl (fun h2 => ?_) (fun h2 => ?_)
    · obtain ⟨oa, op, ot, on, Bo, mb, mc, ys, lb, B2, m2, mc2, zs2, he, ha1, hp1, ht1, hn1, hmc, hmn, hys, hlb, hmc2, hT2⟩ := ty_O (hel i (by omega))
      obtain ⟨_, _, _, _, bs, e7, _, hm2, hbs, hbl⟩ := ty_bools hT2
      cases e7
      refine hmemC (fun w m => m.asV 2 rfl (View.cellRow (piece_get he (o := 4) rfl) hys)) ?_
      refine hfactC (fun m => rdB (m.rd 0 rfl)) ?_
      rintro ⟨hl_rb, hA_rb⟩
      refine hmemC (fun w m => m.asV 3 rfl (View.cellRow (piece_get he (o := 5) rfl) hbs)) ?_
      refine hfactC (fun m => rdX (m.rd 0 rfl)) ?_
      rintro ⟨hl_rk, hA_rk⟩
      refine hcskip <| hthen <| hseq <| hblock <| hseq <| hdrwPB [1] [0, 1, 2, 3, 4] rfl rfl [6, 10, 11] (.take 0 2 <| .take 1 2 <| .take 2 2 <| .take 3 2 <| .take 4 2 <| .take 5 2 <| .alt 6 (.take 7 2 <| .take 8 2 <| .take 9 3 <| .alt 10 (.alt 11 (.take 12 3 <| .done) (.stop)) (.stop)) (.alt 10 (.alt 6 (.take 7 2 <| .take 8 2 <| .take 9 3 <| .alt 11 (.take 12 3 <| .done) (.stop)) (.stop)) (.stop))) (by kernel_rfl) (by kernel_rfl) rfl 2 <| hpyU (y_move rfl) <| hpy (fun m => yV (y_ldN rfl ag54 sz54 rfl ((m.blk 0 rfl).cells0)) ((rfl : _ = Value.agg x.cs.toArray))) <| hpyU (y_move rfl) <| hpyU (y_move rfl) <| hpyU (y_idxS rfl rfl Try.underlying71 sz75 hA_r rfl (by omega)) <| hpy (fun m => yV (y_ldN rfl ag75 sz75 rfl (Od_cells (View.row0.ok.1 _ (m.sres 4 rfl)) he)) ((rfl : _ = Value.agg (ocs oa op ot on Bo mb mc B2 m2 mc2).toArray))) <| ?_
      refine hpfork ?_ ?_
      · refine hpx (xh_call rfl Try.call35 (doesC hD (by omega) (by omega) (by omega) (by omega) (by omega) (by omega) (by omega) (by omega) (by omega) (by omega) (by omega) (lb := lb) (bs := bs)) [0] rfl [2, 1, 0] rfl ?_)
        rintro _ _ _ ⟨y2, st1, rfl, rfl, rfl, hdd⟩
        refine ⟨(fun _ => wk [1] [1, 2, 3, 4, 5] rfl rfl), ?_⟩
        refine hpyU (y_move rfl) <| hpyU (y_extract rfl rfl) <| hpyU (y_extract rfl rfl) <| ?_
        refine hpx (xh_alloc ti54 (fun g10 => ⟨(fun _ => wk [2] [1, 2, 3, 4, 5] rfl rfl), ?_⟩))
        refine hpx0 (xh_stA 0 rfl rfl rfl sz54 rfl cs_one rfl ⟨(fun h => absurd h (by decide)), ?_⟩)
        refine hpyU (y_assign rfl) <| hpend <| hsub (ρ' := [(11, _), (10, _), (35, _), (9, _), (8, _), (25, _), (7, _), (6, _), (5, _), (0, _), (1, _)]) ⟨rfl, rfl, rfl, rfl, rfl, rfl, rfl, rfl, rfl, rfl, rfl, trivial⟩ <| hmemQ (X' := [_, _, _]) (S' := [_, _, _, _, _, _]) (fun _ m => m) <| hthen <| hseq <| hreg <| hy (fun m => yV (y_ldN rfl ag54 sz54 rfl ((m.blk 0 rfl).cells0)) ((rfl : _ = Value.agg y2.cs.toArray))) <| ?_
        refine hx0 (xh_stA 2 rfl rfl rfl sz54 rfl cs_one rfl ?_)
        refine hend <| hsub (ρ' := [(11, _), (10, _), (35, _), (9, _), (8, _), (25, _), (7, _), (6, _), (5, _), (0, _), (1, _)]) ⟨rfl, rfl, rfl, rfl, rfl, rfl, rfl, rfl, rfl, rfl, rfl, trivial⟩ <| hmemQ (X' := [_, _, _]) (S' := [_, _, _, _, _, _]) (fun _ m => m) <| hthen <| hseq <| hreg <| hy (fun _ => y_move rfl) <| hy (fun _ => (y_not rfl)) <| hy (fun _ => y_move rfl) <| hyg (o := _) rfl rfl rfl (fun _ => y_move rfl) <| hyg (o := _) rfl rfl rfl (fun m => yV (y_ldN rfl ag54 sz54 rfl ((m.blk 0 rfl).cells0)) ((rfl : _ = Value.agg y2.cs.toArray))) <| ?_
        refine hxg (o := _) rfl rfl rfl (xh_call rfl Try.call28 (likeX hdd.1 (by omega)) [2] rfl [0] rfl ?_)
        rintro _ _ _ ⟨rfl, rfl, rfl⟩
        refine hyg (o := _) rfl rfl rfl (fun _ => (y_not rfl)) <| hy (fun _ => y_pickF rfl rfl) <| hend <| hsub (ρ' := [(56, _), (11, _), (10, _), (35, _), (9, _), (8, _), (25, _), (7, _), (6, _), (5, _), (0, _), (1, _)]) ⟨rfl, rfl, rfl, rfl, rfl, rfl, rfl, rfl, rfl, rfl, rfl, rfl, trivial⟩ <| hmemQ (X' := [_, _, _]) (S' := [_, _, _, _, _, _]) (fun _ m => m) <| hthen <| ?_
        refine hiff rfl (rfl) ?_
        refine hcskip <| hqblock <| hthen <| hreg <| hy (fun _ => y_move rfl) <| hy (fun _ => y_add rfl rfl (w64 (by omega) (by omega))) <| hy (fun _ => y_assign rfl) <| hend <| hsub (ρ' := [(9, _), (56, _), (11, _), (10, _), (35, _), (8, _), (25, _), (7, _), (6, _), (5, _), (0, _), (1, _)]) ⟨rfl, rfl, rfl, rfl, rfl, rfl, rfl, rfl, rfl, rfl, rfl, rfl, trivial⟩ <| ?_
        refine hnext3 (i + 1) st1 y2 ⟨rfl, rfl, rfl, rfl, rfl, rfl, rfl, rfl, trivial⟩ [0, 0] rfl [0, 4, 5] rfl (⟨by omega, by omega, hdd.1⟩) (by omega)
      · refine hpx (xh_alloc ti54 (fun g10 => ⟨(fun _ => wk [2] [0, 1, 2, 3, 4] rfl rfl), ?_⟩))
        refine hpx (xh_call rfl Try.call35 (doesC hD (by omega) (by omega) (by omega) (by omega) (by omega) (by omega) (by omega) (by omega) (by omega) (by omega) (by omega) (lb := lb) (bs := bs)) [1] rfl [2, 1, 0] rfl ?_)
        rintro _ _ _ ⟨y2, st1, rfl, rfl, rfl, hdd⟩
        refine ⟨(fun _ => wk [2] [1, 2, 3, 4, 5] rfl rfl), ?_⟩
        refine hpyU (y_move rfl) <| hpyU (y_extract rfl rfl) <| hpyU (y_extract rfl rfl) <| ?_
        refine hpx0 (xh_stA 1 rfl rfl rfl sz54 rfl cs_one rfl ⟨(fun h => absurd h (by decide)), ?_⟩)
        refine hpyU (y_assign rfl) <| hpend <| hsub (ρ' := [(11, _), (10, _), (35, _), (9, _), (8, _), (25, _), (7, _), (6, _), (5, _), (0, _), (1, _)]) ⟨rfl, rfl, rfl, rfl, rfl, rfl, rfl, rfl, rfl, rfl, rfl, trivial⟩ <| hmemQ (X' := [_, _, _]) (S' := [_, _, _, _, _, _]) (fun _ m => m) <| hthen <| hseq <| hreg <| hy (fun m => yV (y_ldN rfl ag54 sz54 rfl ((m.blk 0 rfl).cells0)) ((rfl : _ = Value.agg y2.cs.toArray))) <| ?_
        refine hx0 (xh_stA 2 rfl rfl rfl sz54 rfl cs_one rfl ?_)
        refine hend <| hsub (ρ' := [(11, _), (10, _), (35, _), (9, _), (8, _), (25, _), (7, _), (6, _), (5, _), (0, _), (1, _)]) ⟨rfl, rfl, rfl, rfl, rfl, rfl, rfl, rfl, rfl, rfl, rfl, trivial⟩ <| hmemQ (X' := [_, _, _]) (S' := [_, _, _, _, _, _]) (fun _ m => m) <| hthen <| hseq <| hreg <| hy (fun _ => y_move rfl) <| hy (fun _ => (y_not rfl)) <| hy (fun _ => y_move rfl) <| hyg (o := _) rfl rfl rfl (fun _ => y_move rfl) <| hyg (o := _) rfl rfl rfl (fun m => yV (y_ldN rfl ag54 sz54 rfl ((m.blk 0 rfl).cells0)) ((rfl : _ = Value.agg y2.cs.toArray))) <| ?_
        refine hxg (o := _) rfl rfl rfl (xh_call rfl Try.call28 (likeX hdd.1 (by omega)) [2] rfl [0] rfl ?_)
        rintro _ _ _ ⟨rfl, rfl, rfl⟩
        refine hyg (o := _) rfl rfl rfl (fun _ => (y_not rfl)) <| hy (fun _ => y_pickF rfl rfl) <| hend <| hsub (ρ' := [(56, _), (11, _), (10, _), (35, _), (9, _), (8, _), (25, _), (7, _), (6, _), (5, _), (0, _), (1, _)]) ⟨rfl, rfl, rfl, rfl, rfl, rfl, rfl, rfl, rfl, rfl, rfl, rfl, trivial⟩ <| hmemQ (X' := [_, _, _]) (S' := [_, _, _, _, _, _]) (fun _ m => m) <| hthen <| ?_
        refine hiff rfl (rfl) ?_
        refine hcskip <| hqblock <| hthen <| hreg <| hy (fun _ => y_move rfl) <| hy (fun _ => y_add rfl rfl (w64 (by omega) (by omega))) <| hy (fun _ => y_assign rfl) <| hend <| hsub (ρ' := [(9, _), (56, _), (11, _), (10, _), (35, _), (8, _), (25, _), (7, _), (6, _), (5, _), (0, _), (1, _)]) ⟨rfl, rfl, rfl, rfl, rfl, rfl, rfl, rfl, rfl, rfl, rfl, rfl, trivial⟩ <| ?_
        refine hnext3 (i + 1) st1 y2 ⟨rfl, rfl, rfl, rfl, rfl, rfl, rfl, rfl, trivial⟩ [0, 0] rfl [0, 4, 5] rfl (⟨by omega, by omega, hdd.1⟩) (by omega)
    · refine hexit <| hthen_exit <| hthen_exit <| hqblock_exit <| hthen <| hseq <| hreg <| ?_
      refine hx (xh_call rfl Try.call29 (lives12C) [] rfl [] rfl ?_)
      rintro _ _ _ ⟨rfl, rfl, rfl⟩
      refine hy (fun _ => y_assign rfl) <| hend <| hsub (ρ' := [(4, _), (35, _), (9, _), (8, _), (25, _), (7, _), (6, _), (5, _), (0, _), (1, _)]) ⟨rfl, rfl, rfl, rfl, rfl, rfl, rfl, rfl, rfl, rfl, trivial⟩ <| hmemQ (X' := [_, _]) (S' := [_, _, _]) (fun _ m => m) <| hthen <| hret <| ?_
      exact hret1 trivial rfl rfl [] rfl [] rfl ⟨rfl, rfl, rfl⟩
  · refine hskip rfl rfl rfl (by decide) <| hskip rfl rfl rfl (by decide) <| hy (fun _ => y_pickF rfl rfl) <| hend <| hsub (ρ' := [(35, _), (9, _), (8, _), (25, _), (7, _), (6, _), (5, _), (0, _), (1, _)]) ⟨rfl, rfl, rfl, rfl, rfl, rfl, rfl, rfl, rfl, trivial⟩ <| hthen <| ?_
    refine hiff rfl (rfl) ?_
    refine hexit <| hthen_exit <| hthen_exit <| hqblock_exit <| hthen <| hseq <| hreg <| ?_
    refine hx (xh_call rfl Try.call29 (lives12C) [] rfl [] rfl ?_)
    rintro _ _ _ ⟨rfl, rfl, rfl⟩
    refine hy (fun _ => y_assign rfl) <| hend <| hsub (ρ' := [(4, _), (35, _), (9, _), (8, _), (25, _), (7, _), (6, _), (5, _), (0, _), (1, _)]) ⟨rfl, rfl, rfl, rfl, rfl, rfl, rfl, rfl, rfl, rfl, trivial⟩ <| hmemQ (X' := [_, _]) (S' := [_, _, _]) (fun _ m => m) <| hthen <| hret <| ?_
    exact hret1 trivial rfl rfl [] rfl [] rfl ⟨rfl, rfl, rfl⟩
theorem diskPlays (z : Int) (A : Option Addr) (n c : Nat) (xs : List Cell) (W : World) (hz : -9223372036854775808 ≤ z ∧ z ≤ 9223372036854775807) (hr : (RCell (.s 6 A n c xs)).holds W) (hT : Ty Try.prog 71 [.s 6 A n c xs]) :
    Calls Try.prog 6 #[.int .i64 z, .slice A n c] W fun e w' => e = .returned (.bool true) ∧ Fr No W w' :=
  con_calls (diskPlaysC hz hT) (by
    intro s hs
    obtain rfl := List.mem_singleton.1 hs
    exact hr)
end Go.Proofs.Ytflcokdkobhieaa
