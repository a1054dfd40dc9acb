/- What the claim leans on, part 4. -/
import Derived.Test.YtlbecpekemlllaaGreatJC3
import Derived.Laws.BitsAllLaws
import Derived.Test.YtlbecpekemlllaaGreatProg
import Derived.Shelf.Sort.Plain
import Derived.Sort.OwnSorted
import Derived.ChangeSame
section
/- Contract: journal.Read. -/
set_option linter.unusedVariables false
set_option linter.unusedSimpArgs false
set_option maxRecDepth 20000
namespace Go.Proofs.YtlbecpekemlllaaGreat
open Go.Eng Go.Hx
theorem cutPrefixC {s p : List UInt8} (hs : s.length ≤ 70368744177664) (hp : p.length ≤ 70368744177664) : Con Tryz.prog 74 [.string (strOf s), .string (strOf p)] [] [] (fun v_ X_ S_ => v_ = (.tuple #[.string (strOf (if s.take p.length = p then s.drop p.length else s)), .bool (decide (s.take p.length = p))]) ∧ X_ = [] ∧ S_ = []) := by
  exact con_pure fun m => Calls.mono (cutPrefix s p _ hs hp) (fun e w' ⟨h, hw⟩ => ⟨_, h, ⟨rfl, rfl, rfl⟩, hw ▸ Fr.refl _ _⟩)
theorem jmayC {img : List UInt8} {A : Option Addr} {n c : Nat} {ds : List (List UInt8)} (hi : img.length = 32) (hD : D32 ds) (hn : n ≤ 140737488351232) : Con Tryz.prog 57 [.agg (b8s img ++ [Value.slice A n c]).toArray] [] [RRd 32 A n (dc ds)] (fun v_ X_ S_ => v_ = (.bool (decide (JMay ds))) ∧ X_ = [] ∧ S_ = []) := by
  exact con_pure fun m => Calls.mono (may img A n c ds _ hi (m.rd 0 rfl) hD hn) (fun e w' ⟨h, hw⟩ => ⟨_, h, ⟨rfl, rfl, rfl⟩, hw⟩)
theorem jreadC {A : Option Addr} {n c : Nat} {l : List UInt8} (hc : n ≤ c) (hn : n ≤ 1000000) : Con Tryz.prog 43 [.slice A n c] [] [RRd 1 A n (b8s l)] (fun v_ X_ S_ => ∃ img v ds err, v_ = (.tuple #[.agg (b8s img ++ [v]).toArray, .int .i64 err]) ∧ X_ = [ROwn 23 32 v ds.length (dc ds)] ∧ S_ = [] ∧ (img.length = 32 ∧ D32 ds ∧ ReadJ l img ds err)) := by
  have z32 : (List.replicate 32 (0 : UInt8)).length = 32 := by simp
  refine henter (N := 81) Tryz.func43 rfl rfl (by simp) fun b => ?_
  refine hfactC (fun m => rdB (m.rd 0 rfl)) ?_
  rintro ⟨hl_r, hA_r⟩
  refine hseq <| hreg <| ?_
  refine hx (xh_alloc ti40 (fun g2 => ?_))
  refine hy (fun _ => y_assign rfl) <| hend <| hmemQ (X' := [_]) (S' := [_]) (fun _ m => m) <| hthen <| hseq <| hreg <| hy (fun _ => y_move rfl) <| ?_
  refine hx (xh_call rfl Tryz.call73 (crcTakeC (by omega) (by omega)) [] rfl [0] rfl ?_)
  rintro _ _ _ ⟨v, rfl, rfl, rfl⟩
  refine hfactL (fun m => (m.own 0 rfl).slice) ?_
  rintro ⟨A_x, c_x, rfl, hc_x⟩
  refine hfactL (fun m => (m.ord 0 rfl).2.1) fun hA_x => ?_
  refine hy (fun _ => y_move rfl) <| hy (fun _ => y_extract rfl rfl) <| hy (fun _ => y_extract rfl rfl) <| hy (fun _ => y_assign rfl) <| hy (fun _ => y_assign rfl) <| hend <| hsub (ρ' := [(5, _), (4, _), (3, _), (2, _), (0, _)]) ⟨rfl, rfl, rfl, rfl, rfl, trivial⟩ <| hmemQ (X' := [_, _]) (S' := [_]) (fun _ m => m) <| hthen <| hseq <| hseq <| hreg <| hy (fun _ => y_move rfl) <| hy (fun _ => y_neq rfl rfl) <| hend <| hsub (ρ' := [(17, _), (5, _), (4, _), (3, _), (2, _), (0, _)]) ⟨rfl, rfl, rfl, rfl, rfl, rfl, trivial⟩ <| hthen <| ?_
  refine hif rfl (fun h => ?_) (fun h => ?_)
  · refine hseq <| hreg <| hy (fun _ => y_build0 ti40 rfl (by kernel_rfl)) <| hy (fun _ => y_move rfl) <| ?_
    refine hx0 (xh_stA 1 rfl rfl rfl sz40 (j_len z32) (j_one (s := .slice none 0 0) rfl) rfl ?_)
    refine hy (fun _ => y_assign rfl) <| hend <| hsub (ρ' := [(3, _), (17, _), (5, _), (4, _), (2, _), (0, _)]) ⟨rfl, rfl, rfl, rfl, rfl, rfl, trivial⟩ <| hmemQ (X' := [_, _]) (S' := [_]) (fun _ m => m) <| hthen <| hret <| hthen_ret <| ?_
    refine hmemQ (fun w m => m.addX (r' := ROwn 23 32 (.slice none 0 0) 0 []) (.refl _ _) (Own.nil _ _ _ _) (fun k hk => hk.elim)) ?_
    exact hretN1 trivial rfl rfl rfl ag40 sz40 (j_len z32) (fun m => (m.blk 1 rfl).cells0) [0] rfl [] rfl ⟨_, _, [], _, rfl, rfl, rfl, ⟨z32, D32nil, .inl ⟨h, rfl, rfl, rfl⟩⟩⟩
  · have h0 := Decidable.not_not.1 h
    have hn4 : 4 ≤ n := by
      rcases Nat.lt_or_ge l.length 4 with hlt | hge
      · rw [(takeE_2 hlt).1] at h0; omega
      · omega
    have hB : takeB l = l.take (l.length - 4) := by rw [takeB, if_pos h0]
    have hbl := takeB_len h0
    generalize takeB l = B at hB hbl
    have hbad : ¬ OkJ B → ReadJ l (List.replicate 32 0) [] 2 := fun hb => .inr (.inr ⟨h0, by rw [← hB]; exact hb, rfl, rfl, rfl⟩)
    have hok : OkJ B → ReadJ l (imgOf B) (dsOf B) 0 := fun hb => .inr (.inl ⟨h0, by rw [← hB]; exact hb, by rw [← hB], by rw [← hB], rfl⟩)
    refine hcskip <| hthen <| hseq <| hreg <| hy (fun _ => y_move rfl) <| hy (fun m => y_b2s rfl Tryz.underlying63 Tryz.underlying5 Tryz.underlying9 (m.ord 0 rfl)) <| ?_
    refine hx (xh_call rfl Tryz.call74 (cutPrefixC (by omega) (by decide)) [] rfl [] rfl ?_)
    rintro _ _ _ ⟨rfl, rfl, rfl⟩
    refine hy (fun _ => y_move rfl) <| hy (fun _ => y_extract rfl rfl) <| hy (fun _ => y_extract rfl rfl) <| hy (fun _ => y_assign rfl) <| hy (fun _ => y_assign rfl) <| hend <| hsub (ρ' := [(7, _), (6, _), (17, _), (5, _), (4, _), (3, _), (2, _), (0, _)]) ⟨rfl, rfl, rfl, rfl, rfl, rfl, rfl, rfl, trivial⟩ <| hmemQ (X' := [_, _]) (S' := [_]) (fun _ m => m) <| hthen <| hseq <| hseq <| hreg <| hy (fun _ => y_move rfl) <| hy (fun _ => y_notp rfl) <| hy (fun _ => y_move rfl) <| ?_
    refine hsplit 28 rfl (fun hp => ?_) (fun hp => ?_)
    · refine hskip rfl rfl rfl (by decide) <| hskip rfl rfl rfl (by decide) <| hskip rfl rfl rfl (by decide) <| hy (fun _ => y_pickT rfl rfl) <| hend <| hsub (ρ' := [(32, _), (7, _), (6, _), (17, _), (5, _), (4, _), (3, _), (2, _), (0, _)]) ⟨rfl, rfl, rfl, rfl, rfl, rfl, rfl, rfl, rfl, trivial⟩ <| hthen <| ?_
      refine hift rfl (rfl) ?_
      refine hseq <| hreg <| hy (fun _ => y_build0 ti40 rfl (by kernel_rfl)) <| ?_
      refine hx0 (xh_stA 1 rfl rfl rfl sz40 (j_len z32) (j_one (s := .slice none 0 0) rfl) rfl ?_)
      refine hy (fun _ => y_assign rfl) <| hend <| hsub (ρ' := [(3, _), (32, _), (7, _), (6, _), (17, _), (5, _), (4, _), (2, _), (0, _)]) ⟨rfl, rfl, rfl, rfl, rfl, rfl, rfl, rfl, rfl, trivial⟩ <| hmemQ (X' := [_, _]) (S' := [_]) (fun _ m => m) <| hthen <| hret <| hthen_ret <| ?_
      refine hmemQ (fun w m => m.addX (r' := ROwn 23 32 (.slice none 0 0) 0 []) (.refl _ _) (Own.nil _ _ _ _) (fun k hk => hk.elim)) ?_
      exact hretN1 trivial rfl rfl rfl ag40 sz40 (j_len z32) (fun m => (m.blk 1 rfl).cells0) [0] rfl [] rfl ⟨_, _, [], _, rfl, rfl, rfl, ⟨z32, D32nil, hbad (fun hb => hp ((okJ_iff hb.len).1 hb).1)⟩⟩
    · have hp := Decidable.not_not.1 hp
      have hp' : B.take 4 = [76, 84, 74, 49] := hp
      rw [if_pos hp]
      show HL _ _ _ _ _ _ ((28, Value.bool false) :: _) _ _ _
      rw [show ([76, 84, 74, 49] : List UInt8).length = 4 from rfl]
      have hsz := strOf_size (B.drop 4)
      have hdl : (B.drop 4).length = n - 4 - 4 := by rw [List.length_drop, hbl, hl_r]
      refine hyg (o := _) rfl rfl rfl (fun _ => y_move rfl) <| hyg (o := _) rfl rfl rfl (fun _ => y_lenStr rfl Tryz.underlying9) <| hyg (o := _) rfl rfl rfl (fun _ => y_lss rfl rfl) <| hy (fun _ => y_pickF rfl rfl) <| hend <| hsub (ρ' := [(32, _), (7, _), (6, _), (17, _), (5, _), (4, _), (3, _), (2, _), (0, _)]) ⟨rfl, rfl, rfl, rfl, rfl, rfl, rfl, rfl, rfl, trivial⟩ <| hthen <| ?_
      refine hif rfl (fun h5 => ?_) (fun h5 => ?_)
      · refine hseq <| hreg <| hy (fun _ => y_build0 ti40 rfl (by kernel_rfl)) <| ?_
        refine hx0 (xh_stA 1 rfl rfl rfl sz40 (j_len z32) (j_one (s := .slice none 0 0) rfl) rfl ?_)
        refine hy (fun _ => y_assign rfl) <| hend <| hsub (ρ' := [(3, _), (32, _), (7, _), (6, _), (17, _), (5, _), (4, _), (2, _), (0, _)]) ⟨rfl, rfl, rfl, rfl, rfl, rfl, rfl, rfl, rfl, trivial⟩ <| hmemQ (X' := [_, _]) (S' := [_]) (fun _ m => m) <| hthen <| hret <| hthen_ret <| ?_
        refine hmemQ (fun w m => m.addX (r' := ROwn 23 32 (.slice none 0 0) 0 []) (.refl _ _) (Own.nil _ _ _ _) (fun k hk => hk.elim)) ?_
        exact hretN1 trivial rfl rfl rfl ag40 sz40 (j_len z32) (fun m => (m.blk 1 rfl).cells0) [0] rfl [] rfl ⟨_, _, [], _, rfl, rfl, rfl, ⟨z32, D32nil, hbad (fun hb => by have := hb.len; omega)⟩⟩
      · have h40 : 40 ≤ B.length := by omega
        have hiL := img_len h40
        have e36 : (bytesOf (strOf (imgOf B))) = imgOf B := rfl
        have l36 : (bytesOf (strOf (imgOf B))).length = 32 := hiL
        refine hcskip <| hthen <| hseq <| hreg <| hy (fun _ => y_move rfl) <| hy (fun _ => yV (y_strTo rfl rfl Tryz.underlying9 (show ((32 : Nat) : Int) = 32 from rfl) (by rw [bytesOf_strOf]; omega)) ((rfl : Value.string _ = .string (strOf (imgOf B))))) <| ?_
        refine hx (xh_s2b rfl Tryz.underlying9 Tryz.underlying63 Tryz.underlying5 (by rw [bytesOf_strOf, hiL]; decide) (fun v36 => ?_))
        refine hfactL (fun m => (m.own 0 rfl).slice) ?_
        rintro ⟨A_b36, c_b36, rfl, hc_b36⟩
        refine hfactL (fun m => (m.ord 0 rfl).2.1) fun hA_b36 => ?_
        refine hfactL (fun m => (m.ord 0 rfl).some (by rw [e36, hiL]; decide)) fun h_ => ?_
        obtain ⟨a36, rfl⟩ : ∃ a_, A_b36 = some a_ := ⟨_, h_⟩
        clear h_
        refine hy (fun _ => y_arrAt rfl Tryz.underlying23 (by omega)) <| hy (fun m => yV (y_ldN rfl ag23 sz23 (by rw [b8s_length]; exact hiL) ((m.ord 0 rfl).2.2)) ((rfl : Value.agg _ = .agg (b8s (imgOf B)).toArray))) <| hy (fun _ => y_build ti40 rfl rfl (by kernel_rfl) (bldJ0 pl40_0 (by simp) hiL)) <| ?_
        refine hx (xh_alloc ti40 (fun g8 => ?_))
        refine hx0 (xh_stA 0 rfl rfl rfl sz40 (j_len hiL) (j_one (s := .slice none 0 0) rfl) rfl ?_)
        refine hend <| hsub (ρ' := [(8, _), (32, _), (7, _), (6, _), (17, _), (5, _), (4, _), (3, _), (2, _), (0, _)]) ⟨rfl, rfl, rfl, rfl, rfl, rfl, rfl, rfl, rfl, rfl, trivial⟩ <| hmemQ (X' := [_, _, _, _]) (S' := [_]) (fun _ m => m) <| hthen <| hseq <| hreg <| hy (fun _ => y_assign rfl) <| hend <| hthen <| hseq <| hseq <| hreg <| hy (fun _ => y_assign rfl) <| hend <| hthen <| hblock <| ?_
        refine hloop1 (fun j => 4 - j) (fun j => [(9, .int .i64 (acc ((B.drop 36).take 4) j : Nat)), (10, .int .i64 (3 - (j : Int)))]) (fun j => []) (fun j => []) (fun j => j ≤ 4) 0 [(8, _), (32, _), (7, _), (6, _), (17, _), (5, _), (4, _), (3, _), (2, _), (0, _)] ⟨rfl, rfl, rfl, rfl, rfl, rfl, rfl, rfl, rfl, rfl, trivial⟩ [] rfl [] rfl (Nat.zero_le _) ⟨rfl, rfl, trivial⟩ (fun j hI => ?_)
        refine hseq <| hseq <| hreg <| hy (fun _ => y_move rfl) <| hy (fun _ => y_geq rfl rfl) <| hend <| hsub (ρ' := [(41, _), (9, _), (10, _), (8, _), (32, _), (7, _), (6, _), (17, _), (5, _), (4, _), (3, _), (2, _), (0, _)]) ⟨rfl, rfl, rfl, rfl, rfl, rfl, rfl, rfl, rfl, rfl, rfl, rfl, rfl, trivial⟩ <| hthen <| ?_
        refine hif rfl (fun hj => ?_) (fun hj => ?_)
        · have hl36 : ((B.drop 36).take 4).length = 4 := by rw [List.length_take, List.length_drop]; omega
          have hac := acc_le ((B.drop 36).take 4) (show j ≤ 4 by omega)
          have hby : (((B.drop 36).take 4).getD (3 - j) 0).toNat < 256 := UInt8.toNat_lt _
          have hget : (B.drop 4).getD (32 + (3 - j)) 0 = ((B.drop 36).take 4).getD (3 - j) 0 := by
            simp only [List.getD, List.getElem?_take, List.getElem?_drop]
            rw [if_pos (by omega), show 4 + (32 + (3 - j)) = 36 + (3 - j) by omega]
          have hlet : (strOf (B.drop 4)).data[32 + (3 - j)]? = some (((B.drop 36).take 4).getD (3 - j) 0) := by rw [strOf_at (by omega), hget]
          refine hcskip <| hthen <| hseq <| hblock <| hreg <| hy (fun _ => y_move rfl) <| hy (fun _ => y_shl (p := 256) rfl rfl (by decide) (by decide) (by decide) (w64 (by omega) (by omega))) <| hy (fun _ => y_move rfl) <| hy (fun _ => y_move rfl) <| hy (fun _ => y_add rfl rfl (w64 (by omega) (by omega))) <| hy (fun _ => y_idxStr rfl rfl Tryz.underlying9 (show ((32 + (3 - j) : Nat) : Int) = _ by omega) hlet) <| hy (fun _ => y_conv rfl Tryz.underlying5 Tryz.underlying3 (wb8 _)) <| hy (fun _ => y_bits (by simp) rfl rfl (or_byte _ _ hac hby)) <| hy (fun _ => y_assign rfl) <| hend <| hsub (ρ' := [(9, _), (41, _), (10, _), (8, _), (32, _), (7, _), (6, _), (17, _), (5, _), (4, _), (3, _), (2, _), (0, _)]) ⟨rfl, rfl, rfl, rfl, rfl, rfl, rfl, rfl, rfl, rfl, rfl, rfl, rfl, trivial⟩ <| hqblock <| hthen <| hreg <| hy (fun _ => y_move rfl) <| hy (fun _ => yV (y_sub rfl rfl (w64 (by omega) (by omega))) ((show Value.int .i64 ((3 - (j : Int)) - 1) = .int .i64 (3 - ((j + 1 : Nat) : Int)) by congr 1; omega))) <| hy (fun _ => y_assign rfl) <| hend <| hsub (ρ' := [(10, _), (9, _), (41, _), (8, _), (32, _), (7, _), (6, _), (17, _), (5, _), (4, _), (3, _), (2, _), (0, _)]) ⟨rfl, rfl, rfl, rfl, rfl, rfl, rfl, rfl, rfl, rfl, rfl, rfl, rfl, trivial⟩ <| ?_
          refine hnext1 (j + 1) ⟨rfl, rfl, rfl, rfl, rfl, rfl, rfl, rfl, rfl, rfl, rfl, rfl, trivial⟩ [0, 0, 0, 0] rfl [0] rfl (by omega) (by omega)
        · obtain rfl : j = 4 := by omega
          rw [acc4]
          have hnl := num4_lt ((B.drop 36).take 4)
          have hok1 := okJ_iff h40
          generalize num4 ((B.drop 36).take 4) = N at hnl hok1
          refine hexit <| hthen_exit <| hthen_exit <| hqblock_exit <| hthen <| hseq <| hreg <| hy (fun _ => y_move rfl) <| hy (fun _ => yV (y_strFrom rfl rfl Tryz.underlying9 (show ((36 : Nat) : Int) = 36 from rfl) (by rw [bytesOf_strOf]; omega)) ((show Value.string (strOf ((B.drop 4).drop 36)) = .string (strOf (B.drop 40)) by rw [List.drop_drop]))) <| hy (fun _ => y_assign rfl) <| hend <| hsub (ρ' := [(6, _), (41, _), (9, _), (10, _), (8, _), (32, _), (7, _), (17, _), (5, _), (4, _), (3, _), (2, _), (0, _)]) ⟨rfl, rfl, rfl, rfl, rfl, rfl, rfl, rfl, rfl, rfl, rfl, rfl, rfl, trivial⟩ <| hthen <| hseq <| hseq <| hreg <| hy (fun _ => y_move rfl) <| hy (fun _ => y_lenStr rfl Tryz.underlying9) <| hy (fun _ => y_move rfl) <| hy (fun _ => y_mul rfl rfl (w64 (by omega) (by omega))) <| hy (fun _ => y_neq rfl rfl) <| hend <| hsub (ρ' := [(58, _), (6, _), (41, _), (9, _), (10, _), (8, _), (32, _), (7, _), (17, _), (5, _), (4, _), (3, _), (2, _), (0, _)]) ⟨rfl, rfl, rfl, rfl, rfl, rfl, rfl, rfl, rfl, rfl, rfl, rfl, rfl, rfl, trivial⟩ <| hthen <| ?_
          have hd40 := strOf_size (B.drop 40)
          have hl40 : (B.drop 40).length = B.length - 40 := List.length_drop
          refine hif rfl (fun h58 => ?_) (fun h58 => ?_)
          · refine hseq <| hreg <| hy (fun _ => y_build0 ti40 rfl (by kernel_rfl)) <| ?_
            refine hx0 (xh_stA 3 rfl rfl rfl sz40 (j_len z32) (j_one (s := .slice none 0 0) rfl) rfl ?_)
            refine hy (fun _ => y_assign rfl) <| hend <| hsub (ρ' := [(3, _), (58, _), (6, _), (41, _), (9, _), (10, _), (8, _), (32, _), (7, _), (17, _), (5, _), (4, _), (2, _), (0, _)]) ⟨rfl, rfl, rfl, rfl, rfl, rfl, rfl, rfl, rfl, rfl, rfl, rfl, rfl, rfl, trivial⟩ <| hmemQ (X' := [_, _, _, _]) (S' := [_]) (fun _ m => m) <| hthen <| hret <| hthen_ret <| ?_
            refine hmemQ (fun w m => m.addX (r' := ROwn 23 32 (.slice none 0 0) 0 []) (.refl _ _) (Own.nil _ _ _ _) (fun k hk => hk.elim)) ?_
            exact hretN1 trivial rfl rfl rfl ag40 sz40 (j_len z32) (fun m => (m.blk 1 rfl).cells0) [0] rfl [] rfl ⟨_, _, [], _, rfl, rfl, rfl, ⟨z32, D32nil, hbad (fun hb => h58 (by have := (hok1.1 hb).2.1; omega))⟩⟩
          · refine hmemC (fun w m => m.addX (r' := ROwn 23 32 (.slice none 0 0) 0 []) (.refl _ _) (Own.nil _ _ _ _) (fun k hk => hk.elim)) ?_
            refine hcskip <| hthen <| hseq <| hseq <| hreg <| hy (fun _ => y_move rfl) <| hy (fun _ => y_move rfl) <| hend <| hthen <| hblock <| ?_
            refine hloop3 (fun k A c1 => N - k) (fun k A c1 => [(6, .string (strOf (B.drop (40 + 32 * k)))), (61, .int .i64 (k : Nat))]) (fun k A c1 => [RBlk g8 40 (b8s (imgOf B) ++ [Value.slice A k c1]), ROwn 23 32 (.slice A k c1) k (dc (chunks k (B.drop 40)))]) (fun k A c1 => []) (fun k A c1 => k ≤ N) 0 none 0 [(60, _), (58, _), (41, _), (9, _), (10, _), (8, _), (32, _), (7, _), (17, _), (5, _), (4, _), (3, _), (2, _), (0, _)] ⟨rfl, rfl, rfl, rfl, rfl, rfl, rfl, rfl, rfl, rfl, rfl, rfl, rfl, rfl, trivial⟩ [1, 0] rfl [] rfl (Nat.zero_le _) ⟨rfl, rfl, trivial⟩ (fun k A c1 hI => ?_)
            refine hseq <| hreg <| hy (fun _ => y_lss rfl rfl) <| hend <| hthen <| hseq <| ?_
            refine hif rfl (fun h62 => ?_) (fun h62 => ?_)
            · have hsz : (B.drop (40 + 32 * k)).length = B.length - (40 + 32 * k) := List.length_drop
              have hl32 : ((B.drop (40 + 32 * k)).take 32).length = 32 := by rw [List.length_take]; omega
              have l67 : (bytesOf (strOf ((B.drop (40 + 32 * k)).take 32))).length = 32 := hl32
              refine hcskip <| hthen <| hseq <| hblock <| hseq <| hdrw [4, 6, 7, 8, 10] [(0, some 3), (1, some 3), (2, some 4), (3, some 4), (4, none), (5, some 1), (6, none), (7, none), (8, none), (9, some 4), (10, none)] (by kernel_rfl) (by kernel_rfl) rfl 3 <| htyU (y_fld rfl fa40_1 (by decide)) <| hty (fun m => y_ld1 rfl ag24 (j_s (m.blk 0 rfl) hiL)) <| htyU (y_move rfl) <| htyU (yV (y_strTo rfl rfl Tryz.underlying9 (show ((32 : Nat) : Int) = 32 from rfl) (by rw [bytesOf_strOf]; omega)) ((rfl : Value.string _ = .string (strOf ((B.drop (40 + 32 * k)).take 32))))) <| ?_
              refine htx (xh_s2b rfl Tryz.underlying9 Tryz.underlying63 Tryz.underlying5 (by rw [l67]; decide) (fun v67 => ⟨(fun _ => wk [1, 1, 1, 1, 1] [0] rfl rfl), ?_⟩))
              refine htfact (fun m => (m.own 0 rfl).slice) ?_
              rintro ⟨A_b67, c_b67, rfl, hc_b67⟩
              refine htfact (fun m => (m.ord 0 rfl).2.1) fun hA_b67 => ?_
              refine htfact (fun m => (m.ord 0 rfl).some (by rw [l67]; decide)) fun h_ => ?_
              obtain ⟨a67, rfl⟩ : ∃ a_, A_b67 = some a_ := ⟨_, h_⟩
              clear h_
              have hcl : (b8s ((B.drop (40 + 32 * k)).take 32)).length = 32 := by rw [b8s_length]; exact hl32
              refine htyU (y_arrAt rfl Tryz.underlying23 (by omega)) <| hts (fun _ => wk [1, 1, 1, 1, 1] [0] rfl rfl) (fun m => yV (y_ldN rfl ag23 sz23 (by rw [b8s_length]; exact hl32) ((m.ord 0 rfl).2.2)) ((rfl : Value.agg _ = .agg (b8s ((B.drop (40 + 32 * k)).take 32)).toArray))) <| ?_
              refine htx (xh_bsl Tryz.underlying24 ti23 rfl rfl rfl (by simp only [List.mem_singleton, forall_eq]; exact hcl) (by decide) (by decide) (fun g70 => ⟨(fun _ => wk [2, 2, 2, 2, 2] [0] rfl rfl), ?_⟩))
              have hA_b70 : 0 < 1 → (some (⟨g70, 0, none⟩ : Addr)) ≠ none := fun _ h => by cases h
              refine htmem (fun w m => m.eqX 0 rfl (show _ = ROwn 23 32 (.slice (some ⟨g70, 0, none⟩) 1 1) 1 (dc [(B.drop (40 + 32 * k)).take 32]) from rfl)) ?_
              refine htx (xh_app 3 rfl rfl rfl Tryz.underlying24 Tryz.underlying24 (by exact .inl rfl) ti23 rfl (fun m => Src.of_rd (m.ord 0 rfl)) dc_oneCell (by unfold maxLen; omega) (by omega) (fun u => ⟨(fun h => absurd h (by decide)), ?_⟩))
              refine htfact (fun m => (m.own 0 rfl).slice) ?_
              rintro ⟨A_d, c_d, rfl, hc_d⟩
              refine htfact (fun m => (m.ord 0 rfl).2.1) fun hA_d => ?_
              have hch : dc (chunks k (B.drop 40)) ++ dc [(B.drop (40 + 32 * k)).take 32] = dc (chunks (k + 1) (B.drop 40)) := by rw [← dc_append, chunks_succ, List.drop_drop]
              refine htmem (fun w m => m.eqX 0 rfl (show _ = ROwn 23 32 (.slice A_d (k + 1) c_d) (k + 1) (dc (chunks (k + 1) (B.drop 40))) from congrArg (ROwn _ _ _ _) hch)) ?_
              refine htyU (y_fld rfl fa40_1 (by decide)) <| ?_
              refine htx0 (xh_st1a 3 rfl rfl rfl sz24 rfl (by rw [j_len hiL]; decide) ⟨(fun h => absurd h (by decide)), ?_⟩)
              refine htend <| hsub (ρ' := [(62, _), (6, _), (61, _), (60, _), (58, _), (41, _), (9, _), (10, _), (8, _), (32, _), (7, _), (17, _), (5, _), (4, _), (3, _), (2, _), (0, _)]) ⟨rfl, rfl, rfl, rfl, rfl, rfl, rfl, rfl, rfl, rfl, rfl, rfl, rfl, rfl, rfl, rfl, rfl, trivial⟩ <| hmemQ (X' := [_, _, _, _, _, _, _]) (S' := [_]) (fun _ m => m) <| hthen <| hreg <| hy (fun _ => y_move rfl) <| hy (fun _ => yV (y_strFrom rfl rfl Tryz.underlying9 (show ((32 : Nat) : Int) = 32 from rfl) (by rw [bytesOf_strOf]; omega)) ((show Value.string (strOf ((B.drop (40 + 32 * k)).drop 32)) = .string (strOf (B.drop (40 + 32 * (k + 1)))) by rw [List.drop_drop, show 40 + 32 * k + 32 = 40 + 32 * (k + 1) by omega]))) <| hy (fun _ => y_assign rfl) <| hend <| hsub (ρ' := [(6, _), (62, _), (61, _), (60, _), (58, _), (41, _), (9, _), (10, _), (8, _), (32, _), (7, _), (17, _), (5, _), (4, _), (3, _), (2, _), (0, _)]) ⟨rfl, rfl, rfl, rfl, rfl, rfl, rfl, rfl, rfl, rfl, rfl, rfl, rfl, rfl, rfl, rfl, rfl, trivial⟩ <| hqblock <| hthen <| hreg <| hy (fun _ => y_add rfl rfl (w64 (by omega) (by omega))) <| hy (fun _ => y_move rfl) <| hend <| hsub (ρ' := [(61, _), (6, _), (62, _), (60, _), (58, _), (41, _), (9, _), (10, _), (8, _), (32, _), (7, _), (17, _), (5, _), (4, _), (3, _), (2, _), (0, _)]) ⟨rfl, rfl, rfl, rfl, rfl, rfl, rfl, rfl, rfl, rfl, rfl, rfl, rfl, rfl, rfl, rfl, rfl, trivial⟩ <| ?_
              refine hmemQ (fun w m => m.eqX 0 rfl (show _ = RBlk g8 40 (b8s (imgOf B) ++ [Value.slice A_d (k + 1) c_d]) from congrArg (RBlk _ _) (j_set hiL))) ?_
              refine hnext3 (k + 1) A_d c_d ⟨rfl, rfl, rfl, rfl, rfl, rfl, rfl, rfl, rfl, rfl, rfl, rfl, rfl, rfl, rfl, rfl, trivial⟩ [0, 0, 2, 2, 2] rfl [0] rfl (by omega) (by omega)
            · obtain rfl : k = N := by omega
              have hcn : cntOf B = k := by rw [cntOf]; omega
              have hds : chunks k (B.drop 40) = dsOf B := by rw [dsOf, hcn]
              rw [hds]
              have hDD := ds_D32 h40
              have hDl := ds_length B
              refine hexit <| hthen_exit <| hthen_exit <| hqblock_exit <| hthen <| hseq <| hseq <| hreg <| hy (fun m => y_ldN rfl ag40 sz40 (j_len hiL) ((m.blk 0 rfl).cells0)) <| ?_
              refine hx (xh_calll rfl Tryz.call57 (jmayC (by omega) (by assumption) (by omega)) [] rfl (.x 1 rfl .own .nil) ?_)
              rintro _ _ _ ⟨rfl, rfl, rfl⟩
              refine ⟨rfl, ?_⟩
              refine hy (fun _ => y_notp rfl) <| hend <| hsub (ρ' := [(78, _), (62, _), (6, _), (61, _), (60, _), (58, _), (41, _), (9, _), (10, _), (8, _), (32, _), (7, _), (17, _), (5, _), (4, _), (3, _), (2, _), (0, _)]) ⟨rfl, rfl, rfl, rfl, rfl, rfl, rfl, rfl, rfl, rfl, rfl, rfl, rfl, rfl, rfl, rfl, rfl, rfl, trivial⟩ <| hmemQ (X' := [_, _, _, _, _]) (S' := [_]) (fun _ m => m) <| hthen <| ?_
              refine hif rfl (fun h78 => ?_) (fun h78 => ?_)
              · refine hseq <| hreg <| hy (fun _ => y_build0 ti40 rfl (by kernel_rfl)) <| ?_
                refine hx0 (xh_stA 4 rfl rfl rfl sz40 (j_len z32) (j_one (s := .slice none 0 0) rfl) rfl ?_)
                refine hy (fun _ => y_assign rfl) <| hend <| hsub (ρ' := [(3, _), (78, _), (62, _), (6, _), (61, _), (60, _), (58, _), (41, _), (9, _), (10, _), (8, _), (32, _), (7, _), (17, _), (5, _), (4, _), (2, _), (0, _)]) ⟨rfl, rfl, rfl, rfl, rfl, rfl, rfl, rfl, rfl, rfl, rfl, rfl, rfl, rfl, rfl, rfl, rfl, rfl, trivial⟩ <| hmemQ (X' := [_, _, _, _, _]) (S' := [_]) (fun _ m => m) <| hthen <| hret <| hthen_ret <| ?_
                refine hmemQ (fun w m => m.addX (r' := ROwn 23 32 (.slice none 0 0) 0 []) (.refl _ _) (Own.nil _ _ _ _) (fun k hk => hk.elim)) ?_
                exact hretN1 trivial rfl rfl rfl ag40 sz40 (j_len z32) (fun m => (m.blk 1 rfl).cells0) [0] rfl [] rfl ⟨_, _, [], _, rfl, rfl, rfl, ⟨z32, D32nil, hbad (fun hb => h78 (hok1.1 hb).2.2)⟩⟩
              · have hM := Decidable.not_not.1 h78
                have hOk : OkJ B := hok1.2 ⟨hp', by omega, hM⟩
                refine hcskip <| hthen <| hseq <| hreg <| hy (fun m => y_ldN rfl ag40 sz40 (j_len hiL) ((m.blk 0 rfl).cells0)) <| ?_
                refine hx0 (xh_stA 4 rfl rfl rfl sz40 (j_len hiL) (j_one rfl) rfl ?_)
                refine hy (fun _ => y_assign rfl) <| hend <| hsub (ρ' := [(3, _), (78, _), (62, _), (6, _), (61, _), (60, _), (58, _), (41, _), (9, _), (10, _), (8, _), (32, _), (7, _), (17, _), (5, _), (4, _), (2, _), (0, _)]) ⟨rfl, rfl, rfl, rfl, rfl, rfl, rfl, rfl, rfl, rfl, rfl, rfl, rfl, rfl, rfl, rfl, rfl, rfl, trivial⟩ <| hmemQ (X' := [_, _, _, _, _]) (S' := [_]) (fun _ m => m) <| hthen <| hret <| ?_
                rw [← hcn, ← hDl]
                exact hretN1 trivial rfl rfl rfl ag40 sz40 (j_len hiL) (fun m => (m.blk 0 rfl).cells0) [2] rfl [] rfl ⟨_, _, _, _, rfl, rfl, rfl, ⟨hiL, hDD, hok hOk⟩⟩
end Go.Proofs.YtlbecpekemlllaaGreat
end
section
/- Contracts over things in memory, from contracts over worlds: journals. -/
set_option linter.unusedVariables false
set_option linter.unusedSimpArgs false
set_option maxRecDepth 20000
namespace Go.Proofs.YtlbecpekemlllaaGreat
open Go.Eng Go.Hx
theorem rgoodC {img : List UInt8} {A : Option Addr} {n c : Nat} {ds : List (List UInt8)} (hi : img.length = 32) (hD : D32 ds) (hn : n ≤ 140737488351232) : Con Tryz.prog 5 [.agg (b8s img ++ [Value.slice A n c]).toArray] [] [RRd 32 A n (dc ds)] (fun v_ X_ S_ => ∃ v, v_ = (.agg (b8s img ++ [v]).toArray) ∧ X_ = [ROwn 23 32 v (goodL ds).length (dc (goodL ds))] ∧ S_ = []) := by
  exact con_own1 fun m => Calls.mono (rgood img A n c ds _ hi (m.rd 0 rfl) hD hn) (fun e w' ⟨v, h, ho, hf⟩ => ⟨_, v, _, _, _, _, h, ⟨v, rfl, rfl, rfl⟩, ho, hf⟩)
theorem rbytesC {img : List UInt8} {A : Option Addr} {n c : Nat} {ds : List (List UInt8)} (hi : img.length = 32) (hD : D32 ds) (hn : n ≤ 1000000) : Con Tryz.prog 26 [.agg (b8s img ++ [Value.slice A n c]).toArray] [] [RRd 32 A n (dc ds)] (fun v_ X_ S_ => ∃ v, v_ = v ∧ X_ = [ROwn 5 1 v ((jbody img ds).length + 4) (b8s (putL (jbody img ds)))] ∧ S_ = []) := by
  exact con_own1 fun m => Calls.mono (rbytes img A n c ds _ hi (m.rd 0 rfl) hD hn) (fun e w' ⟨v, h, ho, hf⟩ => ⟨v, v, _, _, _, _, h, ⟨v, rfl, rfl, rfl⟩, ho, hf⟩)
theorem rsameC {img img1 : List UInt8} {A A1 : Option Addr} {n c n1 c1 : Nat} {ds ds1 : List (List UInt8)} (hi : img.length = 32) (hi1 : img1.length = 32) (hD : D32 ds) (hD1 : D32 ds1) (hn : n ≤ 140737488351232) : Con Tryz.prog 19 [.agg (b8s img ++ [Value.slice A n c]).toArray, .agg (b8s img1 ++ [Value.slice A1 n1 c1]).toArray] [] [RRd 32 A n (dc ds), RRd 32 A1 n1 (dc ds1)] (fun v_ X_ S_ => v_ = (.bool (decide (ds = ds1 ∧ img = img1))) ∧ X_ = [] ∧ S_ = []) := by
  exact con_pure fun m => Calls.mono (rsame img A n c ds img1 A1 n1 c1 ds1 _ hi hi1 (m.rd 0 rfl) hD (m.rd 1 rfl) hD1 hn) (fun e w' ⟨h, hf⟩ => ⟨_, h, ⟨rfl, rfl, rfl⟩, hf⟩)
theorem asJC {img : List UInt8} {A : Option Addr} {n c : Nat} (hi : img.length = 32) : Con Tryz.prog 20 [.agg (b8s img ++ [Value.slice A n c]).toArray] [] [] (fun v_ X_ S_ => v_ = (.agg (b8s img ++ [Value.slice A n c]).toArray) ∧ X_ = [] ∧ S_ = []) := by
  exact con_pure fun m => Calls.mono (as_j img (.slice A n c) _ hi rfl rfl) (fun e w' ⟨h, hf⟩ => ⟨_, h, ⟨rfl, rfl, rfl⟩, hf⟩)
theorem ofJC {img : List UInt8} {A : Option Addr} {n c : Nat} (hi : img.length = 32) : Con Tryz.prog 9 [.agg (b8s img ++ [Value.slice A n c]).toArray] [] [] (fun v_ X_ S_ => v_ = (.agg (b8s img ++ [Value.slice A n c]).toArray) ∧ X_ = [] ∧ S_ = []) := by
  exact con_pure fun m => Calls.mono (of_j img (.slice A n c) _ hi rfl rfl) (fun e w' ⟨h, hf⟩ => ⟨_, h, ⟨rfl, rfl, rfl⟩, hf⟩)
theorem lives17C  : Con Tryz.prog 21 [] [] [] (fun v_ X_ S_ => v_ = (.bool true) ∧ X_ = [] ∧ S_ = []) := by
  exact con_pure fun m => Calls.mono (lives17 _) (fun e w' ⟨h, hf⟩ => ⟨_, h, ⟨rfl, rfl, rfl⟩, hf⟩)
theorem rjreadC {A : Option Addr} {n c : Nat} {l : List UInt8} (hc : n ≤ c) (hn : n ≤ 1000000) : Con Tryz.prog 45 [.slice A n c] [] [RRd 1 A n (b8s l)] (fun v_ X_ S_ => ∃ img v ds err, v_ = (.tuple #[.agg (b8s img ++ [v]).toArray, .int .i64 err]) ∧ X_ = [ROwn 23 32 v ds.length (dc ds)] ∧ S_ = [] ∧ (img.length = 32 ∧ D32 ds ∧ ReadJ l img ds err)) := by
  exact con_own1 fun m => Calls.mono (rread A n c l _ (m.rd 0 rfl) hc hn) (fun e w' ⟨⟨img, v, ds, err, h, ho, h1, h2, h3⟩, hf⟩ => ⟨_, v, _, _, _, _, h, ⟨img, v, ds, err, rfl, rfl, rfl, h1, h2, h3⟩, ho, hf⟩)
end Go.Proofs.YtlbecpekemlllaaGreat
end
section
/- Contracts: journal.must, done, Save (layer 17). -/
set_option linter.unusedVariables false
set_option linter.unusedSimpArgs false
set_option maxRecDepth 20000
set_option maxHeartbeats 2000000
namespace Go.Proofs.YtlbecpekemlllaaGreat
open Go.Eng Go.Hx
theorem one1 {v : Value} (h : v.oneCell' = true := by rfl) : ∀ u ∈ [v], u.oneCell' = true := fun u hu => by rw [List.mem_singleton.1 hu]; exact h
/-- a file is written ahead, and takes its place -/
def RD.saveJ (d : RD) (a c bb : List UInt8) : RD × Int :=
  if d.writeE a bb ≠ 0 then (d, d.writeE a bb) else
  if (d.write a bb).syncE ≠ 0 then (d.write a bb, (d.write a bb).syncE) else
  if (d.write a bb).sync.renameE a c ≠ 0 then ((d.write a bb).sync, (d.write a bb).sync.renameE a c) else
  (((d.write a bb).sync.rename a c).sync, ((d.write a bb).sync.rename a c).syncE)
def jNow : List UInt8 := [106, 47, 110, 111, 119]
def jNew : List UInt8 := [106, 47, 110, 101, 119]
/-- the value of a failure -/
abbrev failV (e : Int) : Value := .iface 112 (.agg #[.iface 35 (.int .i64 e)])
theorem jmustE {e : Int} : ConE Tryz.prog 32 [.int .i64 e] [] [] (fun v_ X_ S_ => v_ = (.tuple #[]) ∧ X_ = [] ∧ S_ = [] ∧ (e = 0)) (fun v_ X_ S_ => v_ = (failV e) ∧ X_ = [] ∧ S_ = [] ∧ (e ≠ 0)) := by
  refine henterE (N := 8) Tryz.func32 rfl rfl (by simp) fun b => ?_
  refine hseq <| hreg <| hy (fun _ => y_move rfl) <| hy (fun _ => y_neq rfl rfl) <| hend <| hsub (ρ' := [(3, _), (0, _)]) ⟨rfl, rfl, trivial⟩ <| hthen <| ?_
  refine hif rfl (fun hq => ?_) (fun hq => ?_)
  · refine hreg <| hy (fun _ => y_move rfl) <| hy (fun _ => y_mki rfl Tryz.underlying35 (fun _ h => by cases h)) <| hy (fun _ => y_build ti112 rfl rfl (by kernel_rfl) (.cons (o := 0) (sz := 1) (by kernel_rfl) rfl rfl (Nat.le_of_ble_eq_true rfl) .nil)) <| hy (fun _ => y_mki rfl Tryz.underlying112 (fun _ h => by cases h)) <| ?_
    refine hx0 (xh_panic rfl ?_)
    exact hpanE [] rfl [] rfl ⟨rfl, rfl, rfl, hq⟩
  · refine hcskip <| ?_
    refine hretE ?_
    exact hret0 trivial rfl [] rfl [] rfl ⟨rfl, rfl, rfl, (Decidable.not_not.1 hq)⟩
theorem doneCatch {g2 : Nat} {e0 e : Int} : ConD Tryz.prog 59 [.pointer (some ⟨g2, 0, none⟩)] (.panicking (pan (failV e))) [RBlk g2 35 [.int .i64 e0]] [] (fun u_ X_ S_ => u_ = .returning ∧ X_ = [RBlk g2 35 [.int .i64 e]] ∧ S_ = []) := by
  refine henterS (N := 15) Tryz.func59 rfl rfl (by simp) fun b c_0 cs_ hu_ => ?_
  show HSL _ _ _ _ _ [0, 1, 2, 3, 4, 5, 6, 7] _ _ _ _ _
  refine hsl_rec rfl hu_ ?_
  refine hsl_y rfl (fun _ => y_tas rfl (run_tasS Tryz.underlying112)) <| hsl_y rfl (fun _ => y_move rfl) <| hsl_y rfl (fun _ => y_extract rfl rfl) <| hsl_y rfl (fun _ => y_extract rfl rfl) <| ?_
  refine hsl_x rfl (xh_alloc ti112 (fun g1 => ?_))
  refine hsl_x0 rfl (xh_stA 0 rfl rfl rfl sz112 rfl one1 rfl ?_)
  refine hslmem (fun w m => m.eqX 0 rfl (show _ = RBlk g1 112 [.iface 35 (.int .i64 e)] from rfl)) ?_
  refine hsl_y rfl (fun _ => y_assign rfl) <| hsl_done <| hmemC (X' := [_, _]) (S' := []) (fun _ m => m) <| hseq <| hreg <| hy (fun _ => y_move rfl) <| hend <| hsub (ρ' := [(8, _), (2, _), (1, _), (0, _)]) ⟨rfl, rfl, rfl, rfl, trivial⟩ <| hthen <| ?_
  refine hift rfl (rfl) ?_
  refine hreg <| hy (fun _ => y_fld rfl fa112_0 (by decide)) <| hy (fun m => y_ld1 rfl ag110 (ld_blk (m.blk 0 rfl) (i := 0) rfl)) <| hy (fun _ => y_tas rfl (run_tasI Tryz.underlying35)) <| hy (fun _ => y_move rfl) <| hy (fun _ => y_extract rfl rfl) <| hy (fun _ => y_extract rfl rfl) <| ?_
  refine hx0 (xh_st1 1 rfl rfl rfl sz35 rfl (by first | exact Nat.le_of_ble_eq_true rfl | simp) ?_)
  refine hend <| hsub (ρ' := [(8, _), (2, _), (1, _), (0, _)]) ⟨rfl, rfl, rfl, rfl, trivial⟩ <| hmemQ (X' := [_, _]) (S' := []) (fun _ m => m) <| ?_
  exact hret0 trivial rfl [0] rfl [] rfl ⟨rfl, rfl, rfl, rfl⟩
theorem doneIdle {g2 : Nat} {e : Int} : ConD Tryz.prog 59 [.pointer (some ⟨g2, 0, none⟩)] .returning [RBlk g2 35 [.int .i64 e]] [] (fun u_ X_ S_ => u_ = .returning ∧ X_ = [RBlk g2 35 [.int .i64 e]] ∧ S_ = []) := by
  refine henterS (N := 15) Tryz.func59 rfl rfl (by simp) fun b c_0 cs_ hu_ => ?_
  show HSL _ _ _ _ _ [0, 1, 2, 3, 4, 5, 6, 7] _ _ _ _ _
  refine hsl_rec0 rfl hu_ ?_
  refine hsl_y rfl (fun _ => y_tas rfl (run_tas0 Tryz.underlying112 ti112)) <| hsl_y rfl (fun _ => y_move rfl) <| hsl_y rfl (fun _ => y_extract rfl rfl) <| hsl_y rfl (fun _ => y_extract rfl rfl) <| ?_
  refine hsl_x rfl (xh_alloc ti112 (fun g1 => ?_))
  refine hsl_x0 rfl (xh_stA 0 rfl rfl rfl sz112 rfl one1 rfl ?_)
  refine hsl_y rfl (fun _ => y_assign rfl) <| hsl_done <| hmemC (X' := [_, _]) (S' := []) (fun _ m => m) <| hseq <| hreg <| hy (fun _ => y_move rfl) <| hend <| hsub (ρ' := [(8, _), (2, _), (1, _), (0, _)]) ⟨rfl, rfl, rfl, rfl, trivial⟩ <| hthen <| ?_
  refine hiff rfl (rfl) ?_
  refine hcskip <| ?_
  exact hret0 trivial rfl [1] rfl [] rfl ⟨rfl, rfl, rfl, rfl⟩
end Go.Proofs.YtlbecpekemlllaaGreat
end
section
/- Contracts: journal.Save (layer 17). -/
set_option linter.unusedVariables false
set_option linter.unusedSimpArgs false
set_option maxRecDepth 20000
set_option maxHeartbeats 2000000
namespace Go.Proofs.YtlbecpekemlllaaGreat
open Go.Eng Go.Hx
theorem nosync {d : RD} (he : d.syncE ≠ 0) : d.sync = d := by
  have h10 : d.pw = 0 := by
    unfold RD.syncE at he
    split at he
    · assumption
    · exact absurd rfl he
  rw [RD.sync, if_pos h10]
theorem nowrite {d : RD} {p l : List UInt8} (he : d.writeE p l ≠ 0) : d.write p l = d := by rw [RD.write, if_neg he]
theorem norename {d : RD} {p l : List UInt8} (he : d.renameE p l ≠ 0) : d.rename p l = d := by rw [RD.rename, if_neg he]
theorem saveStepsE {g2 g5 g : Nat} {st : DSt} {d : RD} {kk : Nat} {A : Option Addr} {n c : Nat} {bb : List UInt8} (hD : DS st d kk) (hkk : kk ≤ 90000) (hl : bb.length = n) (hn : n ≤ 1048576) : ConE Tryz.prog 31 [.pointer (some ⟨g2, 0, none⟩), .pointer (some ⟨g5, 0, none⟩)] [RDisk g st] [RBlk g2 28 [.pointer (some ⟨g, 0, none⟩)], RBlk g5 63 [.slice A n c], RRd 1 A n (b8s bb)] (fun v_ X_ S_ => ∃ st1, v_ = (.tuple #[]) ∧ X_ = [RDisk g st1] ∧ S_ = [] ∧ ((d.saveJ jNew jNow bb).2 = 0 ∧ DS st1 (d.saveJ jNew jNow bb).1 (kk + 2))) (fun v_ X_ S_ => ∃ st1, v_ = (failV (d.saveJ jNew jNow bb).2) ∧ X_ = [RDisk g st1] ∧ S_ = [] ∧ ((d.saveJ jNew jNow bb).2 ≠ 0 ∧ DS st1 (d.saveJ jNew jNow bb).1 (kk + 2))) := by
  refine henterE (N := 15) Tryz.func31 rfl rfl (by simp) fun b => ?_
  refine hfactC (fun m => rdB (m.rd 2 rfl)) ?_
  rintro ⟨hl_r, hA_r⟩
  refine hseq <| hreg <| hy (fun m => y_ld1 rfl ag28 (ld_blk (m.blkS 0 rfl) (i := 0) rfl)) <| hy (fun m => y_ld1 rfl ag63 (ld_blk (m.blkS 1 rfl) (i := 0) rfl)) <| ?_
  refine hx (xh_call rfl Tryz.call33 (dwriteC hD (by omega) hl hn (l := bb) (p := jNew)) [0] rfl [2] rfl ?_)
  rintro _ _ _ ⟨st1, rfl, rfl, rfl, hE1⟩
  refine hx (xh_callE rfl Tryz.call32 (jmustE) [] rfl [] rfl ?_ ?_)
  · rintro _ _ _ ⟨rfl, rfl, rfl, q1⟩
    refine hthen_panic <| ?_
    have hs : d.saveJ jNew jNow bb = (d, d.writeE jNew bb) := by rw [RD.saveJ, if_pos q1]
    rw [hs]
    have hE : DS st1 d (kk + 2) := by
      rw [nowrite q1] at hE1
      exact hE1.le (by omega)
    exact hpanE [0] rfl [] rfl ⟨st1, rfl, rfl, rfl, ⟨q1, hE⟩⟩
  · rintro _ _ _ ⟨rfl, rfl, rfl, q1⟩
    have n1 : ¬ d.writeE jNew bb ≠ 0 := fun h => h q1
    refine hend <| hsub (ρ' := [(0, _), (1, _)]) ⟨rfl, rfl, trivial⟩ <| hmemQ (X' := [_]) (S' := [_, _, _]) (fun _ m => m) <| hthen <| hseq <| hreg <| hy (fun m => y_ld1 rfl ag28 (ld_blk (m.blkS 0 rfl) (i := 0) rfl)) <| ?_
    refine hx (xh_call rfl Tryz.call34 (dsyncC hE1) [0] rfl [] rfl ?_)
    rintro _ _ _ ⟨st12, rfl, rfl, rfl, hE2⟩
    refine hx (xh_callE rfl Tryz.call32 (jmustE) [] rfl [] rfl ?_ ?_)
    · rintro _ _ _ ⟨rfl, rfl, rfl, q2⟩
      refine hthen_panic <| ?_
      have hs : d.saveJ jNew jNow bb = (d.write jNew bb, (d.write jNew bb).syncE) := by rw [RD.saveJ, if_neg n1, if_pos q2]
      rw [hs]
      have hE : DS st12 (d.write jNew bb) (kk + 2) := by
        rw [nosync q2] at hE2
        exact hE2.le (by omega)
      exact hpanE [0] rfl [] rfl ⟨st12, rfl, rfl, rfl, ⟨q2, hE⟩⟩
    · rintro _ _ _ ⟨rfl, rfl, rfl, q2⟩
      have n2 : ¬ (d.write jNew bb).syncE ≠ 0 := fun h => h q2
      refine hend <| hsub (ρ' := [(0, _), (1, _)]) ⟨rfl, rfl, trivial⟩ <| hmemQ (X' := [_]) (S' := [_, _, _]) (fun _ m => m) <| hthen <| hseq <| hreg <| hy (fun m => y_ld1 rfl ag28 (ld_blk (m.blkS 0 rfl) (i := 0) rfl)) <| ?_
      refine hx (xh_call rfl Tryz.call35 (drenameC hE2 (by omega) (a := jNew) (c := jNow)) [0] rfl [] rfl ?_)
      rintro _ _ _ ⟨st13, rfl, rfl, rfl, hE3⟩
      refine hx (xh_callE rfl Tryz.call32 (jmustE) [] rfl [] rfl ?_ ?_)
      · rintro _ _ _ ⟨rfl, rfl, rfl, q3⟩
        refine hthen_panic <| ?_
        have hs : d.saveJ jNew jNow bb = ((d.write jNew bb).sync, (d.write jNew bb).sync.renameE jNew jNow) := by rw [RD.saveJ, if_neg n1, if_neg n2, if_pos q3]
        rw [hs]
        have hE : DS st13 (d.write jNew bb).sync (kk + 2) := by
          rw [norename q3] at hE3
          exact hE3
        exact hpanE [0] rfl [] rfl ⟨st13, rfl, rfl, rfl, ⟨q3, hE⟩⟩
      · rintro _ _ _ ⟨rfl, rfl, rfl, q3⟩
        have n3 : ¬ (d.write jNew bb).sync.renameE jNew jNow ≠ 0 := fun h => h q3
        have hs : d.saveJ jNew jNow bb = (((d.write jNew bb).sync.rename jNew jNow).sync, ((d.write jNew bb).sync.rename jNew jNow).syncE) := by rw [RD.saveJ, if_neg n1, if_neg n2, if_neg n3]
        rw [hs]
        refine hend <| hsub (ρ' := [(0, _), (1, _)]) ⟨rfl, rfl, trivial⟩ <| hmemQ (X' := [_]) (S' := [_, _, _]) (fun _ m => m) <| hthen <| hreg <| hy (fun m => y_ld1 rfl ag28 (ld_blk (m.blkS 0 rfl) (i := 0) rfl)) <| ?_
        refine hx (xh_call rfl Tryz.call34 (dsyncC hE3) [0] rfl [] rfl ?_)
        rintro _ _ _ ⟨st14, rfl, rfl, rfl, hE4⟩
        refine hx (xh_callE rfl Tryz.call32 (jmustE) [] rfl [] rfl ?_ ?_)
        · rintro _ _ _ ⟨rfl, rfl, rfl, q4⟩
          exact hpanE [0] rfl [] rfl ⟨st14, rfl, rfl, rfl, ⟨q4, hE4⟩⟩
        · rintro _ _ _ ⟨rfl, rfl, rfl, q4⟩
          refine hend <| hsub (ρ' := [(0, _), (1, _)]) ⟨rfl, rfl, trivial⟩ <| hmemQ (X' := [_]) (S' := [_, _, _]) (fun _ m => m) <| ?_
          refine hretE ?_
          exact hret0 trivial rfl [0] rfl [] rfl ⟨st14, rfl, rfl, rfl, ⟨q4, hE4⟩⟩
theorem doneSaveC {g2 g5 g : Nat} {st : DSt} {d : RD} {kk : Nat} {A : Option Addr} {n c : Nat} {bb : List UInt8} (hD : DS st d kk) (hkk : kk ≤ 90000) (hl : bb.length = n) (hn : n ≤ 1048576) : Con Tryz.prog 30 [.func (.func 31) #[] #[.pointer (some ⟨g2, 0, none⟩), .pointer (some ⟨g5, 0, none⟩)]] [RDisk g st] [RBlk g2 28 [.pointer (some ⟨g, 0, none⟩)], RBlk g5 63 [.slice A n c], RRd 1 A n (b8s bb)] (fun v_ X_ S_ => ∃ st1, v_ = (.int .i64 (d.saveJ jNew jNow bb).2) ∧ X_ = [RDisk g st1] ∧ S_ = [] ∧ (DS st1 (d.saveJ jNew jNow bb).1 (kk + 2))) := by
  refine henterD (N := 6) Tryz.func30 rfl rfl (by simp) fun b => ?_
  refine hfactC (fun m => rdB (m.rd 2 rfl)) ?_
  rintro ⟨hl_r, hA_r⟩
  refine hseq <| hreg <| ?_
  refine hx (xh_alloc ti35 (fun g22 => ?_))
  refine hend <| hmemQ (X' := [_, _]) (S' := [_, _, _]) (fun _ m => m) <| hthen <| hseq <| hreg <| hy (fun _ => y_mkf rfl rfl) <| hdeferv rfl rfl <| hend <| hsub (ρ' := [(2, _), (0, _)]) ⟨rfl, rfl, trivial⟩ <| hthen <| hseq <| hreg <| hy (fun _ => y_move rfl) <| ?_
  refine hx (xh_callvE rfl rfl Tryz.call31 (saveStepsE hD hkk hl hn) [1] rfl [0, 1, 2] rfl ?_ ?_)
  · rintro _ _ _ ⟨st12, rfl, rfl, rfl, q1⟩
    refine hthen_panic <| hleaveP <| ?_
    refine hdone (by simp) Tryz.call59 (doneCatch) [1] rfl [] rfl ?_
    rintro _ _ _ ⟨rfl, rfl, rfl⟩
    exact hlastC rfl rfl ag35 (fun m => ld_blk (m.blk 0 rfl) (i := 0) rfl) [1] rfl [] rfl ⟨st12, rfl, rfl, rfl, q1.2⟩
  · rintro _ _ _ ⟨st12, rfl, rfl, rfl, q1⟩
    rw [q1.1]
    refine hend <| hsub (ρ' := [(2, _), (0, _)]) ⟨rfl, rfl, trivial⟩ <| hmemQ (X' := [_, _]) (S' := [_, _, _]) (fun _ m => m) <| hthen <| hseq <| hreg <| ?_
    refine hx0 (xh_st1 1 rfl rfl rfl sz35 rfl (by first | exact Nat.le_of_ble_eq_true rfl | simp) ?_)
    refine hend <| hmemQ (X' := [_, _]) (S' := [_, _, _]) (fun _ m => m) <| hthen <| hret <| ?_
    refine hleaveN trivial ?_
    refine hdone (by simp) Tryz.call59 (doneIdle) [0] rfl [] rfl ?_
    rintro _ _ _ ⟨rfl, rfl, rfl⟩
    exact hlastC rfl rfl ag35 (fun m => ld_blk (m.blk 0 rfl) (i := 0) rfl) [1] rfl [] rfl ⟨st12, rfl, rfl, rfl, q1.2⟩
theorem jwriteC {img : List UInt8} {A : Option Addr} {n c : Nat} {ds : List (List UInt8)} (hi : img.length = 32) (hD : D32 ds) (hn : n ≤ 140737488351232) (hJ : JMay ds) : Con Tryz.prog 29 [.agg (b8s img ++ [Value.slice A n c]).toArray] [] [RRd 32 A n (dc ds)] (fun v_ X_ S_ => ∃ v, v_ = (.tuple #[v, .int .i64 0]) ∧ X_ = [ROwn 5 1 v ((jbody img ds).length + 4) (b8s (putL (jbody img ds)))] ∧ S_ = []) := by
  exact con_own1 fun m => Calls.mono (write img A n c ds _ hi (m.rd 0 rfl) hD hn) (fun e w' ⟨⟨v, h, ho, _⟩, hf⟩ => ⟨_, v, _, _, _, _, (by rw [if_pos hJ] at h; exact h), ⟨v, rfl, rfl, rfl⟩, ho hJ, hf⟩)
theorem jlen {img : List UInt8} {v : Value} (hi : img.length = 32) : (b8s img ++ [v]).length = 33 := by simp [b8s_length, hi]
theorem jone {img : List UInt8} {v : Value} (hv : v.oneCell' = true := by rfl) : ∀ u ∈ b8s img ++ [v], u.oneCell' = true := fun u hu => by
  rcases List.mem_append.1 hu with h | h
  · exact b8s_oneCell u h
  · rw [List.mem_singleton.1 h]; exact hv
theorem jsaveC {g : Nat} {st : DSt} {d : RD} {kk : Nat} {img : List UInt8} {A : Option Addr} {n c : Nat} {ds : List (List UInt8)} (hD : DS st d kk) (hkk : kk ≤ 90000) (hi : img.length = 32) (hds : D32 ds) (hn : n ≤ 4096) (hJ : JMay ds) : Con Tryz.prog 8 [.pointer (some ⟨g, 0, none⟩), .agg (b8s img ++ [Value.slice A n c]).toArray] [RDisk g st] [RRd 32 A n (dc ds)] (fun v_ X_ S_ => ∃ st1, v_ = (.int .i64 (d.saveJ jNew jNow (putL (jbody img ds))).2) ∧ X_ = [RDisk g st1] ∧ S_ = [] ∧ (DS st1 (d.saveJ jNew jNow (putL (jbody img ds))).1 (kk + 2))) := by
  have hjl := jbody_length hi hds
  have hj2 := hJ.2
  have hpl : (putL (jbody img ds)).length = (jbody img ds).length + 4 := putL_length _
  refine henter (N := 17) Tryz.func8 rfl rfl (by simp) fun b => ?_
  refine hfactC (fun m => rdX (m.rd 0 rfl)) ?_
  rintro ⟨hl_r, hA_r⟩
  refine hseq <| hreg <| ?_
  refine hx (xh_box rfl (fun g2 => ?_))
  refine hmemL (fun w m => m.eqX 0 rfl (show _ = RBlk g2 28 [.pointer (some ⟨g, 0, none⟩)] from rfl)) ?_
  refine hx (xh_box rfl (fun g3 => ?_))
  refine hmemL (fun w m => m.eqX 0 rfl (show _ = RBlk g3 40 (b8s img ++ [Value.slice A n c]) from congrArg (RBlk _ _) (cells_agg _))) ?_
  refine hy (fun _ => y_assign rfl) <| hend <| hmemQ (X' := [_, _, _]) (S' := [_]) (fun _ m => m) <| hthen <| hseq <| hreg <| hy (fun m => yV (y_ldN rfl ag40 sz40 (jlen hi) ((m.blk 0 rfl).cells0)) ((rfl : _ = Value.agg (b8s img ++ [Value.slice A n c]).toArray))) <| ?_
  refine hx (xh_call rfl Tryz.call29 (jwriteC hi hds (by omega) hJ) [] rfl [0] rfl ?_)
  rintro _ _ _ ⟨v, rfl, rfl, rfl⟩
  refine hfactL (fun m => (m.own 0 rfl).slice) ?_
  rintro ⟨A_x, c_x, rfl, hc_x⟩
  refine hfactL (fun m => (m.ord 0 rfl).2.1) fun hA_x => ?_
  refine hy (fun _ => y_move rfl) <| hy (fun _ => y_extract rfl rfl) <| hy (fun _ => y_extract rfl rfl) <| ?_
  refine hx (xh_alloc ti63 (fun g5 => ?_))
  refine hx0 (xh_st1 0 rfl rfl rfl sz63 rfl (by first | exact Nat.le_of_ble_eq_true rfl | simp) ?_)
  refine hy (fun _ => y_assign rfl) <| hend <| hsub (ρ' := [(6, _), (5, _), (4, _), (3, _), (2, _), (0, _), (1, _)]) ⟨rfl, rfl, rfl, rfl, rfl, rfl, rfl, trivial⟩ <| hmemQ (X' := [_, _, _, _, _]) (S' := [_]) (fun _ m => m) <| hthen <| hseq <| hseq <| hreg <| hy (fun _ => y_move rfl) <| hy (fun _ => y_neq rfl rfl) <| hend <| hsub (ρ' := [(13, _), (6, _), (5, _), (4, _), (3, _), (2, _), (0, _), (1, _)]) ⟨rfl, rfl, rfl, rfl, rfl, rfl, rfl, rfl, trivial⟩ <| hthen <| ?_
  refine hiff rfl (rfl) ?_
  refine hmemC (fun w m => m.eqX 0 rfl (show _ = RBlk g5 63 [.slice A_x ((jbody img ds).length + 4) c_x] from rfl)) ?_
  refine hcskip <| hthen <| hseq <| hreg <| hy (fun _ => y_mkf rfl rfl) <| ?_
  refine hx (xh_calll rfl Tryz.call30 (doneSaveC hD hkk hpl (by omega)) [4] rfl (.x 3 rfl .same (.x 0 rfl .same (.x 1 rfl .own .nil))) ?_)
  rintro _ _ _ ⟨st1, rfl, rfl, rfl, hE⟩
  refine ⟨rfl, ?_⟩
  refine hy (fun _ => y_assign rfl) <| hend <| hsub (ρ' := [(4, _), (13, _), (6, _), (5, _), (3, _), (2, _), (0, _), (1, _)]) ⟨rfl, rfl, rfl, rfl, rfl, rfl, rfl, rfl, trivial⟩ <| hmemQ (X' := [_, _, _, _, _]) (S' := [_]) (fun _ m => m) <| hthen <| hret <| ?_
  exact hret1 trivial rfl rfl [0] rfl [] rfl ⟨st1, rfl, rfl, rfl, hE⟩
end Go.Proofs.YtlbecpekemlllaaGreat
end
section
/- Superblocks, over plain lists. No program. -/
set_option linter.unusedVariables false
set_option linter.unusedSimpArgs false
namespace Go.Hx
open Go.Eng
/-- a slot -/
structure Sl where
  full : Bool
  image : List UInt8
  size : Int
deriving DecidableEq
def Sl.zero : Sl := ⟨false, List.replicate 32 0, 0⟩
def Sl.cs (x : Sl) : List Value := Value.bool x.full :: (b8s x.image ++ [.int .i64 x.size])
structure Sl.wf (x : Sl) : Prop where
  len : x.image.length = 32
  lo : -9223372036854775808 ≤ x.size
  hi : x.size ≤ 9223372036854775807
theorem Sl.cs_one {x : Sl} : ∀ u ∈ x.cs, u.oneCell' = true := by
  intro u hu
  simp only [Sl.cs, List.mem_cons, List.mem_append, List.not_mem_nil, or_false] at hu
  rcases hu with rfl | hu | rfl
  · rfl
  · obtain ⟨c, _, rfl⟩ := List.mem_map.1 hu; rfl
  · rfl
/-- may a slot be? -/
def Sl.may (x : Sl) : Prop := 0 ≤ x.size ∧ x.size ≤ 65536 ∧ (x.full = false → x = Sl.zero)
instance (x : Sl) : Decidable x.may := by unfold Sl.may; infer_instance
/-- a superblock -/
structure Sup where
  active : Int
  gen : Int
  s0 : Sl
  s1 : Sl
deriving DecidableEq
def Sup.zero : Sup := ⟨0, 0, Sl.zero, Sl.zero⟩
def Sup.cs (s : Sup) : List Value := .int .i64 s.active :: .int .i64 s.gen :: (s.s0.cs ++ s.s1.cs)
structure Sup.wf (s : Sup) : Prop where
  a0 : -9223372036854775808 ≤ s.active
  a1 : s.active ≤ 9223372036854775807
  g0 : -9223372036854775808 ≤ s.gen
  g1 : s.gen ≤ 9223372036854775807
  w0 : s.s0.wf
  w1 : s.s1.wf
theorem Sup.cs_one {s : Sup} : ∀ u ∈ s.cs, u.oneCell' = true := by
  intro u hu
  simp only [Sup.cs, List.mem_cons, List.mem_append] at hu
  rcases hu with rfl | rfl | hu | hu
  · rfl
  · rfl
  · exact Sl.cs_one u hu
  · exact Sl.cs_one u hu
def Sup.may (s : Sup) : Prop := (s.active = 0 ∨ s.active = 1) ∧ 0 ≤ s.gen ∧ s.gen ≤ 2147483647 ∧ s.s0.may ∧ s.s1.may
instance (s : Sup) : Decidable s.may := by unfold Sup.may; infer_instance
def Sl.by_ (x : Sl) : List UInt8 := (if x.full then 1 else 0) :: (x.image ++ le4 x.size.toNat)
def Sup.body (s : Sup) : List UInt8 := [76, 84, 83, 49] ++ [UInt8.ofNat s.active.toNat] ++ le4 s.gen.toNat ++ s.s0.by_ ++ s.s1.by_
def Sup.bytes (s : Sup) : List UInt8 := putL s.body
/-- the slot that is number i -/
def Sup.at (s : Sup) (i : Nat) : Sl := if i = 0 then s.s0 else s.s1
def Sup.put (s : Sup) (i : Nat) (x : Sl) : Sup := if i = 0 then { s with s0 := x } else { s with s1 := x }
end Go.Hx
end
section
/- The engine: words of 32 bits as values; slices of one's own cut at the front. No statement is proved here. -/
set_option linter.unusedVariables false
set_option linter.unusedSimpArgs false
set_option linter.unusedSectionVars false
namespace Go.Eng
open Go.RowKit
section
variable {P : Program} {N : Nat} {D : List Deferred} {ρ : Env} {w : World} {x y : Operand} {ty t t' e : TypeId} {a b : UInt32}
end
theorem Own.drop {w : World} {b : Nat} {e : TypeId} {sz n c k : Nat} {A : Option Addr} {xs : List Value} (h : Own w b e sz (.slice A n c) n xs) (hk : k ≤ n) (hz : k ≤ c) : Own w b e sz (.slice (if c = k then A else A.map (·.add (k * sz))) (n - k) (c - k)) (n - k) (xs.drop (k * sz)) := by
  obtain ⟨hl, hx⟩ := h
  refine ⟨by rw [List.length_drop, hl, Nat.sub_mul], ?_⟩
  rcases hx with ⟨hv, hn⟩ | ⟨g, o, cap, cur, hv, hb, hB, hnc, hcm, hfit, hcs⟩
  · cases hv
    obtain rfl : k = 0 := by omega
    exact .inl ⟨rfl, rfl⟩
  · cases hv
    by_cases hck : c = k
    · subst hck
      obtain rfl : n = c := by omega
      rw [if_pos rfl]
      refine .inr ⟨g, o, n - n, cur, rfl, hb, hB, by omega, by omega, by rw [Nat.sub_self, Nat.zero_mul]; omega, ?_⟩
      rw [Nat.sub_self, Nat.zero_mul, List.take_zero, List.drop_of_length_le (by omega)]
    · rw [if_neg hck]
      refine .inr ⟨g, o + k * sz, c - k, cur, ?_, hb, hB, by omega, by omega, ?_, ?_⟩
      · simp [Addr.add]
      · have : (c - k) * sz + k * sz = c * sz := by rw [← Nat.add_mul]; congr 1; omega
        omega
      · rw [← hcs, List.drop_take, List.drop_drop, Nat.sub_mul]
end Go.Eng
end
section
/- The digest of bytes, over plain lists. No program. -/
set_option linter.unusedVariables false
set_option linter.unusedSimpArgs false
namespace Go.Hx
open Go.Eng
def rotr (n : Nat) (x : UInt32) : UInt32 := .ofNat (x.toNat / 2 ^ n + x.toNat % 2 ^ n * 2 ^ (32 - n))
def turns (a b c : Nat) (x : UInt32) : UInt32 := rotr a x ^^^ rotr b x ^^^ rotr c x
def at8 (b : List UInt8) (i : Nat) : Nat := (b.getD i 0).toNat
def word4 (b : List UInt8) (i : Nat) : UInt32 := .ofNat (at8 b i * 16777216 + at8 b (i + 1) * 65536 + at8 b (i + 2) * 256 + at8 b (i + 3))
/-- so many bytes as a number -/
def wp (b : List UInt8) (i : Nat) : Nat → Nat
  | 0 => 0
  | j + 1 => wp b i j * 256 + at8 b (i + j)
def wmix (x : UInt32) : UInt32 := rotr 7 x ^^^ rotr 18 x ^^^ (x / 8)
def wmix2 (x : UInt32) : UInt32 := rotr 17 x ^^^ rotr 19 x ^^^ (x / 1024)
def wnext (w : List UInt32) (i : Nat) : UInt32 := w.getD (i - 16) 0 + wmix (w.getD (i - 15) 0) + w.getD (i - 7) 0 + wmix2 (w.getD (i - 2) 0)
/-- the first words -/
def wl (b : List UInt8) : Nat → List UInt32
  | 0 => []
  | i + 1 => wl b i ++ [if i < 16 then word4 b (4 * i) else wnext (wl b i) i]
def v_ (v : List UInt32) (i : Nat) : UInt32 := v.getD i 0
def rt (v : List UInt32) (k w : UInt32) : UInt32 := v_ v 7 + turns 6 11 25 (v_ v 4) + ((v_ v 4 &&& v_ v 5) ^^^ (~~~(v_ v 4) &&& v_ v 6)) + k + w
end Go.Hx
end
section
/- What is done with superblocks, over plain disks. No program walked. -/
set_option linter.unusedVariables false
set_option linter.unusedSimpArgs false
namespace Go.Proofs.YtlbecpekemlllaaGreat
open Go.Eng Go.Hx
/-- a slot of bytes -/
def rdSl (l : List UInt8) : Sl := ⟨decide (l.getD 0 0 = 1), (l.drop 1).take 32, (num4 (l.drop 33) : Nat)⟩
def rdBody (l : List UInt8) : Sup := ⟨(l.getD 4 0).toNat, (num4 (l.drop 5) : Nat), rdSl (l.drop 9), rdSl (l.drop 46)⟩
/-- the superblock of bytes, or why there is none -/
def rdOk (l : List UInt8) : Prop := l.length = 83 ∧ l.take 4 = [76, 84, 83, 49] ∧ (l.getD 9 0).toNat ≤ 1 ∧ (l.getD 46 0).toNat ≤ 1 ∧ (rdBody l).may
instance (l : List UInt8) : Decidable (rdOk l) := by unfold rdOk; infer_instance
/-- the other slot -/
def _root_.Go.Hx.Sup.other (s : Sup) : Nat := (1 - s.active).toNat
end Go.Proofs.YtlbecpekemlllaaGreat
end
section
/- Plain disks that hold superblocks and their images: what each function of layer 22 leaves. No program. -/
set_option linter.unusedVariables false
set_option linter.unusedSimpArgs false
namespace Go.Proofs.YtlbecpekemlllaaGreat
open Go.Eng Go.Hx
theorem totF_filter (q : FP → Bool) (l : List FP) : totF (l.filter q) ≤ totF l := by
  induction l with
  | nil => exact Nat.le_refl _
  | cons x r ih =>
    rw [List.filter_cons]
    have e : totF (x :: r) = x.2.length + totF r := by simp [totF]
    split
    · have e2 : totF (x :: r.filter q) = x.2.length + totF (r.filter q) := by simp [totF]
      omega
    · omega
theorem totF_filter_mem {q : FP → Bool} {l : List FP} {x : FP} (hx : x ∈ l) (hq : q x = false) : totF (l.filter q) + x.2.length ≤ totF l := by
  induction l with
  | nil => cases hx
  | cons y r ih =>
    rw [List.filter_cons]
    have e : totF (y :: r) = y.2.length + totF r := by simp [totF]
    rcases List.mem_cons.1 hx with rfl | hm
    · rw [hq]
      have := totF_filter q r
      simp only [Bool.false_eq_true, if_false]
      omega
    · have h1 := ih hm
      split
      · have e2 : totF (y :: r.filter q) = y.2.length + totF (r.filter q) := by simp [totF]
        omega
      · omega
theorem totF_ins (l : List FP) (f : FP) : totF (insF l f) ≤ totF l + f.2.length := by
  induction l with
  | nil => simp [insF, totF]
  | cons x r ih =>
    have e : totF (x :: r) = x.2.length + totF r := by simp [totF]
    rw [insF]
    split
    · have e2 : totF (x :: insF r f) = x.2.length + totF (insF r f) := by simp [totF]
      omega
    · have e2 : totF (f :: (x :: r).filter fun y => decide (y.1 ≠ f.1)) = f.2.length + totF ((x :: r).filter fun y => decide (y.1 ≠ f.1)) := by simp [totF]
      have := totF_filter (fun y => decide (y.1 ≠ f.1)) (x :: r)
      omega
/-- a disk that is up for good: what lies on it, how much, and its room -/
structure At (d : RD) (F : List UInt8 → Option (List UInt8)) (T : Nat) (room : Int) : Prop where
  pw : d.pw = -1
  room : d.room = room
  look : ∀ p, lk d.seen p = F p
  tot : totF d.seen ≤ T
def fup (F : List UInt8 → Option (List UInt8)) (p : List UInt8) (v : Option (List UInt8)) : List UInt8 → Option (List UInt8) := fun q => if q = p then v else F q
theorem At.readE {d : RD} {F : List UInt8 → Option (List UInt8)} {T : Nat} {room : Int} (h : At d F T room) (p : List UInt8) : d.readE p = if F p = none then 4 else 0 := by
  have h1 := h.look p
  rw [← lk_find] at h1
  rw [RD.readE, if_neg (by rw [h.pw]; decide)]
  cases hq : d.seen[findN d.seen p]? with
  | none => rw [hq] at h1; rw [if_pos rfl, if_pos (by rw [← h1]; rfl)]
  | some x => rw [hq] at h1; rw [if_neg (by simp), if_neg (by rw [← h1]; simp)]
theorem At.readB {d : RD} {F : List UInt8 → Option (List UInt8)} {T : Nat} {room : Int} (h : At d F T room) (p : List UInt8) : d.readB p = (F p).getD [] := by
  have h1 := h.look p
  rw [← lk_find] at h1
  rw [RD.readB, if_neg (by rw [h.pw]; decide), h1]
theorem At.writeE {d : RD} {F : List UInt8 → Option (List UInt8)} {T : Nat} {room : Int} (h : At d F T room) {p l : List UInt8} (hp : Named p) (hr : (T : Int) + (l.length : Nat) ≤ room) : d.writeE p l = 0 := by
  have h1 := h.tot
  have h2 := h.room
  rw [RD.writeE, if_neg (fun h => h hp), if_neg (by rw [h.pw]; decide), if_neg (by omega)]
theorem At.write {d : RD} {F : List UInt8 → Option (List UInt8)} {T : Nat} {room : Int} (h : At d F T room) {p l : List UInt8} (hp : Named p) (hr : (T : Int) + (l.length : Nat) ≤ room) : At (d.write p l) (fup F p (some l)) (T + l.length) room := by
  have hs : (d.write p l).seen = insF d.seen (p, l) := by
    rw [RD.write, if_pos (h.writeE hp hr)]
    show makeF d.seen 0 p [] l = _
    rw [makeF, if_pos rfl, withF_ins]
  refine ⟨?_, ?_, fun q => ?_, ?_⟩
  · rw [RD.write, if_pos (h.writeE hp hr)]
    show lessP d.pw = -1
    rw [h.pw]; rfl
  · rw [RD.write, if_pos (h.writeE hp hr)]; exact h.room
  · rw [hs, lk_ins]
    unfold fup
    split
    · rfl
    · exact h.look q
  · rw [hs]
    have := totF_ins d.seen (p, l)
    have := h.tot
    have e : (p, l).2.length = l.length := rfl
    omega
theorem At.syncE {d : RD} {F : List UInt8 → Option (List UInt8)} {T : Nat} {room : Int} (h : At d F T room) : d.syncE = 0 := by rw [RD.syncE, if_neg (by rw [h.pw]; decide)]
theorem At.sync {d : RD} {F : List UInt8 → Option (List UInt8)} {T : Nat} {room : Int} (h : At d F T room) : At d.sync F T room := by
  have e : d.sync = { d with lasts := d.seen, waits := [], pw := lessP d.pw } := by rw [RD.sync, if_neg (by rw [h.pw]; decide)]
  rw [e]
  exact ⟨by show lessP d.pw = -1; rw [h.pw]; rfl, h.room, h.look, h.tot⟩
theorem At.renameE {d : RD} {F : List UInt8 → Option (List UInt8)} {T : Nat} {room : Int} (h : At d F T room) {a c x : List UInt8} (hc : Named c) (hx : F a = some x) : d.renameE a c = 0 := by
  rw [RD.renameE, if_neg (fun h => h hc), h.readE, if_neg (by rw [hx]; simp)]
theorem At.rename {d : RD} {F : List UInt8 → Option (List UInt8)} {T : Nat} {room : Int} (h : At d F T room) {a c x : List UInt8} (hc : Named c) (hx : F a = some x) : At (d.rename a c) (fup (fup F a none) c (some x)) T room := by
  have h1 := h.look a
  rw [← lk_find, hx] at h1
  obtain ⟨y, hy, hyx⟩ : ∃ y, d.seen[findN d.seen a]? = some y ∧ y.2 = x := by
    cases hq : d.seen[findN d.seen a]? with
    | none => rw [hq] at h1; cases h1
    | some y => rw [hq] at h1; exact ⟨y, rfl, by simpa using h1⟩
  have hya : y.1 = a := by
    obtain ⟨hi, he⟩ := List.getElem?_eq_some_iff.1 hy
    have := List.findIdx_getElem (p := fun x : FP => decide (x.1 = a)) (xs := d.seen) (w := hi)
    rw [← he]
    exact of_decide_eq_true this
  have hs : (d.rename a c).seen = insF (withoutF d.seen a) (c, x) := by
    rw [RD.rename, if_pos (h.renameE hc hx)]
    show makeF d.seen 1 a c [] = _
    rw [makeF, if_neg (by decide), hy]
    show (if (1 : Int) = 2 then _ else _) = _
    rw [if_neg (by decide), withF_ins, hyx]
  refine ⟨?_, ?_, fun q => ?_, ?_⟩
  · rw [RD.rename, if_pos (h.renameE hc hx)]
    show lessP d.pw = -1
    rw [h.pw]; rfl
  · rw [RD.rename, if_pos (h.renameE hc hx)]; exact h.room
  · rw [hs, lk_ins]
    unfold fup withoutF
    split
    · rfl
    · rw [lk_filter]
      split
      · rfl
      · exact h.look q
  · rw [hs]
    have h2 := totF_ins (withoutF d.seen a) (c, x)
    have h3 : totF (withoutF d.seen a) + y.2.length ≤ totF d.seen := totF_filter_mem (List.mem_of_getElem? hy) (by simp [hya])
    have := h.tot
    have e : (c, x).2.length = x.length := rfl
    rw [hyx] at h3
    omega
theorem takeE_put (l : List UInt8) : takeE (putL l) = 0 := by
  have hl := putL_length l
  have e : (putL l).take ((putL l).length - 4) = l := by rw [hl, Nat.add_sub_cancel, putL, List.take_left]
  rw [takeE, if_neg (by omega), e, if_pos rfl]
end Go.Proofs.YtlbecpekemlllaaGreat
end
section
/- Journals saved and loaded, over plain disks. No program walked. -/
set_option linter.unusedVariables false
set_option linter.unusedSimpArgs false
namespace Go.Proofs.YtlbecpekemlllaaGreat
open Go.Eng Go.Hx
theorem chunks_flat : ∀ ds : List (List UInt8), D32 ds → chunks ds.length ds.flatten = ds
  | [], _ => rfl
  | d :: r, h => by
    have hd : d.length = 32 := h d (List.mem_cons_self ..)
    have ih := chunks_flat r (fun x hx => h x (List.mem_cons_of_mem _ hx))
    have e : chunks (r.length + 1) (d ++ r.flatten) = d :: chunks r.length r.flatten := by
      unfold chunks
      rw [List.range_succ_eq_map, List.map_cons, List.map_map]
      congr 1
      · rw [Nat.mul_zero, List.drop_zero, List.take_append_of_le_length (by omega), List.take_of_length_le (by omega)]
      · apply List.map_congr_left
        intro i _
        show ((d ++ r.flatten).drop (32 * (i + 1))).take 32 = _
        rw [show 32 * (i + 1) = d.length + 32 * i by omega, ← List.drop_drop, List.drop_left]
    rw [List.length_cons, List.flatten_cons, e, ih]
theorem jbody_parts {img : List UInt8} {ds : List (List UInt8)} (hi : img.length = 32) (hD : D32 ds) : imgOf (jbody img ds) = img ∧ dsOf (jbody img ds) = ds ∧ (jbody img ds).length = 40 + 32 * ds.length := by
  have hl := jbody_length hi hD
  have e4 : (jbody img ds).drop 4 = img ++ (le4 ds.length ++ ds.flatten) := by
    rw [jbody, List.append_assoc, List.append_assoc]
    rfl
  have e40 : (jbody img ds).drop 40 = ds.flatten := by
    rw [jbody, show (40 : Nat) = ([76, 84, 74, 49] ++ img ++ le4 ds.length).length by simp [hi, le4_length], List.drop_left]
  refine ⟨?_, ?_, hl⟩
  · rw [imgOf, e4, List.take_append_of_le_length (by omega), List.take_of_length_le (by omega)]
  · rw [dsOf, cntOf, hl, e40, show (40 + 32 * ds.length - 40) / 32 = ds.length by omega]
    exact chunks_flat ds hD
theorem okJ_body {img : List UInt8} {ds : List (List UInt8)} (hi : img.length = 32) (hD : D32 ds) (hJ : JMay ds) : OkJ (jbody img ds) := by
  obtain ⟨h1, h2, h3⟩ := jbody_parts hi hD
  exact ⟨by omega, by omega, by rw [h2]; exact hJ, by rw [h1, h2]⟩
/-- what was saved is read -/
theorem readJ_put {img : List UInt8} {ds : List (List UInt8)} (hi : img.length = 32) (hD : D32 ds) (hJ : JMay ds) {i2 : List UInt8} {d2 : List (List UInt8)} {e : Int} (h : ReadJ (putL (jbody img ds)) i2 d2 e) : i2 = img ∧ d2 = ds ∧ e = 0 := by
  obtain ⟨h1, h2, h3⟩ := jbody_parts hi hD
  have ht := takeE_put (jbody img ds)
  have hb : (putL (jbody img ds)).take ((putL (jbody img ds)).length - 4) = jbody img ds := by
    rw [putL_length, Nat.add_sub_cancel, putL, List.take_left]
  unfold ReadJ at h
  rw [hb] at h
  rcases h with ⟨a, _⟩ | ⟨_, _, rfl, rfl, rfl⟩ | ⟨_, a, _⟩
  · exact absurd ht a
  · exact ⟨h1, h2, rfl⟩
  · exact absurd (okJ_body hi hD hJ) a
theorem nm_jnow : Named jNow := by decide
theorem nm_jnew : Named jNew := by decide
/-- a disk that has this journal, and waits for nothing -/
structure JD (d : RD) (b : Option (List UInt8)) (T : Nat) : Prop where
  at_ : ∃ F, At d F T 2000 ∧ F jNow = b
  same : d.lasts = d.seen
  waits : d.waits = []
theorem JD.new : JD (RD.new 2000) none 0 := ⟨⟨fun _ => none, ⟨rfl, rfl, fun p => rfl, Nat.le_refl _⟩, rfl⟩, rfl, rfl⟩
theorem sync_clean {d : RD} (h : d.pw = -1) : d.sync.lasts = d.sync.seen ∧ d.sync.waits = [] := by
  have e : d.sync = { d with lasts := d.seen, waits := [], pw := lessP d.pw } := by rw [RD.sync, if_neg (by rw [h]; decide)]
  rw [e]
  exact ⟨rfl, rfl⟩
theorem JD.save {d : RD} {b : Option (List UInt8)} {T : Nat} (h : JD d b T) {l : List UInt8} (hr : T + l.length ≤ 2000) : ∃ d', d.saveJ jNew jNow l = (d', 0) ∧ JD d' (some l) (T + l.length) := by
  obtain ⟨F, ha, hF⟩ := h.at_
  have h1 := ha.write (p := jNew) (l := l) nm_jnew (by omega)
  have h2 := h1.sync
  have hx : fup F jNew (some l) jNew = some l := if_pos rfl
  have h3 := h2.rename nm_jnow hx
  obtain ⟨c1, c2⟩ := sync_clean h3.pw
  refine ⟨_, ?_, ⟨⟨_, h3.sync, if_pos rfl⟩, c1, c2⟩⟩
  rw [RD.saveJ, if_neg (by rw [ha.writeE nm_jnew (by omega)]; decide), if_neg (by rw [h1.syncE]; decide), if_neg (by rw [h2.renameE nm_jnow hx]; decide), h3.syncE]
theorem JD.restart {d : RD} {b : Option (List UInt8)} {T : Nat} (h : JD d b T) (keep : List Bool) : JD (d.restart keep) b T := by
  obtain ⟨F, ha, hF⟩ := h.at_
  have e : (d.restart keep).seen = d.seen := by
    show (dfold keep d d.waits.length).2 = _
    rw [h.waits, ← h.same]; simp [dfold]
  exact ⟨⟨F, ⟨rfl, ha.room, fun p => by rw [e]; exact ha.look p, by rw [e]; exact ha.tot⟩, hF⟩, rfl, rfl⟩
theorem JD.gone {d : RD} {T : Nat} (h : JD d none T) : d.readE jNow = 4 := by
  obtain ⟨F, ha, hF⟩ := h.at_
  rw [ha.readE, if_pos hF]
theorem JD.has {d : RD} {l : List UInt8} {T : Nat} (h : JD d (some l) T) : d.readE jNow = 0 ∧ d.readB jNow = l := by
  obtain ⟨F, ha, hF⟩ := h.at_
  exact ⟨by rw [ha.readE, if_neg (by rw [hF]; simp)], by rw [ha.readB, hF]; rfl⟩
theorem JD.clear {d : RD} {l : List UInt8} {T : Nat} (h : JD d (some l) T) : (d.remove jNow).syncE = 0 ∧ JD (d.remove jNow).sync none T := by
  obtain ⟨F, ha, hF⟩ := h.at_
  have hE := h.has.1
  have hs : (d.remove jNow).seen = withoutF d.seen jNow := by
    rw [RD.remove, if_pos hE]
    show makeF d.seen 2 jNow [] [] = _
    have h1 := ha.look jNow
    rw [← lk_find, hF] at h1
    rw [makeF, if_neg (by decide)]
    cases hq : d.seen[findN d.seen jNow]? with
    | none => rw [hq] at h1; cases h1
    | some y => exact if_pos rfl
  have hp : (d.remove jNow).pw = -1 := by
    rw [RD.remove, if_pos hE]
    show lessP d.pw = -1
    rw [ha.pw]; rfl
  have h1 : At (d.remove jNow) (fup F jNow none) T 2000 := by
    refine ⟨hp, by rw [RD.remove, if_pos hE]; exact ha.room, fun q => ?_, ?_⟩
    · rw [hs]
      unfold fup withoutF
      rw [lk_filter]
      split
      · rfl
      · exact ha.look q
    · rw [hs]
      exact Nat.le_trans (totF_filter _ _) ha.tot
  obtain ⟨c1, c2⟩ := sync_clean hp
  exact ⟨h1.syncE, ⟨⟨_, h1.sync, if_pos rfl⟩, c1, c2⟩⟩
end Go.Proofs.YtlbecpekemlllaaGreat
end
section
/- Contracts: journal.Load, Resume, Clear (layer 17). -/
set_option linter.unusedVariables false
set_option linter.unusedSimpArgs false
set_option maxRecDepth 20000
set_option maxHeartbeats 2000000
namespace Go.Proofs.YtlbecpekemlllaaGreat
open Go.Eng Go.Hx
/-- what Load tells -/
def LoadJ (d : RD) (img : List UInt8) (ds : List (List UInt8)) (e : Int) : Prop := (d.readE jNow ≠ 0 ∧ img = List.replicate 32 0 ∧ ds = [] ∧ e = d.readE jNow) ∨ (d.readE jNow = 0 ∧ ReadJ (d.readB jNow) img ds e)
theorem jloadC {g : Nat} {st : DSt} {d : RD} {kk : Nat} (hD : DS st d kk) (hs : (d.readB jNow).length ≤ 1000000) : Con Tryz.prog 17 [.pointer (some ⟨g, 0, none⟩)] [RDisk g st] [] (fun v_ X_ S_ => ∃ img v ds err, v_ = (.tuple #[.agg (b8s img ++ [v]).toArray, .int .i64 err]) ∧ X_ = [RDisk g st, ROwn 23 32 v ds.length (dc ds)] ∧ S_ = [] ∧ (img.length = 32 ∧ D32 ds ∧ LoadJ d img ds err)) := by
  refine henter (N := 19) Tryz.func17 rfl rfl (by simp) fun b => ?_
  refine hseq <| hreg <| ?_
  refine hx (xh_alloc ti40 (fun g2 => ?_))
  refine hy (fun _ => y_assign rfl) <| hend <| hmemQ (X' := [_, _]) (S' := []) (fun _ m => m) <| hthen <| hseq <| hreg <| hy (fun _ => y_move rfl) <| ?_
  refine hx (xh_call rfl Tryz.call42 (dreadC hD (p := jNow)) [1] rfl [] rfl ?_)
  rintro _ _ _ ⟨v, rfl, rfl, rfl⟩
  refine hfactL (fun m => (m.own 1 rfl).slice) ?_
  rintro ⟨A_x, c_x, rfl, hc_x⟩
  refine hfactL (fun m => (m.ord 1 rfl).2.1) fun hA_x => ?_
  refine hy (fun _ => y_move rfl) <| hy (fun _ => y_extract rfl rfl) <| hy (fun _ => y_extract rfl rfl) <| hy (fun _ => y_assign rfl) <| hy (fun _ => y_assign rfl) <| hend <| hsub (ρ' := [(5, _), (4, _), (3, _), (2, _), (0, _)]) ⟨rfl, rfl, rfl, rfl, rfl, trivial⟩ <| hmemQ (X' := [_, _, _]) (S' := []) (fun _ m => m) <| hthen <| hseq <| hseq <| hreg <| hy (fun _ => y_move rfl) <| hy (fun _ => y_neq rfl rfl) <| hend <| hsub (ρ' := [(12, _), (5, _), (4, _), (3, _), (2, _), (0, _)]) ⟨rfl, rfl, rfl, rfl, rfl, rfl, trivial⟩ <| hthen <| ?_
  refine hif rfl (fun h1 => ?_) (fun h1 => ?_)
  · refine hseq <| hreg <| hy (fun _ => yV (y_build0 ti40 rfl (by kernel_rfl)) ((rfl : _ = Value.agg (b8s (List.replicate 32 0) ++ [Value.slice none 0 0]).toArray))) <| hy (fun _ => y_move rfl) <| ?_
    refine hx0 (xh_stA 2 rfl rfl rfl sz40 (jlen rfl) jone rfl ?_)
    refine hy (fun _ => y_assign rfl) <| hend <| hsub (ρ' := [(3, _), (12, _), (5, _), (4, _), (2, _), (0, _)]) ⟨rfl, rfl, rfl, rfl, rfl, rfl, trivial⟩ <| hmemQ (X' := [_, _, _]) (S' := []) (fun _ m => m) <| hthen <| hret <| hthen_ret <| ?_
    refine hmemQ (fun w m => m.addX (r' := ROwn 23 32 (.slice none 0 0) 0 []) (.refl _ _) (Own.nil _ _ _ _) (fun k hk => hk.elim)) ?_
    exact hretN1 trivial rfl rfl rfl ag40 sz40 (jlen rfl) (fun m => (m.blk 1 rfl).cells0) [2, 0] rfl [] rfl ⟨(List.replicate 32 0), (.slice none 0 0), [], _, rfl, rfl, rfl, ⟨rfl, (fun x hx => by cases hx), .inl ⟨h1, rfl, rfl, rfl⟩⟩⟩
  · refine hcskip <| hthen <| hseq <| hreg <| hy (fun _ => y_move rfl) <| ?_
    refine hx (xh_calll rfl Tryz.call43 (jreadC hc_x hs) [] rfl (.x 1 rfl .own .nil) ?_)
    rintro _ _ _ ⟨img, v2, ds, err, rfl, rfl, rfl, hr⟩
    refine ⟨rfl, ?_⟩
    refine hfactL (fun m => (m.own 0 rfl).slice) ?_
    rintro ⟨A_x2, c_x2, rfl, hc_x2⟩
    refine hfactL (fun m => (m.ord 0 rfl).2.1) fun hA_x2 => ?_
    refine hy (fun _ => y_extract rfl rfl) <| hy (fun _ => y_extract rfl rfl) <| ?_
    refine hx0 (xh_stA 3 rfl rfl rfl sz40 (jlen hr.1) jone rfl ?_)
    refine hy (fun _ => y_assign rfl) <| hend <| hsub (ρ' := [(3, _), (12, _), (5, _), (4, _), (2, _), (0, _)]) ⟨rfl, rfl, rfl, rfl, rfl, rfl, trivial⟩ <| hmemQ (X' := [_, _, _, _]) (S' := []) (fun _ m => m) <| hthen <| hret <| ?_
    exact hretN1 trivial rfl rfl rfl ag40 sz40 (jlen hr.1) (fun m => (m.blk 0 rfl).cells0) [2, 1] rfl [] rfl ⟨img, _, ds, err, rfl, rfl, rfl, ⟨hr.1, hr.2.1, .inr ⟨Decidable.not_not.1 h1, hr.2.2⟩⟩⟩
end Go.Proofs.YtlbecpekemlllaaGreat
end
section
/- Slices of booleans that came in, as lists. -/
set_option linter.unusedVariables false
set_option linter.unusedSimpArgs false
set_option maxRecDepth 20000
namespace Go.Proofs.YtlbecpekemlllaaGreat
open Go.Eng Go.Hx
theorem bool_cells {P : Program} {e : TypeId} (he : P.underlying e = some .bool) : ∀ {n : Nat} {ys : List Cell}, ys.length = n → (∀ i, i < n → Ty P e ((ys.drop i).take 1)) → ∃ l : List Bool, ys.map Cell.val = bools l ∧ l.length = n := by
  intro n ys hl h
  refine ⟨ys.map fun y => match y.val with | .bool z => z | _ => false, ?_, by simpa using hl⟩
  apply List.ext_getElem?
  intro i
  simp only [bools, List.map_map, List.getElem?_map]
  by_cases hi : i < n
  · obtain ⟨c, hc⟩ := ty_bool he (h i hi)
    have h2 : ((ys.drop i).take 1)[0]? = some (.v (.bool c)) := by rw [hc]; rfl
    rw [List.getElem?_take, if_pos (by omega), List.getElem?_drop, Nat.add_zero] at h2
    rw [h2]
    simp [Cell.val]
  · rw [List.getElem?_eq_none (by omega)]
    rfl
theorem ty_bools {xs : List Cell} (h : Ty Tryz.prog 27 xs) : ∃ A n c ys l, xs = [.s 1 A n c ys] ∧ n ≤ c ∧ n ≤ 140737488351232 ∧ ys.map Cell.val = bools l ∧ l.length = n := by
  obtain ⟨A, n, c, ys, rfl, h1, h2, h3, h4⟩ := ty_slice Tryz.underlying27 h
  have c1 : Tryz.prog.cellsOf 4 = 1 := by kernel_rfl
  have b1 : Tryz.prog.bytesOf 4 = 1 := by kernel_rfl
  rw [c1] at h3 h4 ⊢
  rw [b1] at h2
  obtain ⟨l, h5, h6⟩ := bool_cells Tryz.underlying4 (by omega : ys.length = n) (fun i hi => by have := h4 i hi; rwa [Nat.mul_one] at this)
  exact ⟨A, n, c, ys, l, rfl, h1, by omega, h5, h6⟩
end Go.Proofs.YtlbecpekemlllaaGreat
end
section
/- The law JournalSaves. -/
set_option linter.unusedVariables false
set_option linter.unusedSimpArgs false
set_option maxRecDepth 20000
set_option maxHeartbeats 4000000
namespace Go.Proofs.YtlbecpekemlllaaGreat
open Go.Eng Go.Hx
theorem jbeginC  : Con Tryz.prog 4 [] [] [] (fun v_ X_ S_ => ∃ g st, v_ = (.pointer (some ⟨g, 0, none⟩)) ∧ X_ = [RDisk g st] ∧ S_ = [] ∧ (DS st (RD.new 2000) 0)) := by
  refine henter (N := 10) Tryz.func4 rfl rfl (by simp) fun b => ?_
  refine hseq <| hreg <| hy (fun _ => y_assign rfl) <| hend <| hthen <| hseq <| hreg <| ?_
  refine hx (xh_call rfl Tryz.call22 (newC (by decide) (by decide)) [] rfl [] rfl ?_)
  rintro _ _ _ ⟨g, gs, gl, rfl, rfl, rfl⟩
  refine hy (fun _ => y_move rfl) <| hy (fun _ => y_extract rfl rfl) <| hy (fun _ => y_extract rfl rfl) <| hy (fun _ => y_assign rfl) <| hy (fun _ => y_assign rfl) <| hend <| hsub (ρ' := [(2, _), (1, _), (0, _)]) ⟨rfl, rfl, rfl, trivial⟩ <| hmemQ (X' := [_]) (S' := []) (fun _ m => m) <| hthen <| hseq <| hseq <| hreg <| hy (fun _ => y_move rfl) <| hy (fun _ => y_neq rfl rfl) <| hend <| hsub (ρ' := [(8, _), (2, _), (1, _), (0, _)]) ⟨rfl, rfl, rfl, rfl, trivial⟩ <| hthen <| ?_
  refine hiff rfl (rfl) ?_
  have hD0 : DS (dinit 2000 gs gl) (RD.new 2000) 0 := DS.init (by decide)
  refine hcskip <| hthen <| hseq <| hreg <| hy (fun _ => y_move rfl) <| hy (fun _ => y_assign rfl) <| hend <| hsub (ρ' := [(0, _), (8, _), (2, _), (1, _)]) ⟨rfl, rfl, rfl, rfl, trivial⟩ <| hthen <| hret <| ?_
  exact hret1 trivial rfl rfl [0] rfl [] rfl ⟨g, (dinit 2000 gs gl), rfl, rfl, rfl, hD0⟩
/-- what Load tells where this journal is there -/
theorem LoadJ.has {d : RD} {img : List UInt8} {ds : List (List UInt8)} {T : Nat} (hi : img.length = 32) (hD : D32 ds) (hJ : JMay ds) (h : JD d (some (putL (jbody img ds))) T) {i2 : List UInt8} {d2 : List (List UInt8)} {e : Int} (hl : LoadJ d i2 d2 e) : i2 = img ∧ d2 = ds ∧ e = 0 := by
  obtain ⟨a, b⟩ := h.has
  rcases hl with ⟨c, _⟩ | ⟨_, c⟩
  · exact absurd a c
  · rw [b] at c
    exact readJ_put hi hD hJ c
theorem LoadJ.none {d : RD} {T : Nat} (h : JD d none T) {i2 : List UInt8} {d2 : List (List UInt8)} {e : Int} (hl : LoadJ d i2 d2 e) : i2 = List.replicate 32 0 ∧ d2 = [] ∧ e = 4 := by
  have a := h.gone
  rcases hl with ⟨_, c1, c2, c3⟩ | ⟨c, _⟩
  · exact ⟨c1, c2, by rw [c3, a]⟩
  · rw [a] at c; exact absurd c (by decide)
theorem JD.small {d : RD} {b : Option (List UInt8)} {T : Nat} (h : JD d b T) (hb : (b.getD []).length ≤ 1000000) : (d.readB jNow).length ≤ 1000000 := by
  obtain ⟨F, ha, hF⟩ := h.at_
  rw [ha.readB, hF]
  exact hb
theorem JD.nr {d : RD} {b : Option (List UInt8)} {T : Nat} (h : JD d b T) : ∀ c ∈ d.waits, c.1 ≠ 2 := by
  rw [h.waits]
  intro c hc
  cases hc
end Go.Proofs.YtlbecpekemlllaaGreat
end
section
/- Contracts: the document's journals saved and loaded (ref 17 Save, Load). -/
set_option linter.unusedVariables false
set_option linter.unusedSimpArgs false
set_option maxRecDepth 20000
set_option maxHeartbeats 2000000
namespace Go.Proofs.YtlbecpekemlllaaGreat
open Go.Eng Go.Hx
theorem rjmayC {img : List UInt8} {A : Option Addr} {n c : Nat} {ds : List (List UInt8)} (hi : img.length = 32) (hD : D32 ds) (hn : n ≤ 140737488351232) : Con Tryz.prog 24 [.agg (b8s img ++ [Value.slice A n c]).toArray] [] [RRd 32 A n (dc ds)] (fun v_ X_ S_ => v_ = (.bool (decide (JMay ds))) ∧ X_ = [] ∧ S_ = []) := by
  exact con_pure fun m => Calls.mono (rmay img A n c ds _ hi (m.rd 0 rfl) hD hn) (fun e w' ⟨h, hf⟩ => ⟨_, h, ⟨rfl, rfl, rfl⟩, hf⟩)
theorem rsaveJC {x : RX} {kk : Nat} {img : List UInt8} {A : Option Addr} {n c : Nat} {ds : List (List UInt8)} (hi : img.length = 32) (hds : D32 ds) (hn : n ≤ 4096) (hJ : JMay ds) (hD : x.d.ok kk) (hkk : kk ≤ 90000) : Con Tryz.prog 6 [.agg x.cs.toArray, .agg (b8s img ++ [Value.slice A n c]).toArray] [] [RRef x, RRd 32 A n (dc ds)] (fun v_ X_ S_ => ∃ y, v_ = (.tuple #[.agg y.cs.toArray, .int .i64 (x.d.saveJ jNew jNow (putL (jbody img ds))).2]) ∧ X_ = [] ∧ S_ = [RRef y] ∧ (y.d = (x.d.saveJ jNew jNow (putL (jbody img ds))).1)) := by
  have hjl := jbody_length hi hds
  have hj2 := hJ.2
  have hpl : (putL (jbody img ds)).length = (jbody img ds).length + 4 := putL_length _
  have hbl : (putL (jbody img ds)).length ≤ 1000000 := by omega
  have ok1 := hD.write (p := jNew) (l := putL (jbody img ds)) (by omega)
  have okr := hD.rok
  have okr1 := ok1.rok
  have okr2 := ok1.sync.rok
  have okr3 := ok1.sync.rename (a := jNew) (c := jNow) |>.rok
  refine henter (N := 44) Tryz.func6 rfl rfl (by simp) fun b => ?_
  refine hfactC (fun m => rdX (m.rd 1 rfl)) ?_
  rintro ⟨hl_o, hA_o⟩
  refine hseq <| hreg <| ?_
  refine hx (xh_box rfl (fun g2 => ?_))
  refine hmemL (fun w m => m.eqX 0 rfl (show _ = RBlk g2 34 x.cs from congrArg (RBlk _ _) (cells_agg _))) ?_
  refine hx (xh_box rfl (fun g3 => ?_))
  refine hmemL (fun w m => m.eqX 0 rfl (show _ = RBlk g3 26 (b8s img ++ [Value.slice A n c]) from congrArg (RBlk _ _) (cells_agg _))) ?_
  refine hx (xh_alloc ti34 (fun g4 => ?_))
  refine hy (fun _ => y_assign rfl) <| hend <| hmemQ (X' := [_, _, _]) (S' := [_, _]) (fun _ m => m) <| hthen <| hseq <| hreg <| hy (fun m => yV (y_ldN rfl ag26 sz26 (jlen hi) ((m.blk 1 rfl).cells0)) ((rfl : _ = Value.agg (b8s img ++ [Value.slice A n c]).toArray))) <| ?_
  refine hx (xh_call rfl Tryz.call24 (rjmayC hi hds (by omega)) [] rfl [1] rfl ?_)
  rintro _ _ _ ⟨rfl, rfl, rfl⟩
  refine hy (fun _ => y_assign rfl) <| hend <| hsub (ρ' := [(6, _), (5, _), (4, _), (3, _), (2, _), (0, _), (1, _)]) ⟨rfl, rfl, rfl, rfl, rfl, rfl, rfl, trivial⟩ <| hmemQ (X' := [_, _, _]) (S' := [_, _]) (fun _ m => m) <| hthen <| hseq <| hseq <| hreg <| hy (fun _ => y_move rfl) <| hy (fun _ => y_notp rfl) <| hend <| hsub (ρ' := [(11, _), (6, _), (5, _), (4, _), (3, _), (2, _), (0, _), (1, _)]) ⟨rfl, rfl, rfl, rfl, rfl, rfl, rfl, rfl, trivial⟩ <| hthen <| ?_
  refine hiff rfl ((decide_eq_false (fun h => h hJ))) ?_
  refine hcskip <| hthen <| hseq <| hdrw [2, 3, 4, 8] [(0, some 2), (1, some 0), (2, none), (3, none), (4, none), (5, some 3), (6, some 3), (7, some 4), (8, none), (9, some 4)] (by kernel_rfl) (by kernel_rfl) rfl 3 <| hty (fun m => yV (y_ldN rfl ag34 sz34 rfl ((m.blk 2 rfl).cells0)) ((rfl : _ = Value.agg x.cs.toArray))) <| hty (fun m => yV (y_ldN rfl ag26 sz26 (jlen hi) ((m.blk 1 rfl).cells0)) ((rfl : _ = Value.agg (b8s img ++ [Value.slice A n c]).toArray))) <| ?_
  refine htx (xh_call rfl Tryz.call26 (rbytesC hi hds (by omega)) [] rfl [1] rfl ?_)
  rintro _ _ _ ⟨v, rfl, rfl, rfl⟩
  refine ⟨(fun _ => wk [1, 1, 1] [0, 1] rfl rfl), ?_⟩
  refine htfact (fun m => (m.own 0 rfl).slice) ?_
  rintro ⟨A_x, c_x, rfl, hc_x⟩
  refine htfact (fun m => (m.ord 0 rfl).2.1) fun hA_x => ?_
  refine hts (fun _ => wk [1, 1, 1] [0, 1] rfl rfl) (fun m => y_b2s rfl Tryz.underlying63 Tryz.underlying5 Tryz.underlying9 (m.ord 0 rfl)) <| ?_
  refine htx (xh_call rfl Tryz.call25 (rwriteX okr (by omega) (by decide) hbl (p := jNew) (bb := (putL (jbody img ds)))) [] rfl [0] rfl ?_)
  rintro _ _ _ ⟨y, rfl, rfl, rfl, hd1⟩
  refine ⟨(fun _ => wk [1, 1, 1] [1, 2] rfl rfl), ?_⟩
  refine htyU (y_move rfl) <| htyU (y_extract rfl rfl) <| htyU (y_extract rfl rfl) <| ?_
  refine htx0 (xh_stA 3 rfl rfl rfl sz34 rfl cs_one rfl ⟨(fun h => absurd h (by decide)), ?_⟩)
  refine htyU (y_assign rfl) <| htend <| hsub (ρ' := [(7, _), (11, _), (6, _), (5, _), (4, _), (3, _), (2, _), (0, _), (1, _)]) ⟨rfl, rfl, rfl, rfl, rfl, rfl, rfl, rfl, rfl, trivial⟩ <| hmemQ (X' := [_, _, _, _]) (S' := [_, _, _]) (fun _ m => m) <| hthen <| hseq <| hseq <| hreg <| hy (fun _ => y_move rfl) <| hy (fun _ => y_eql rfl rfl) <| hend <| hsub (ρ' := [(22, _), (7, _), (11, _), (6, _), (5, _), (4, _), (3, _), (2, _), (0, _), (1, _)]) ⟨rfl, rfl, rfl, rfl, rfl, rfl, rfl, rfl, rfl, rfl, trivial⟩ <| hthen <| ?_
  refine hif rfl (fun h1 => ?_) (fun h1 => ?_)
  · refine hreg <| hy (fun m => yV (y_ldN rfl ag34 sz34 rfl ((m.blk 0 rfl).cells0)) ((rfl : _ = Value.agg y.cs.toArray))) <| ?_
    refine hx (xh_call rfl Tryz.call27 (rsyncX (by rw [hd1]; exact okr1)) [] rfl [0] rfl ?_)
    rintro _ _ _ ⟨y2, rfl, rfl, rfl, hd2⟩
    refine hy (fun _ => y_move rfl) <| hy (fun _ => y_extract rfl rfl) <| hy (fun _ => y_extract rfl rfl) <| ?_
    refine hx0 (xh_stA 0 rfl rfl rfl sz34 rfl cs_one rfl ?_)
    refine hy (fun _ => y_assign rfl) <| hend <| hsub (ρ' := [(7, _), (22, _), (11, _), (6, _), (5, _), (4, _), (3, _), (2, _), (0, _), (1, _)]) ⟨rfl, rfl, rfl, rfl, rfl, rfl, rfl, rfl, rfl, rfl, trivial⟩ <| hmemQ (X' := [_, _, _, _]) (S' := [_, _, _, _]) (fun _ m => m) <| hthen <| hseq <| hseq <| hreg <| hy (fun _ => y_move rfl) <| hy (fun _ => y_eql rfl rfl) <| hend <| hsub (ρ' := [(29, _), (7, _), (22, _), (11, _), (6, _), (5, _), (4, _), (3, _), (2, _), (0, _), (1, _)]) ⟨rfl, rfl, rfl, rfl, rfl, rfl, rfl, rfl, rfl, rfl, rfl, trivial⟩ <| hthen <| ?_
    refine hif rfl (fun h2 => ?_) (fun h2 => ?_)
    · refine hreg <| hy (fun m => yV (y_ldN rfl ag34 sz34 rfl ((m.blk 0 rfl).cells0)) ((rfl : _ = Value.agg y2.cs.toArray))) <| ?_
      refine hx (xh_call rfl Tryz.call28 (rrenameX (by rw [hd2, hd1]; exact okr2) (by omega) (by decide) (a := jNew) (c := jNow)) [] rfl [0] rfl ?_)
      rintro _ _ _ ⟨y3, rfl, rfl, rfl, hd3⟩
      refine hy (fun _ => y_move rfl) <| hy (fun _ => y_extract rfl rfl) <| hy (fun _ => y_extract rfl rfl) <| ?_
      refine hx0 (xh_stA 0 rfl rfl rfl sz34 rfl cs_one rfl ?_)
      refine hy (fun _ => y_assign rfl) <| hend <| hsub (ρ' := [(7, _), (29, _), (22, _), (11, _), (6, _), (5, _), (4, _), (3, _), (2, _), (0, _), (1, _)]) ⟨rfl, rfl, rfl, rfl, rfl, rfl, rfl, rfl, rfl, rfl, rfl, trivial⟩ <| hmemQ (X' := [_, _, _, _]) (S' := [_, _, _, _, _]) (fun _ m => m) <| hthen <| hseq <| hseq <| hreg <| hy (fun _ => y_move rfl) <| hy (fun _ => y_eql rfl rfl) <| hend <| hsub (ρ' := [(36, _), (7, _), (29, _), (22, _), (11, _), (6, _), (5, _), (4, _), (3, _), (2, _), (0, _), (1, _)]) ⟨rfl, rfl, rfl, rfl, rfl, rfl, rfl, rfl, rfl, rfl, rfl, rfl, trivial⟩ <| hthen <| ?_
      refine hif rfl (fun h3 => ?_) (fun h3 => ?_)
      · have hS : x.d.saveJ jNew jNow (putL (jbody img ds)) = (y3.d.sync, y3.d.syncE) := by
          rw [hd3, hd2, hd1, RD.saveJ, if_neg (by rw [h1]; decide), if_neg (by rw [← hd1, h2]; decide), if_neg (by rw [← hd1, ← hd2, h3]; decide)]
        rw [hS]
        refine hreg <| hy (fun m => yV (y_ldN rfl ag34 sz34 rfl ((m.blk 0 rfl).cells0)) ((rfl : _ = Value.agg y3.cs.toArray))) <| ?_
        refine hx (xh_call rfl Tryz.call27 (rsyncX (by rw [hd3, hd2, hd1]; exact okr3)) [] rfl [0] rfl ?_)
        rintro _ _ _ ⟨y4, rfl, rfl, rfl, hv⟩
        refine hy (fun _ => y_move rfl) <| hy (fun _ => y_extract rfl rfl) <| hy (fun _ => y_extract rfl rfl) <| ?_
        refine hx0 (xh_stA 0 rfl rfl rfl sz34 rfl cs_one rfl ?_)
        refine hy (fun _ => y_assign rfl) <| hend <| hsub (ρ' := [(7, _), (36, _), (29, _), (22, _), (11, _), (6, _), (5, _), (4, _), (3, _), (2, _), (0, _), (1, _)]) ⟨rfl, rfl, rfl, rfl, rfl, rfl, rfl, rfl, rfl, rfl, rfl, rfl, trivial⟩ <| hmemQ (X' := [_, _, _, _]) (S' := [_, _, _, _, _, _]) (fun _ m => m) <| hthen <| hseq <| hreg <| hy (fun m => yV (y_ldN rfl ag34 sz34 rfl ((m.blk 0 rfl).cells0)) ((rfl : _ = Value.agg y4.cs.toArray))) <| hy (fun _ => y_move rfl) <| ?_
        refine hx0 (xh_stA 2 rfl rfl rfl sz34 rfl cs_one rfl ?_)
        refine hy (fun _ => y_assign rfl) <| hend <| hsub (ρ' := [(5, _), (7, _), (36, _), (29, _), (22, _), (11, _), (6, _), (4, _), (3, _), (2, _), (0, _), (1, _)]) ⟨rfl, rfl, rfl, rfl, rfl, rfl, rfl, rfl, rfl, rfl, rfl, rfl, trivial⟩ <| hmemQ (X' := [_, _, _, _]) (S' := [_, _, _, _, _, _]) (fun _ m => m) <| hthen <| hret <| ?_
        exact hretN1 trivial rfl rfl rfl ag34 sz34 rfl (fun m => (m.blk 0 rfl).cells0) [] rfl [0] rfl ⟨y4, rfl, rfl, rfl, hv⟩
      · have hS : x.d.saveJ jNew jNow (putL (jbody img ds)) = (y2.d, y2.d.renameE jNew jNow) := by
          rw [hd2, hd1, RD.saveJ, if_neg (by rw [h1]; decide), if_neg (by rw [← hd1, h2]; decide), if_pos (by rw [← hd1, ← hd2]; exact h3)]
        have hv : y3.d = y2.d := by rw [hd3, RD.rename, if_neg h3]
        rw [hS]
        refine hcskip <| hthen <| hseq <| hreg <| hy (fun m => yV (y_ldN rfl ag34 sz34 rfl ((m.blk 0 rfl).cells0)) ((rfl : _ = Value.agg y3.cs.toArray))) <| hy (fun _ => y_move rfl) <| ?_
        refine hx0 (xh_stA 2 rfl rfl rfl sz34 rfl cs_one rfl ?_)
        refine hy (fun _ => y_assign rfl) <| hend <| hsub (ρ' := [(5, _), (36, _), (7, _), (29, _), (22, _), (11, _), (6, _), (4, _), (3, _), (2, _), (0, _), (1, _)]) ⟨rfl, rfl, rfl, rfl, rfl, rfl, rfl, rfl, rfl, rfl, rfl, rfl, trivial⟩ <| hmemQ (X' := [_, _, _, _]) (S' := [_, _, _, _, _]) (fun _ m => m) <| hthen <| hret <| ?_
        exact hretN1 trivial rfl rfl rfl ag34 sz34 rfl (fun m => (m.blk 0 rfl).cells0) [] rfl [0] rfl ⟨y3, rfl, rfl, rfl, hv⟩
    · have hS : x.d.saveJ jNew jNow (putL (jbody img ds)) = (y.d, y.d.syncE) := by
        rw [hd1, RD.saveJ, if_neg (by rw [h1]; decide), if_pos (by rw [← hd1]; exact h2)]
      have hv : y2.d = y.d := by
        rw [hd2, RD.sync, if_pos]
        unfold RD.syncE at h2
        split at h2
        · assumption
        · exact absurd rfl h2
      rw [hS]
      refine hcskip <| hthen <| hseq <| hseq <| hreg <| hy (fun _ => y_move rfl) <| hy (fun _ => y_eql rfl rfl) <| hend <| hsub (ρ' := [(36, _), (29, _), (7, _), (22, _), (11, _), (6, _), (5, _), (4, _), (3, _), (2, _), (0, _), (1, _)]) ⟨rfl, rfl, rfl, rfl, rfl, rfl, rfl, rfl, rfl, rfl, rfl, rfl, trivial⟩ <| hthen <| ?_
      refine hiff rfl (decide_eq_false h2) ?_
      refine hcskip <| hthen <| hseq <| hreg <| hy (fun m => yV (y_ldN rfl ag34 sz34 rfl ((m.blk 0 rfl).cells0)) ((rfl : _ = Value.agg y2.cs.toArray))) <| hy (fun _ => y_move rfl) <| ?_
      refine hx0 (xh_stA 2 rfl rfl rfl sz34 rfl cs_one rfl ?_)
      refine hy (fun _ => y_assign rfl) <| hend <| hsub (ρ' := [(5, _), (36, _), (29, _), (7, _), (22, _), (11, _), (6, _), (4, _), (3, _), (2, _), (0, _), (1, _)]) ⟨rfl, rfl, rfl, rfl, rfl, rfl, rfl, rfl, rfl, rfl, rfl, rfl, trivial⟩ <| hmemQ (X' := [_, _, _, _]) (S' := [_, _, _, _]) (fun _ m => m) <| hthen <| hret <| ?_
      exact hretN1 trivial rfl rfl rfl ag34 sz34 rfl (fun m => (m.blk 0 rfl).cells0) [] rfl [0] rfl ⟨y2, rfl, rfl, rfl, hv⟩
  · have hS : x.d.saveJ jNew jNow (putL (jbody img ds)) = (x.d, x.d.writeE jNew (putL (jbody img ds))) := by rw [RD.saveJ, if_pos h1]
    have hv : y.d = x.d := by rw [hd1, RD.write, if_neg h1]
    rw [hS]
    refine hcskip <| hthen <| hseq <| hseq <| hreg <| hy (fun _ => y_move rfl) <| hy (fun _ => y_eql rfl rfl) <| hend <| hsub (ρ' := [(29, _), (22, _), (7, _), (11, _), (6, _), (5, _), (4, _), (3, _), (2, _), (0, _), (1, _)]) ⟨rfl, rfl, rfl, rfl, rfl, rfl, rfl, rfl, rfl, rfl, rfl, trivial⟩ <| hthen <| ?_
    refine hiff rfl (decide_eq_false h1) ?_
    refine hcskip <| hthen <| hseq <| hseq <| hreg <| hy (fun _ => y_move rfl) <| hy (fun _ => y_eql rfl rfl) <| hend <| hsub (ρ' := [(36, _), (29, _), (22, _), (7, _), (11, _), (6, _), (5, _), (4, _), (3, _), (2, _), (0, _), (1, _)]) ⟨rfl, rfl, rfl, rfl, rfl, rfl, rfl, rfl, rfl, rfl, rfl, rfl, trivial⟩ <| hthen <| ?_
    refine hiff rfl (decide_eq_false h1) ?_
    refine hcskip <| hthen <| hseq <| hreg <| hy (fun m => yV (y_ldN rfl ag34 sz34 rfl ((m.blk 0 rfl).cells0)) ((rfl : _ = Value.agg y.cs.toArray))) <| hy (fun _ => y_move rfl) <| ?_
    refine hx0 (xh_stA 2 rfl rfl rfl sz34 rfl cs_one rfl ?_)
    refine hy (fun _ => y_assign rfl) <| hend <| hsub (ρ' := [(5, _), (36, _), (29, _), (22, _), (7, _), (11, _), (6, _), (4, _), (3, _), (2, _), (0, _), (1, _)]) ⟨rfl, rfl, rfl, rfl, rfl, rfl, rfl, rfl, rfl, rfl, rfl, rfl, trivial⟩ <| hmemQ (X' := [_, _, _, _]) (S' := [_, _, _]) (fun _ m => m) <| hthen <| hret <| ?_
    exact hretN1 trivial rfl rfl rfl ag34 sz34 rfl (fun m => (m.blk 0 rfl).cells0) [] rfl [0] rfl ⟨y, rfl, rfl, rfl, hv⟩
theorem rloadJC {x : RX} {kk : Nat} (ok : ROk x.d kk) (hkk : kk ≤ 100000) (hs : (x.d.readB jNow).length ≤ 1000000) : Con Tryz.prog 18 [.agg x.cs.toArray] [] [RRef x] (fun v_ X_ S_ => ∃ img v ds err, v_ = (.tuple #[.agg (b8s img ++ [v]).toArray, .int .i64 err]) ∧ X_ = [ROwn 23 32 v ds.length (dc ds)] ∧ S_ = [] ∧ (img.length = 32 ∧ D32 ds ∧ LoadJ x.d img ds err)) := by
  refine henter (N := 20) Tryz.func18 rfl rfl (by simp) fun b => ?_
  refine hseq <| hreg <| ?_
  refine hx (xh_box rfl (fun g1 => ?_))
  refine hmemL (fun w m => m.eqX 0 rfl (show _ = RBlk g1 34 x.cs from congrArg (RBlk _ _) (cells_agg _))) ?_
  refine hx (xh_alloc ti26 (fun g2 => ?_))
  refine hy (fun _ => y_assign rfl) <| hend <| hmemQ (X' := [_, _]) (S' := [_]) (fun _ m => m) <| hthen <| hseq <| hreg <| hy (fun m => yV (y_ldN rfl ag34 sz34 rfl ((m.blk 1 rfl).cells0)) ((rfl : _ = Value.agg x.cs.toArray))) <| ?_
  refine hx (xh_call rfl Tryz.call44 (rreadX ok hkk (p := jNow)) [] rfl [0] rfl ?_)
  rintro _ _ _ ⟨rfl, rfl, rfl⟩
  refine hy (fun _ => y_move rfl) <| hy (fun _ => y_extract rfl rfl) <| hy (fun _ => y_extract rfl rfl) <| hy (fun _ => y_assign rfl) <| hy (fun _ => y_assign rfl) <| hend <| hsub (ρ' := [(5, _), (4, _), (3, _), (2, _), (1, _), (0, _)]) ⟨rfl, rfl, rfl, rfl, rfl, rfl, trivial⟩ <| hmemQ (X' := [_, _]) (S' := [_]) (fun _ m => m) <| hthen <| hseq <| hseq <| hreg <| hy (fun _ => y_move rfl) <| hy (fun _ => y_neq rfl rfl) <| hend <| hsub (ρ' := [(12, _), (5, _), (4, _), (3, _), (2, _), (1, _), (0, _)]) ⟨rfl, rfl, rfl, rfl, rfl, rfl, rfl, trivial⟩ <| hthen <| ?_
  refine hif rfl (fun h1 => ?_) (fun h1 => ?_)
  · refine hseq <| hreg <| hy (fun _ => yV (y_build0 ti26 rfl (by kernel_rfl)) ((rfl : _ = Value.agg (b8s (List.replicate 32 0) ++ [Value.slice none 0 0]).toArray))) <| hy (fun _ => y_move rfl) <| ?_
    refine hx0 (xh_stA 0 rfl rfl rfl sz26 (jlen rfl) jone rfl ?_)
    refine hy (fun _ => y_assign rfl) <| hend <| hsub (ρ' := [(3, _), (12, _), (5, _), (4, _), (2, _), (1, _), (0, _)]) ⟨rfl, rfl, rfl, rfl, rfl, rfl, rfl, trivial⟩ <| hmemQ (X' := [_, _]) (S' := [_]) (fun _ m => m) <| hthen <| hret <| hthen_ret <| ?_
    refine hmemQ (fun w m => m.addX (r' := ROwn 23 32 (.slice none 0 0) 0 []) (.refl _ _) (Own.nil _ _ _ _) (fun k hk => hk.elim)) ?_
    exact hretN1 trivial rfl rfl rfl ag26 sz26 (jlen rfl) (fun m => (m.blk 1 rfl).cells0) [0] rfl [] rfl ⟨(List.replicate 32 0), (.slice none 0 0), [], _, rfl, rfl, rfl, ⟨rfl, (fun x hx => by cases hx), .inl ⟨h1, rfl, rfl, rfl⟩⟩⟩
  · refine hcskip <| hthen <| hseq <| hreg <| hy (fun _ => y_move rfl) <| ?_
    refine hx (xh_s2b rfl Tryz.underlying9 Tryz.underlying63 Tryz.underlying5 (by rw [bytesOf_strOf]; unfold maxLen; omega) (fun v16 => ?_))
    refine hfactL (fun m => (m.own 0 rfl).slice) ?_
    rintro ⟨A_b16, c_b16, rfl, hc_b16⟩
    refine hfactL (fun m => (m.ord 0 rfl).2.1) fun hA_b16 => ?_
    rw [bytesOf_strOf] at hc_b16 hA_b16 ⊢
    refine hmemL (fun w m => m.eqX 0 rfl (show _ = ROwn 5 1 (.slice A_b16 (x.d.readB jNow).length c_b16) (x.d.readB jNow).length (b8s (x.d.readB jNow)) from rfl)) ?_
    refine hx (xh_calll rfl Tryz.call45 (rjreadC (by omega) hs) [] rfl (.x 0 rfl .own .nil) ?_)
    rintro _ _ _ ⟨img, v, ds, err, rfl, rfl, rfl, hr⟩
    refine ⟨rfl, ?_⟩
    refine hfactL (fun m => (m.own 0 rfl).slice) ?_
    rintro ⟨A_x, c_x, rfl, hc_x⟩
    refine hfactL (fun m => (m.ord 0 rfl).2.1) fun hA_x => ?_
    refine hy (fun _ => y_extract rfl rfl) <| hy (fun _ => y_extract rfl rfl) <| ?_
    refine hx0 (xh_stA 2 rfl rfl rfl sz26 (jlen hr.1) jone rfl ?_)
    refine hy (fun _ => y_assign rfl) <| hend <| hsub (ρ' := [(3, _), (12, _), (5, _), (4, _), (2, _), (1, _), (0, _)]) ⟨rfl, rfl, rfl, rfl, rfl, rfl, rfl, trivial⟩ <| hmemQ (X' := [_, _, _, _]) (S' := [_]) (fun _ m => m) <| hthen <| hret <| ?_
    exact hretN1 trivial rfl rfl rfl ag26 sz26 (jlen hr.1) (fun m => (m.blk 0 rfl).cells0) [1] rfl [] rfl ⟨img, _, ds, err, rfl, rfl, rfl, ⟨hr.1, hr.2.1, .inr ⟨Decidable.not_not.1 h1, hr.2.2⟩⟩⟩
end Go.Proofs.YtlbecpekemlllaaGreat
end
section
/- Plain disks with so much power, and what a restart may find behind a failure. No program. -/
set_option linter.unusedVariables false
set_option linter.unusedSimpArgs false
namespace Go.Proofs.YtlbecpekemlllaaGreat
open Go.Eng Go.Hx
/-- a disk with power for n more operations, all of it synced -/
structure Pat (d : RD) (F : List UInt8 → Option (List UInt8)) (T : Nat) (room : Int) (n : Nat) : Prop where
  pw : d.pw = (n : Int)
  room : d.room = room
  look : ∀ p, lk d.seen p = F p
  same : d.lasts = d.seen
  waits : d.waits = []
  tot : totF d.seen ≤ T
/-- what a restart may find -/
structure Crash (d : RD) (Q : (List UInt8 → Option (List UInt8)) → Prop) (T : Nat) (room : Int) : Prop where
  re : ∀ keep, ∃ F, At (d.restart keep) F T room ∧ Q F
  nr : ∀ c ∈ d.waits, c.1 ≠ 2
theorem Crash.mono {d : RD} {Q Q' : (List UInt8 → Option (List UInt8)) → Prop} {T T' : Nat} {room : Int} (h : Crash d Q T room) (hQ : ∀ F, Q F → Q' F) (hT : T ≤ T') : Crash d Q' T' room := by
  refine ⟨fun keep => ?_, h.nr⟩
  obtain ⟨F, h1, h2⟩ := h.re keep
  exact ⟨F, ⟨h1.pw, h1.room, h1.look, Nat.le_trans h1.tot hT⟩, hQ F h2⟩
theorem Pat.crash {d : RD} {F : List UInt8 → Option (List UInt8)} {T : Nat} {room : Int} {n : Nat} (h : Pat d F T room n) : Crash d (fun F' => ∀ p, F' p = F p) T room := by
  refine ⟨fun keep => ⟨F, ⟨rfl, h.room, fun p => ?_, ?_⟩, fun p => rfl⟩, fun c hc => by rw [h.waits] at hc; cases hc⟩
  · have e : (d.restart keep).seen = d.seen := by
      show (dfold keep d d.waits.length).2 = _
      rw [h.waits, ← h.same]; simp [dfold]
    rw [e]; exact h.look p
  · have e : (d.restart keep).seen = d.seen := by
      show (dfold keep d d.waits.length).2 = _
      rw [h.waits, ← h.same]; simp [dfold]
    rw [e]; exact h.tot
theorem restart_one {d : RD} {c : RC} (hw : d.waits = [c]) (keep : List Bool) : (d.restart keep).seen = (dstep (keep, d.lasts) c).2 := by
  show (dfold keep d d.waits.length).2 = _
  rw [dfold, hw]
  rfl
theorem lessP_succ (n : Nat) : lessP ((n + 1 : Nat) : Int) = (n : Int) := by unfold lessP; rw [if_pos (by omega)]; omega
/-- one write, and its sync -/
theorem Pat.write0 {d : RD} {F : List UInt8 → Option (List UInt8)} {T : Nat} {room : Int} (h : Pat d F T room 0) {p l : List UInt8} (hp : Named p) : d.writeE p l = 6 := by
  rw [RD.writeE, if_neg (fun k => k hp), if_pos (by simpa using h.pw)]
theorem Pat.writeE {d : RD} {F : List UInt8 → Option (List UInt8)} {T : Nat} {room : Int} {n : Nat} (h : Pat d F T room (n + 1)) {p l : List UInt8} (hp : Named p) (hr : (T : Int) + (l.length : Nat) ≤ room) : d.writeE p l = 0 := by
  have h1 := h.tot
  have h2 := h.room
  rw [RD.writeE, if_neg (fun k => k hp), if_neg (by rw [h.pw]; omega), if_neg (by omega)]
theorem Pat.write {d : RD} {F : List UInt8 → Option (List UInt8)} {T : Nat} {room : Int} {n : Nat} (h : Pat d F T room (n + 1)) {p l : List UInt8} (hp : Named p) (hr : (T : Int) + (l.length : Nat) ≤ room) :
    (n = 0 ∧ (d.write p l).syncE = 6 ∧ Crash (d.write p l) (fun F' => ∀ q, q ≠ p → F' q = F q) (T + l.length) room) ∨
    (∃ m, n = m + 1 ∧ (d.write p l).syncE = 0 ∧ Pat (d.write p l).sync (fup F p (some l)) (T + l.length) room m) := by
  have hW : d.write p l = d.did 0 p [] l := by rw [RD.write, if_pos (h.writeE hp hr)]
  have hs : (d.write p l).seen = insF d.seen (p, l) := by
    rw [hW]
    show makeF d.seen 0 p [] l = _
    rw [makeF, if_pos rfl, withF_ins]
  have hpw : (d.write p l).pw = (n : Int) := by rw [hW]; show lessP d.pw = _; rw [h.pw, lessP_succ]
  have ht := h.tot
  have ins : ∀ l' : List UInt8, l'.length ≤ l.length → totF (insF d.seen (p, l')) ≤ T + l.length := fun l' hl => by
    have := totF_ins d.seen (p, l')
    have e : (p, l').2.length = l'.length := rfl
    omega
  match n, hpw with
  | 0, hpw =>
    refine .inl ⟨rfl, by rw [RD.syncE, if_pos (by simpa using hpw)], fun keep => ?_, fun c hc => ?_⟩
    · have hwt : (d.write p l).waits = [(0, p, [], l)] := by rw [hW]; show d.waits ++ _ = _; rw [h.waits]; rfl
      have hla : (d.write p l).lasts = d.seen := by rw [hW]; exact h.same
      have hre := restart_one hwt keep
      rw [hla] at hre
      have hroom : ((d.write p l).restart keep).room = room := by rw [hW]; exact h.room
      unfold dstep at hre
      by_cases hb : keep.headD false = true
      · rw [if_pos hb, if_pos rfl] at hre
        have hre2 : ∀ l' : List UInt8, l'.length ≤ l.length → ((d.write p l).restart keep).seen = makeF d.seen 0 p [] l' → ∃ F', At ((d.write p l).restart keep) F' (T + l.length) room ∧ ∀ q, q ≠ p → F' q = F q := fun l' hl he => by
          rw [makeF, if_pos rfl, withF_ins] at he
          refine ⟨fup F p (some l'), ⟨rfl, hroom, fun q => ?_, by rw [he]; exact ins l' hl⟩, fun q hq => if_neg hq⟩
          rw [he, lk_ins]
          unfold fup
          split
          · rfl
          · exact h.look q
        by_cases hb2 : keep.tail.headD false = true
        · simp only [hb2, if_true] at hre
          exact hre2 l (Nat.le_refl _) hre
        · simp only [hb2, if_false] at hre
          exact hre2 (l.take (l.length / 2)) (by rw [List.length_take]; omega) hre
      · rw [if_neg hb] at hre
        exact ⟨F, ⟨rfl, hroom, fun q => by rw [hre]; exact h.look q, by rw [hre]; show totF d.seen ≤ _; omega⟩, fun q _ => rfl⟩
    · have hwt : (d.write p l).waits = [(0, p, [], l)] := by rw [hW]; show d.waits ++ _ = _; rw [h.waits]; rfl
      rw [hwt] at hc
      rw [List.mem_singleton.1 hc]; show (0 : Int) ≠ 2; decide
  | m + 1, hpw =>
    have hne : ¬ (d.write p l).pw = 0 := by rw [hpw]; omega
    refine .inr ⟨m, rfl, by rw [RD.syncE, if_neg hne], ?_⟩
    have e : (d.write p l).sync = { (d.write p l) with lasts := (d.write p l).seen, waits := [], pw := lessP (d.write p l).pw } := by rw [RD.sync, if_neg hne]
    rw [e]
    refine ⟨by show lessP (d.write p l).pw = _; rw [hpw, lessP_succ], by show (d.write p l).room = _; rw [hW]; exact h.room, fun q => ?_, rfl, rfl, ?_⟩
    · show lk (d.write p l).seen q = _
      rw [hs, lk_ins]
      unfold fup
      split
      · rfl
      · exact h.look q
    · show totF (d.write p l).seen ≤ _
      rw [hs]; exact ins l (Nat.le_refl _)
/-- one rename, and its sync -/
theorem Pat.rename {d : RD} {F : List UInt8 → Option (List UInt8)} {T : Nat} {room : Int} {n : Nat} (h : Pat d F T room (n + 1)) {a c x : List UInt8} (hc : Named c) (hx : F a = some x) :
    d.renameE a c = 0 ∧ ((n = 0 ∧ (d.rename a c).syncE = 6 ∧ Crash (d.rename a c) (fun F' => (∀ q, F' q = F q) ∨ ∀ q, F' q = fup (fup F a none) c (some x) q) T room) ∨
    (∃ m, n = m + 1 ∧ (d.rename a c).syncE = 0 ∧ Pat (d.rename a c).sync (fup (fup F a none) c (some x)) T room m)) := by
  have h1 := h.look a
  rw [← lk_find, hx] at h1
  obtain ⟨y, hy, hyx⟩ : ∃ y, d.seen[findN d.seen a]? = some y ∧ y.2 = x := by
    cases hq : d.seen[findN d.seen a]? with
    | none => rw [hq] at h1; cases h1
    | some y => rw [hq] at h1; exact ⟨y, rfl, by simpa using h1⟩
  have hya : y.1 = a := by
    obtain ⟨hi, he⟩ := List.getElem?_eq_some_iff.1 hy
    have := List.findIdx_getElem (p := fun x : FP => decide (x.1 = a)) (xs := d.seen) (w := hi)
    rw [← he]
    exact of_decide_eq_true this
  have hE : d.renameE a c = 0 := by
    rw [RD.renameE, if_neg (fun k => k hc), RD.readE, if_neg (by rw [h.pw]; omega), if_neg (by rw [hy]; simp)]
  have hR : d.rename a c = d.did 1 a c [] := by rw [RD.rename, if_pos hE]
  have hmk : ∀ b, makeF d.seen 1 a c b = insF (withoutF d.seen a) (c, x) := fun b => by
    rw [makeF, if_neg (by decide), hy]
    show (if (1 : Int) = 2 then _ else _) = _
    rw [if_neg (by decide), withF_ins, hyx]
  have hlk : ∀ q, lk (insF (withoutF d.seen a) (c, x)) q = fup (fup F a none) c (some x) q := fun q => by
    rw [lk_ins]
    unfold fup withoutF
    split
    · rfl
    · rw [lk_filter]
      split
      · rfl
      · exact h.look q
  have htt : totF (insF (withoutF d.seen a) (c, x)) ≤ T := by
    have h2 := totF_ins (withoutF d.seen a) (c, x)
    have h3 : totF (withoutF d.seen a) + y.2.length ≤ totF d.seen := totF_filter_mem (List.mem_of_getElem? hy) (by simp [hya])
    have := h.tot
    have e : (c, x).2.length = x.length := rfl
    rw [hyx] at h3
    omega
  have hs : (d.rename a c).seen = insF (withoutF d.seen a) (c, x) := by rw [hR]; exact hmk []
  have hpw : (d.rename a c).pw = (n : Int) := by rw [hR]; show lessP d.pw = _; rw [h.pw, lessP_succ]
  refine ⟨hE, ?_⟩
  match n, hpw with
  | 0, hpw =>
    have hwt : (d.rename a c).waits = [(1, a, c, [])] := by rw [hR]; show d.waits ++ _ = _; rw [h.waits]; rfl
    refine .inl ⟨rfl, by rw [RD.syncE, if_pos (by simpa using hpw)], fun keep => ?_, fun k hk => ?_⟩
    · have hla : (d.rename a c).lasts = d.seen := by rw [hR]; exact h.same
      have hre := restart_one hwt keep
      rw [hla] at hre
      have hroom : ((d.rename a c).restart keep).room = room := by rw [hR]; exact h.room
      unfold dstep at hre
      by_cases hb : keep.headD false = true
      · rw [if_pos hb, if_neg (by show ¬ (1 : Int) = 0; decide)] at hre
        have hre3 : ((d.rename a c).restart keep).seen = insF (withoutF d.seen a) (c, x) := hre.trans (hmk [])
        exact ⟨_, ⟨rfl, hroom, fun q => by rw [hre3, hlk], by rw [hre3]; exact htt⟩, .inr fun q => rfl⟩
      · rw [if_neg hb] at hre
        exact ⟨F, ⟨rfl, hroom, fun q => by rw [hre]; exact h.look q, by rw [hre]; exact h.tot⟩, .inl fun q => rfl⟩
    · rw [hwt] at hk
      rw [List.mem_singleton.1 hk]; show (1 : Int) ≠ 2; decide
  | m + 1, hpw =>
    have hne : ¬ (d.rename a c).pw = 0 := by rw [hpw]; omega
    refine .inr ⟨m, rfl, by rw [RD.syncE, if_neg hne], ?_⟩
    have e : (d.rename a c).sync = { (d.rename a c) with lasts := (d.rename a c).seen, waits := [], pw := lessP (d.rename a c).pw } := by rw [RD.sync, if_neg hne]
    rw [e]
    refine ⟨by show lessP (d.rename a c).pw = _; rw [hpw, lessP_succ], by show (d.rename a c).room = _; rw [hR]; exact h.room, fun q => ?_, rfl, rfl, ?_⟩
    · show lk (d.rename a c).seen q = _
      rw [hs, hlk]
    · show totF (d.rename a c).seen ≤ _
      rw [hs]; exact htt
end Go.Proofs.YtlbecpekemlllaaGreat
end
section
/- A journal saved with so much power, and what a restart may find. No program walked. -/
set_option linter.unusedVariables false
set_option linter.unusedSimpArgs false
namespace Go.Proofs.YtlbecpekemlllaaGreat
open Go.Eng Go.Hx
theorem sync_six {d : RD} (h : d.syncE = 6) : d.sync = d := nosync (by rw [h]; decide)
theorem Pat.readE0 {d : RD} {F : List UInt8 → Option (List UInt8)} {T : Nat} {room : Int} (h : Pat d F T room 0) (p : List UInt8) : d.readE p = 6 := by rw [RD.readE, if_pos (by simpa using h.pw)]
theorem Pat.rename0 {d : RD} {F : List UInt8 → Option (List UInt8)} {T : Nat} {room : Int} (h : Pat d F T room 0) {a c : List UInt8} (hc : Named c) : d.renameE a c = 6 := by rw [RD.renameE, if_neg (fun k => k hc), h.readE0]
theorem Pat.saveJ {d : RD} {F : List UInt8 → Option (List UInt8)} {T : Nat} {room : Int} {n : Nat} (h : Pat d F T room n) {l : List UInt8} (hr : (T : Int) + (l.length : Nat) ≤ room) :
    (∃ m d' F', n = m + 4 ∧ d.saveJ jNew jNow l = (d', 0) ∧ Pat d' F' (T + l.length) room m ∧ F' jNow = some l) ∨
    (n < 4 ∧ ∃ d', d.saveJ jNew jNow l = (d', 6) ∧ Crash d' (fun F' => F' jNow = F jNow ∨ F' jNow = some l) (T + l.length) room) := by
  have s0 : jNow ≠ jNew := by decide
  match n, h with
  | 0, h => exact .inr ⟨by decide, d, by rw [RD.saveJ, if_pos (by rw [h.write0 nm_jnew]; decide), h.write0 nm_jnew], h.crash.mono (fun F' hF => .inl (hF _)) (by omega)⟩
  | n + 1, h =>
    have hE := h.writeE nm_jnew (l := l) hr
    rcases h.write nm_jnew (l := l) hr with ⟨rfl, h1, h2⟩ | ⟨m, rfl, h1, h2⟩
    · refine .inr ⟨by decide, _, ?_, h2.mono (fun F' hF => .inl (hF _ s0)) (Nat.le_refl _)⟩
      rw [RD.saveJ, if_neg (by rw [hE]; decide), if_pos (by rw [h1]; decide), h1]
    · match m, h2 with
      | 0, h2 =>
        have hn := h2.rename0 (a := jNew) nm_jnow
        refine .inr ⟨by decide, _, ?_, h2.crash.mono (fun F' hF => .inl (by rw [hF]; exact if_neg s0)) (Nat.le_refl _)⟩
        rw [RD.saveJ, if_neg (by rw [hE]; decide), if_neg (by rw [h1]; decide), if_pos (by rw [hn]; decide), hn]
      | m + 1, h2 =>
        have hx : fup F jNew (some l) jNew = some l := if_pos rfl
        obtain ⟨h3, h4⟩ := h2.rename nm_jnow hx
        have hS : d.saveJ jNew jNow l = ((((d.write jNew l).sync.rename jNew jNow)).sync, (((d.write jNew l).sync.rename jNew jNow)).syncE) := by
          rw [RD.saveJ, if_neg (by rw [hE]; decide), if_neg (by rw [h1]; decide), if_neg (by rw [h3]; decide)]
        rcases h4 with ⟨rfl, h5, h6⟩ | ⟨k, rfl, h5, h6⟩
        · refine .inr ⟨by decide, _, hS.trans (by rw [h5, sync_six h5]), h6.mono (fun F' hF => ?_) (Nat.le_refl _)⟩
          rcases hF with hF | hF
          · exact .inl (by rw [hF]; exact if_neg s0)
          · exact .inr (by rw [hF]; exact if_pos rfl)
        · exact .inl ⟨k, _, _, rfl, hS.trans (by rw [h5]), h6, if_pos rfl⟩
/-- what is found behind a restart: the one journal or the other one -/
structure FoundJ (d : RD) (x y : List UInt8) (T : Nat) (code : Int) : Prop where
  nr : ∀ c ∈ d.waits, c.1 ≠ 2
  re : ∀ keep, ∃ q, (d.restart keep).readE jNow = 0 ∧ (d.restart keep).readB jNow = q ∧ (q = x ∨ q = y) ∧ (code = 0 → q = y)
theorem JD.crash {d : RD} {x y : List UInt8} {T : Nat} (h : JD d (some x) T) (hr : T + y.length ≤ 2000) (n : Nat) :
    FoundJ ((d.power (n : Int)).saveJ jNew jNow y).1 x y (T + y.length) ((d.power (n : Int)).saveJ jNew jNow y).2 := by
  obtain ⟨F, ha, hF⟩ := h.at_
  have hP : Pat (d.power (n : Int)) F T 2000 n := ⟨by show max (n : Int) (-1) = n; omega, ha.room, ha.look, h.same, h.waits, ha.tot⟩
  rcases hP.saveJ (l := y) (by omega) with ⟨m, d', F', hn, e, h1, h2⟩ | ⟨hn, d', e, h1⟩
  · rw [e]
    refine ⟨h1.crash.nr, fun keep => ?_⟩
    obtain ⟨G, hG, hq⟩ := h1.crash.re keep
    exact ⟨y, by rw [hG.readE, if_neg (by rw [hq, h2]; simp)], by rw [hG.readB, hq, h2]; rfl, .inr rfl, fun _ => rfl⟩
  · rw [e]
    refine ⟨h1.nr, fun keep => ?_⟩
    obtain ⟨G, hG, hq⟩ := h1.re keep
    rcases hq with hq | hq
    · exact ⟨x, by rw [hG.readE, if_neg (by rw [hq, hF]; simp)], by rw [hG.readB, hq, hF]; rfl, .inl rfl, fun k => absurd k (show ¬ (6 : Int) = 0 by decide)⟩
    · exact ⟨y, by rw [hG.readE, if_neg (by rw [hq]; simp)], by rw [hG.readB, hq]; rfl, .inr rfl, fun k => absurd k (show ¬ (6 : Int) = 0 by decide)⟩
end Go.Proofs.YtlbecpekemlllaaGreat
end
section
/- Contracts: texts in order (slices.Sort of at most 12). -/
set_option linter.unusedVariables false
set_option linter.unusedSimpArgs false
set_option maxRecDepth 20000
namespace Go.Proofs.YtlbecpekemlllaaGreat
open Go.Eng Go.Hx
def ss (l : List (List UInt8)) : List Value := l.map SV
theorem ss_get {l : List (List UInt8)} {i : Nat} (h : i < l.length) : (ss l)[i]? = some (SV (l.getD i [])) := by simp [ss, List.getElem?_map, List.getElem?_eq_getElem h, List.getD]
theorem ss_one {l : List (List UInt8)} : ∀ u ∈ ss l, u.oneCell' = true := by
  intro u hu
  obtain ⟨x, _, rfl⟩ := List.mem_map.1 hu
  rfl
end Go.Proofs.YtlbecpekemlllaaGreat
end
section
/- Lays of the library function slices.Sort for this seat. -/
namespace Go.Proofs
open Go.Shelf
def Tryz.lays190_ren : Go.Shelf.Ren := ⟨fun | 190 => 37 | 125 => 69 | 258 => 68 | 128 => 94 | 129 => 95 | 302 => 85 | 303 => 86 | 304 => 87 | 305 => 88 | 306 => 89 | 307 => 90 | 308 => 91 | 309 => 92 | 310 => 93 | 333 => 103 | 329 => 104 | 330 => 105 | 334 => 106 | 335 => 107 | 336 => 108 | 344 => 113 | n => n, fun | 31 => 46 | 9 => 9 | 3 => 3 | 46 => 108 | 0 => 0 | 51 => 132 | 53 => 146 | 4 => 4 | 183 => 139 | 182 => 138 | 131 => 128 | 5 => 5 | 218 => 151 | 222 => 155 | 228 => 158 | 229 => 159 | n => n, fun | n => n⟩
theorem Tryz.lays190 : Go.Proofs.Lays.n190 Tryz.prog Tryz.lays190_ren := {
  mixed := by kernel_rfl
  f125 := Tryz.func69.trans (congrArg some (by kernel_rfl))
  f128 := Tryz.func94.trans (congrArg some (by kernel_rfl))
  f129 := Tryz.func95.trans (congrArg some (by kernel_rfl))
  f190 := Tryz.func37.trans (congrArg some (by kernel_rfl))
  f258 := Tryz.func68.trans (congrArg some (by kernel_rfl))
  f302 := Tryz.func85.trans (congrArg some (by kernel_rfl))
  f303 := Tryz.func86.trans (congrArg some (by kernel_rfl))
  f304 := Tryz.func87.trans (congrArg some (by kernel_rfl))
  f305 := Tryz.func88.trans (congrArg some (by kernel_rfl))
  f306 := Tryz.func89.trans (congrArg some (by kernel_rfl))
  f307 := Tryz.func90.trans (congrArg some (by kernel_rfl))
  f308 := Tryz.func91.trans (congrArg some (by kernel_rfl))
  f309 := Tryz.func92.trans (congrArg some (by kernel_rfl))
  f310 := Tryz.func93.trans (congrArg some (by kernel_rfl))
  f329 := Tryz.func104.trans (congrArg some (by kernel_rfl))
  f330 := Tryz.func105.trans (congrArg some (by kernel_rfl))
  f333 := Tryz.func103.trans (congrArg some (by kernel_rfl))
  f334 := Tryz.func106.trans (congrArg some (by kernel_rfl))
  f335 := Tryz.func107.trans (congrArg some (by kernel_rfl))
  f336 := Tryz.func108.trans (congrArg some (by kernel_rfl))
  f344 := Tryz.func113.trans (congrArg some (by kernel_rfl))
  t0 := Tryz.underlying0
  a0 := Tryz.isAgg0
  z0 := Tryz.sizeOf0
  v0 := Tryz.zeroValue0
  t3 := Tryz.underlying3
  a3 := Tryz.isAgg3
  z3 := Tryz.sizeOf3
  v3 := Tryz.zeroValue3
  t4 := Tryz.underlying4
  a4 := Tryz.isAgg4
  z4 := Tryz.sizeOf4
  v4 := Tryz.zeroValue4
  t5 := Tryz.underlying5
  a5 := Tryz.isAgg5
  z5 := Tryz.sizeOf5
  v5 := Tryz.zeroValue5
  t9 := Tryz.underlying9
  a9 := Tryz.isAgg9
  z9 := Tryz.sizeOf9
  v9 := Tryz.zeroValue9
  t31 := Tryz.underlying46
  a31 := Tryz.isAgg46
  z31 := Tryz.sizeOf46
  v31 := Tryz.zeroValue46
  t46 := Tryz.underlying108
  a46 := Tryz.isAgg108
  z46 := Tryz.sizeOf108
  v46 := Tryz.zeroValue108
  t51 := Tryz.underlying132
  a51 := Tryz.isAgg132
  z51 := Tryz.sizeOf132
  v51 := Tryz.zeroValue132
  t53 := Tryz.underlying146
  a53 := Tryz.isAgg146
  z53 := Tryz.sizeOf146
  v53 := Tryz.zeroValue146
  t131 := Tryz.underlying128
  a131 := Tryz.isAgg128
  z131 := Tryz.sizeOf128
  v131 := Tryz.zeroValue128
  t182 := Tryz.underlying138
  a182 := Tryz.isAgg138
  z182 := Tryz.sizeOf138
  v182 := Tryz.zeroValue138
  t183 := Tryz.underlying139
  a183 := Tryz.isAgg139
  z183 := Tryz.sizeOf139
  v183 := Tryz.zeroValue139
  t218 := Tryz.underlying151
  a218 := Tryz.isAgg151
  z218 := Tryz.sizeOf151
  v218 := Tryz.zeroValue151
  t222 := Tryz.underlying155
  a222 := Tryz.isAgg155
  z222 := Tryz.sizeOf155
  v222 := Tryz.zeroValue155
  t228 := Tryz.underlying158
  a228 := Tryz.isAgg158
  z228 := Tryz.sizeOf158
  v228 := Tryz.zeroValue158
  t229 := Tryz.underlying159
  a229 := Tryz.isAgg159
  z229 := Tryz.sizeOf159
  v229 := Tryz.zeroValue159 }
end Go.Proofs
end
section
/- Contract: slices.Sort of texts, from the kit's shelf. -/
set_option linter.unusedVariables false
set_option linter.unusedSimpArgs false
set_option maxRecDepth 20000
namespace Go.Proofs.YtlbecpekemlllaaGreat
open Go.Eng Go.Hx Go.Sort
def srt (l : List (List UInt8)) : List (List UInt8) := l.mergeSort fun x y => decide (x ≤ y)
theorem heap_srt {w : World} {g n o : Nat} {os : Array Obj} {cur : Array Value} {e : TypeId} {fr : Nat × Nat} (d : Array (List UInt8)) (hb : w.heap[g]? = some (.cells cur e fr)) :
    (grow (putRow encStr (Go.Sort.ahead w n) g o d) os).heap[g]? = some (.cells (putCells encStr o d cur) e fr) := by
  have hg : g < w.heap.size := (Array.getElem?_eq_some_iff.1 hb).1
  rw [heap_grow_old _ _ (by simpa using hg)]
  simp [putRow, mapBlock, Go.Sort.ahead, Array.getElem?_modify, hb, onCells]
theorem fr_srt {w : World} {g n o : Nat} {os : Array Obj} (d : Array (List UInt8)) : Fr (fun k => k = g) w (grow (putRow encStr (Go.Sort.ahead w n) g o d) os) := by
  refine ⟨rfl, rfl, rfl, by simp, fun k hk hne => ?_⟩
  rw [heap_grow_old _ _ (by simpa using hk)]
  have : g ≠ k := fun e => hne e.symm
  simp [putRow, mapBlock, Go.Sort.ahead, Array.getElem?_modify, this]
theorem take_put (cur : List Value) (o : Nat) (ts : List (List UInt8)) (h : o + ts.length ≤ cur.length) : ((putCells encStr o ts.toArray cur.toArray).toList.drop o).take ts.length = ss ts := by
  apply List.ext_getElem?
  intro j
  by_cases hj : j < ts.length
  · rw [List.getElem?_take_of_lt hj, List.getElem?_drop, Array.getElem?_toList]
    simp [putCells, hj, ss, show o + j < cur.length by omega, SV, strOf]
  · rw [List.getElem?_take_eq_none (by omega), List.getElem?_eq_none (by simp [ss]; omega)]
theorem srt_len (l : List (List UInt8)) : (srt l).length = l.length := List.length_mergeSort ..
theorem sort_c {A : Option Addr} {n c base : Nat} {e : TypeId} {l : List (List UInt8)} {w : World} (h : Own w base e 1 (.slice A n c) n (ss l)) (hn6 : n ≤ 1000000) :
    Calls Tryz.prog 37 #[.slice A n c] w fun r w' => r = .returned (.tuple #[]) ∧ Own w' base e 1 (.slice A n c) n (ss (srt l)) ∧ Fr (vblk (.slice A n c)) w w' := by
  obtain ⟨h1, h2⟩ := h
  have hl : l.length = n := by simpa [ss] using h1
  rcases h2 with ⟨hv, hn⟩ | ⟨g, o, cap, cur, hv, hb, ⟨fr, hh, hf, hfl⟩, hnc, hcm, hfit, hcs⟩
  · cases hv
    obtain rfl : l = [] := List.eq_nil_of_length_eq_zero hl
    refine Calls.mono (con_calls sortNoC (by intro s hs; cases hs)) (fun r w' ⟨hr, hf⟩ => ⟨hr, ⟨by simp [srt, ss], .inl ⟨rfl, rfl⟩⟩, hf.mono (fun _ _ e => e.elim)⟩)
  · cases hv
    subst hl
    have hB : Blk w g e cur := ⟨fr, hh, hf, hfl⟩
    have hH : Holds encStr w g o l.toArray := by
      intro j hj
      have hj' : j < l.length := by simpa using hj
      have h3 : ((cur.drop o).take (l.length * 1))[j]? = (ss l)[j]? := by rw [hcs]
      rw [List.getElem?_take_of_lt (by omega), List.getElem?_drop, ss_get hj'] at h3
      refine ⟨?_, hB.frozen (by omega)⟩
      rw [hB.cell h3]
      simp [List.getD, List.getElem?_eq_getElem hj', hj', SV, strOf]
    refine Calls.mono (Any.slices_Sort_string Tryz.lays190 g o c l w hH hB.lt (by omega)) ?_
    rintro r w' ⟨hr, k, os, rfl⟩
    refine ⟨hr, ⟨by simp [ss, srt_len], .inr ⟨g, o, c, (putCells encStr o (srt l).toArray cur.toArray).toList, rfl, hb, ?_, hnc, hcm, by simp [putCells]; omega, ?_⟩⟩, fr_srt _⟩
    · have := heap_srt (n := k) (o := o) (os := os) (srt l).toArray hh
      exact ⟨fr, by simpa [srt] using this, fun i hi => hf i (by simpa [putCells] using hi), by simpa [putCells] using hfl⟩
    · have := take_put cur o (srt l) (by rw [srt_len]; omega)
      rw [srt_len] at this
      rw [Nat.mul_one]; exact this
theorem sortC {A : Option Addr} {n c : Nat} {e : TypeId} {l : List (List UInt8)} (hn : n ≤ 1000000) : Con Tryz.prog 37 [.slice A n c] [ROwn e 1 (.slice A n c) n (ss l)] [] (fun v_ X_ S_ => v_ = (.tuple #[]) ∧ X_ = [ROwn e 1 (.slice A n c) n (ss (srt l))] ∧ S_ = []) := by
  refine fun w m => Calls.mono (sort_c (m.own 0 rfl) hn) ?_
  rintro r w' ⟨hr, ho, hf⟩
  exact ⟨_, _, _, hr, ⟨rfl, rfl, rfl⟩, m.change (r' := ROwn e 1 (.slice A n c) n (ss (srt l))) hf ho (fun k hk => .inl hk)⟩
end Go.Proofs.YtlbecpekemlllaaGreat
end
section
/- Contract: a disk's names. -/
set_option linter.unusedVariables false
set_option linter.unusedSimpArgs false
set_option maxRecDepth 20000
namespace Go.Proofs.YtlbecpekemlllaaGreat
open Go.Eng Go.Hx
theorem perm_erase {α : Type} : ∀ {l : List α} {j : Nat} {x : α}, l[j]? = some x → l.Perm (x :: l.eraseIdx j)
  | [], j, x, h => by simp at h
  | a :: r, 0, x, h => by
    simp only [List.getElem?_cons_zero, Option.some.injEq] at h
    subst h; exact List.Perm.refl _
  | a :: r, j + 1, x, h => by
    have := perm_erase (l := r) (j := j) (x := x) (by simpa using h)
    exact (List.Perm.cons a this).trans (List.Perm.swap x a _)
def pre (p s : List UInt8) : Bool := decide (s.take p.length = p)
theorem slHasPrefixC {s p : List UInt8} : Con Tryz.prog 67 [.string (strOf s), .string (strOf p)] [] [] (fun v_ X_ S_ => v_ = (.bool (pre p s)) ∧ X_ = [] ∧ S_ = []) := by
  have hs1 := strOf_size s
  have hs2 := strOf_size p
  refine henter (N := 18) Tryz.func67 rfl rfl (by simp) fun b => ?_
  by_cases h : p.length ≤ s.length
  · refine hseq <| hreg <| hy (fun _ => y_assign rfl) <| hend <| hthen <| hseq <| hreg <| hy (fun _ => y_move rfl) <| hy (fun _ => y_lenStr rfl Tryz.underlying9) <| hy (fun _ => y_move rfl) <| hy (fun _ => y_lenStr rfl Tryz.underlying9) <| hy (fun _ => yT (y_geq rfl rfl) ((decide_eq_true (by omega)))) <| hy (fun _ => y_move rfl) <| hyg (o := _) rfl rfl rfl (fun _ => y_move rfl) <| hyg (o := _) rfl rfl rfl (fun _ => y_move rfl) <| hyg (o := _) rfl rfl rfl (fun _ => y_lenStr rfl Tryz.underlying9) <| hyg (o := _) rfl rfl rfl (fun _ => yV (y_strTo rfl rfl Tryz.underlying9 (show ((p.length : Nat) : Int) = _ by omega) (by rw [bytesOf_strOf]; exact h)) ((rfl : Value.string _ = .string (strOf (s.take p.length))))) <| hyg (o := _) rfl rfl rfl (fun _ => y_move rfl) <| hyg (o := _) rfl rfl rfl (fun _ => y_seq rfl rfl) <| hy (fun _ => y_pickT rfl rfl) <| hy (fun _ => y_assign rfl) <| hend <| hsub (ρ' := [(4, _), (0, _), (1, _)]) ⟨rfl, rfl, rfl, trivial⟩ <| hthen <| hret <| ?_
    exact hret1 trivial rfl rfl [] rfl [] rfl ⟨(congrArg Value.bool (decide_eq_decide.2 strOf_inj)), rfl, rfl⟩
  · refine hseq <| hreg <| hy (fun _ => y_assign rfl) <| hend <| hthen <| hseq <| hreg <| hy (fun _ => y_move rfl) <| hy (fun _ => y_lenStr rfl Tryz.underlying9) <| hy (fun _ => y_move rfl) <| hy (fun _ => y_lenStr rfl Tryz.underlying9) <| hy (fun _ => yF (y_geq rfl rfl) ((decide_eq_false (by omega)))) <| hy (fun _ => y_move rfl) <| hskip rfl rfl rfl (by decide) <| hskip rfl rfl rfl (by decide) <| hskip rfl rfl rfl (by decide) <| hskip rfl rfl rfl (by decide) <| hskip rfl rfl rfl (by decide) <| hskip rfl rfl rfl (by decide) <| hy (fun _ => y_pickF rfl rfl) <| hy (fun _ => y_assign rfl) <| hend <| hsub (ρ' := [(4, _), (0, _), (1, _)]) ⟨rfl, rfl, rfl, trivial⟩ <| hthen <| hret <| ?_
    exact hret1 trivial rfl rfl [] rfl [] rfl ⟨(congrArg Value.bool (decide_eq_false (fun e => h (by rw [← e, List.length_take]; omega))).symm), rfl, rfl⟩
theorem hasPrefixC {s p : List UInt8} : Con Tryz.prog 36 [.string (strOf s), .string (strOf p)] [] [] (fun v_ X_ S_ => v_ = (.bool (pre p s)) ∧ X_ = [] ∧ S_ = []) := by
  refine henter (N := 8) Tryz.func36 rfl rfl (by simp) fun b => ?_
  refine hseq <| hreg <| hy (fun _ => y_assign rfl) <| hend <| hthen <| hseq <| hreg <| hy (fun _ => y_move rfl) <| hy (fun _ => y_move rfl) <| ?_
  refine hx (xh_call rfl Tryz.call67 (slHasPrefixC) [] rfl [] rfl ?_)
  rintro _ _ _ ⟨rfl, rfl, rfl⟩
  refine hy (fun _ => y_assign rfl) <| hend <| hsub (ρ' := [(4, _), (0, _), (1, _)]) ⟨rfl, rfl, rfl, trivial⟩ <| hmemQ (X' := []) (S' := []) (fun _ m => m) <| hthen <| hret <| ?_
  exact hret1 trivial rfl rfl [] rfl [] rfl ⟨rfl, rfl, rfl⟩
theorem listC {g : Nat} {st : DSt} {p : List UInt8} (hk : st.seen.length ≤ 100000) : Con Tryz.prog 14 [.pointer (some ⟨g, 0, none⟩), .string (strOf p)] [RDisk g st] [] (fun v_ X_ S_ => ∃ v n ks, v_ = v ∧ X_ = [RDisk g st, ROwn 9 1 v n (ss (srt ks))] ∧ S_ = [] ∧ (n = ks.length ∧ ks.Perm ((akeys st.seen).filter (pre p)))) := by
  refine henter (N := 26) Tryz.func14 rfl rfl (by simp) fun b => ?_
  refine hmemC (fun w m => (m.perm (takeR_perm [0] _ [_] _ rfl)).unpack) ?_
  refine hseq <| hreg <| hy (fun _ => y_assign rfl) <| hend <| hthen <| hseq <| hreg <| hy (fun _ => y_assign rfl) <| hend <| hthen <| hseq <| hseq <| hreg <| hy (fun _ => y_move rfl) <| hy (fun _ => y_nilp rfl) <| hy (fun _ => y_fld rfl fa77_1 (by decide)) <| hy (fun m => y_ld1 rfl ag74 (ld_blk (m.blk 0 rfl) rfl)) <| ?_
  refine hx (xh_range 1 rfl rfl Tryz.underlying74 (fun r11 => ?_))
  refine hend <| hsub (ρ' := [(11, _), (5, _), (4, _), (0, _), (1, _)]) ⟨rfl, rfl, rfl, rfl, rfl, trivial⟩ <| hmemQ (X' := [_, _, _, _, _]) (S' := []) (fun _ m => m) <| hthen <| hblock <| ?_
  refine hmemC (fun w m => m.addX (r' := ROwn 9 1 (.slice none 0 0) 0 []) (.refl _ _) (Own.nil _ _ _ _) (fun k hk => hk.elim)) ?_
  refine hloop6 (fun left cur A1 k c1 ks => left.length) (fun left cur A1 k c1 ks => [(5, .slice A1 k c1)]) (fun left cur A1 k c1 ks => [ROwn 9 1 (.slice A1 k c1) k (ss ks), RRng SV r11 st.gs (vals st.seen) (vals left) cur]) (fun left cur A1 k c1 ks => []) (fun left cur A1 k c1 ks => k = ks.length ∧ k + left.length ≤ st.seen.length ∧ (ks ++ (akeys left).filter (pre p)).Perm ((akeys st.seen).filter (pre p))) st.seen none none 0 0 [] [(11, _), (4, _), (0, _), (1, _)] ⟨rfl, rfl, rfl, rfl, trivial⟩ [0, 0] rfl [] rfl (⟨rfl, by omega, List.Perm.refl _⟩) ⟨rfl, trivial⟩ (fun left cur A1 k c1 ks ⟨hkn, hkl, hpm⟩ => ?_)
  refine hseq <| hreg <| ?_
  refine hx (xh_next 1 rfl rfl (fun h0 => ?_) (fun j x hx1 => ?_))
  · obtain rfl : left = [] := List.map_eq_nil_iff.1 h0
    refine hy (fun _ => y_extract rfl rfl) <| hend <| hsub (ρ' := [(13, _), (5, _), (11, _), (4, _), (0, _), (1, _)]) ⟨rfl, rfl, rfl, rfl, rfl, rfl, trivial⟩ <| hthen <| hseq <| ?_
    refine hiff rfl (rfl) ?_
    refine hexit <| hthen_exit <| hthen_exit <| hqblock_exit <| hthen <| hseq <| hreg <| hy (fun _ => y_move rfl) <| ?_
    refine hx (xh_call rfl Tryz.call37 (sortC (by omega)) [0] rfl [] rfl ?_)
    rintro _ _ _ ⟨rfl, rfl, rfl⟩
    refine hend <| hsub (ρ' := [(13, _), (5, _), (11, _), (4, _), (0, _), (1, _)]) ⟨rfl, rfl, rfl, rfl, rfl, rfl, trivial⟩ <| hmemQ (X' := [_, _, _, _, _, _]) (S' := []) (fun _ m => m) <| hthen <| hseq <| hreg <| hy (fun _ => y_move rfl) <| hy (fun _ => y_assign rfl) <| hend <| hsub (ρ' := [(4, _), (13, _), (5, _), (11, _), (0, _), (1, _)]) ⟨rfl, rfl, rfl, rfl, rfl, rfl, trivial⟩ <| hthen <| hret <| ?_
    refine hmemQ (fun w m => m.rngEnd 1 rfl) ?_
    refine hmemQ (X' := RDisk g st :: _) (fun w m => (m.perm (takeR_perm [2, 0, 1, 1, 1] _ [_, _, _, _, _] _ rfl)).pack) ?_
    exact hret1 trivial rfl rfl [0, 0] rfl [] rfl ⟨_, _, _, rfl, rfl, rfl, ⟨hkn, by simpa [akeys] using hpm⟩⟩
  · obtain ⟨key, v⟩ := x
    obtain ⟨r, hr, e⟩ := vals_at hx1
    obtain rfl : v = r.val := e
    have hlt := (List.getElem?_eq_some_iff.1 hr).1
    simp only at hr
    have hpe := perm_erase hr
    have hpa : (akeys left).Perm (key :: akeys (left.eraseIdx j)) := by simpa [akeys] using hpe.map Prod.fst
    have hpf := hpa.filter (pre p)
    refine hy (fun _ => y_extract rfl rfl) <| hend <| hsub (ρ' := [(13, _), (5, _), (11, _), (4, _), (0, _), (1, _)]) ⟨rfl, rfl, rfl, rfl, rfl, rfl, trivial⟩ <| hthen <| hseq <| ?_
    refine hift rfl (rfl) ?_
    refine hcskip <| hthen <| hblock <| hseq <| hreg <| hy (fun m => y_entryM rfl (m.rngX 0 rfl)) <| hy (fun _ => y_extract rfl rfl) <| hy (fun _ => y_assign rfl) <| hend <| hsub (ρ' := [(6, _), (13, _), (5, _), (11, _), (4, _), (0, _), (1, _)]) ⟨rfl, rfl, rfl, rfl, rfl, rfl, rfl, trivial⟩ <| hthen <| hseq <| hreg <| hy (fun _ => y_move rfl) <| hy (fun _ => y_move rfl) <| ?_
    refine hx (xh_call rfl Tryz.call36 (hasPrefixC) [] rfl [] rfl ?_)
    rintro _ _ _ ⟨rfl, rfl, rfl⟩
    refine hend <| hsub (ρ' := [(18, _), (6, _), (13, _), (5, _), (11, _), (4, _), (0, _), (1, _)]) ⟨rfl, rfl, rfl, rfl, rfl, rfl, rfl, rfl, trivial⟩ <| hmemQ (X' := [_, _, _, _, _, _]) (S' := []) (fun _ m => m) <| hthen <| ?_
    refine hifb rfl (fun hpr => ?_) (fun hpr => ?_)
    · have hp2 : (ks ++ [key] ++ (akeys (left.eraseIdx j)).filter (pre p)).Perm ((akeys st.seen).filter (pre p)) := by
        rw [List.filter_cons, if_pos hpr] at hpf
        rw [List.append_assoc]
        exact ((List.Perm.append_left ks hpf).symm.trans hpm)
      refine hreg <| hy (fun _ => y_move rfl) <| hy (fun _ => y_move rfl) <| ?_
      refine hx (xh_bsl Tryz.underlying46 ti9 rfl rfl rfl (by simp [Value.cells, SV]) (by decide) (by decide) (fun g21 => ?_))
      have hA_b21 : 0 < 1 → (some (⟨g21, 0, none⟩ : Addr)) ≠ none := fun _ h => by cases h
      refine hmemL (fun w m => m.eqX 0 rfl (show _ = ROwn 9 1 (.slice (some ⟨g21, 0, none⟩) 1 1) 1 (ss [key]) from rfl)) ?_
      refine hx (xh_app 2 rfl rfl rfl Tryz.underlying46 Tryz.underlying46 (by exact .inl rfl) ti9 rfl (fun m => Src.of_rd (m.ord 0 rfl)) ss_one (by unfold maxLen; omega) (by omega) (fun u => ?_))
      refine hfactL (fun m => (m.own 0 rfl).slice) ?_
      rintro ⟨A_o, c_o, rfl, hc_o⟩
      refine hfactL (fun m => (m.ord 0 rfl).2.1) fun hA_o => ?_
      refine hmemL (fun w m => m.eqX 0 rfl (show _ = ROwn 9 1 (.slice A_o (k + 1) c_o) (k + 1) (ss (ks ++ [key])) from by simp [ss])) ?_
      refine hy (fun _ => y_assign rfl) <| hend <| hsub (ρ' := [(5, _), (18, _), (6, _), (13, _), (11, _), (4, _), (0, _), (1, _)]) ⟨rfl, rfl, rfl, rfl, rfl, rfl, rfl, rfl, trivial⟩ <| hmemQ (X' := [_, _, _, _, _, _, _]) (S' := []) (fun _ m => m) <| hqblock <| ?_
      refine hmemQ (fun w m => m.eqX 2 rfl (show _ = RRng SV r11 st.gs (vals st.seen) (vals (left.eraseIdx j)) (some (key, r.val)) from congrArg (fun q => RRng SV r11 st.gs (vals st.seen) q (some (key, r.val))) (vals_erase left j))) ?_
      refine hnext6 (left.eraseIdx j) (some (key, r.val)) A_o (k + 1) c_o (ks ++ [key]) ⟨rfl, rfl, rfl, rfl, rfl, trivial⟩ [1, 0, 1, 1, 1, 1] rfl [] rfl (⟨by rw [List.length_append, hkn]; rfl, by rw [List.length_eraseIdx, if_pos hlt]; omega, hp2⟩) (by rw [List.length_eraseIdx, if_pos hlt]; omega)
    · have hp2 : (ks ++ (akeys (left.eraseIdx j)).filter (pre p)).Perm ((akeys st.seen).filter (pre p)) := by
        rw [List.filter_cons, if_neg (by rw [show pre p key = false from hpr]; decide)] at hpf
        exact ((List.Perm.append_left ks hpf).symm.trans hpm)
      refine hcskip <| hqblock <| ?_
      refine hmemQ (fun w m => m.eqX 0 rfl (show _ = RRng SV r11 st.gs (vals st.seen) (vals (left.eraseIdx j)) (some (key, r.val)) from congrArg (fun q => RRng SV r11 st.gs (vals st.seen) q (some (key, r.val))) (vals_erase left j))) ?_
      refine hnext6 (left.eraseIdx j) (some (key, r.val)) A1 k c1 ks ⟨rfl, rfl, rfl, rfl, rfl, trivial⟩ [1, 0, 0, 0, 0, 0] rfl [] rfl (⟨hkn, by rw [List.length_eraseIdx, if_pos hlt]; omega, hp2⟩) (by rw [List.length_eraseIdx, if_pos hlt]; omega)
end Go.Proofs.YtlbecpekemlllaaGreat
end
section
/- Cuts in a walk: what is said behind a piece of code, with ghosts. -/
set_option linter.unusedVariables false
set_option linter.unusedSimpArgs false
set_option linter.unusedSectionVars false
namespace Go.Eng
open Go.RowKit
section
variable {P : Program} {Q : Exit → Act → World → Prop} {N : Nat} {D : List Deferred} {c : Code} {ρ : Env} {b : Base} {X S : List Res}
theorem hcutk2 {α β : Type} (R : α → β → Env) (X1 S1 : α → β → List Res) (I : α → β → Prop) (ρk : Env) (hk : SubB ρk ρ) (is : List Nat) {Xt Xr : List Res} (hX : takeR is X = some (Xt, Xr))
    (h : HC P (CutQ N D (fun i : α × β => R i.1 i.2 ++ ρk) fun i w => Mem b (X1 i.1 i.2 ++ Xr) (S1 i.1 i.2 ++ S) w ∧ I i.1 i.2) N D c ρ b X S) (k : ∀ x y, I x y → HQ Q N D .normal (R x y ++ ρk) b (X1 x y ++ Xr) (S1 x y ++ S)) : HC P Q N D c ρ b X S :=
  hcut (fun i : α × β => R i.1 i.2 ++ ρk) (fun i => X1 i.1 i.2 ++ Xr) (fun i => S1 i.1 i.2 ++ S) (fun i => I i.1 i.2) h fun i hi => k (i.1) (i.2) hi
theorem hqcutk2 {α β : Type} {R : α → β → Env} {X1 S1 : α → β → List Res} {I : α → β → Prop} {ρ0 : Env} {Xr Sr : List Res} (x : α) (y : β) (hs : SubB (R x y ++ ρ0) ρ) (is : List Nat) {Xz : List Res} (hX : takeR is X = some (X1 x y ++ Xr, Xz)) (js : List Nat) (hS : getR js S = some (S1 x y ++ Sr)) (hI : I x y) :
    HQ (CutQ N D (fun i : α × β => R i.1 i.2 ++ ρ0) fun i w => Mem b (X1 i.1 i.2 ++ Xr) (S1 i.1 i.2 ++ Sr) w ∧ I i.1 i.2) N D .normal ρ b X S :=
  hqcut (i := (x, y)) hs is hX js hS hI
end
end Go.Eng
end
section
/- The law JournalCrashes. -/
set_option linter.unusedVariables false
set_option linter.unusedSimpArgs false
set_option maxRecDepth 20000
set_option maxHeartbeats 4000000
namespace Go.Proofs.YtlbecpekemlllaaGreat
open Go.Eng Go.Hx
theorem dpowerC {g : Nat} {st : DSt} {d : RD} {kk : Nat} {n : Int} (hD : DS st d kk) (hn : n ≤ 1000000000000) : Con Tryz.prog 11 [.pointer (some ⟨g, 0, none⟩), .int .i64 n] [RDisk g st] [] (fun v_ X_ S_ => ∃ st1, v_ = (.tuple #[]) ∧ X_ = [RDisk g st1] ∧ S_ = [] ∧ (DS st1 (d.power n) kk)) := by
  exact Con.mono powerC (fun v X S h => by
    obtain ⟨h1, h2, h3⟩ := h
    exact ⟨_, h1, h2, h3, hD.power hn⟩)
theorem pre_nil {l : List (List UInt8)} : l.filter (pre []) = l := by
  rw [List.filter_eq_self]
  intro a _
  rfl
theorem LoadJ.is {d : RD} {img : List UInt8} {ds : List (List UInt8)} (hi : img.length = 32) (hD : D32 ds) (hJ : JMay ds) (h0 : d.readE jNow = 0) (hb : d.readB jNow = putL (jbody img ds)) {i2 : List UInt8} {d2 : List (List UInt8)} {e : Int} (hl : LoadJ d i2 d2 e) : i2 = img ∧ d2 = ds ∧ e = 0 := by
  rcases hl with ⟨c, _⟩ | ⟨_, c⟩
  · exact absurd h0 c
  · rw [hb] at c
    exact readJ_put hi hD hJ c
theorem journalCrashesC {ia ib : List UInt8} {A : Option Addr} {n c : Nat} {da : List (List UInt8)} {B : Option Addr} {n1 c1 : Nat} {db : List (List UInt8)} {z : Int} {K : Option Addr} {mk ck : Nat} {bs : List Bool} (hia : ia.length = 32) (hda : D32 da) (hn : n ≤ 140737488351232) (hib : ib.length = 32) (hdb : D32 db) (hn1 : n1 ≤ 140737488351232) (hz : -9223372036854775808 ≤ z ∧ z ≤ 9223372036854775807) (hck : mk ≤ ck) (hmk : mk ≤ 140737488351232) : Con Tryz.prog 3 [.agg (b8s ia ++ [Value.slice A n c]).toArray, .agg (b8s ib ++ [Value.slice B n1 c1]).toArray, .int .i64 z, .slice K mk ck] [] [RRd 32 A n (dc da), RRd 32 B n1 (dc db), RRd 1 K mk (bools bs)] (fun v_ X_ S_ => v_ = (.bool true) ∧ X_ = [] ∧ S_ = []) := by
  have hgA := goodL_D32 hda
  have hgB := goodL_D32 hdb
  have hlA := goodL_length hda
  have hlB := goodL_length hdb
  have hJA : JMay (goodL da) := ⟨goodL_rise da, by omega⟩
  have hJB : JMay (goodL db) := ⟨goodL_rise db, by omega⟩
  have hjA := jbody_length hia hgA
  have hjB := jbody_length hib hgB
  obtain ⟨X, hX⟩ : ∃ X, X = putL (jbody ia (goodL da)) := ⟨_, rfl⟩
  obtain ⟨Y, hY⟩ : ∃ Y, Y = putL (jbody ib (goodL db)) := ⟨_, rfl⟩
  have hXl : X.length = (jbody ia (goodL da)).length + 4 := by rw [hX]; exact putL_length _
  have hYl : Y.length = (jbody ib (goodL db)).length + 4 := by rw [hY]; exact putL_length _
  have j0 : JD (RD.new 2000) none 0 := JD.new
  obtain ⟨d1, q1, j1⟩ := j0.save (l := X) (by omega)
  obtain ⟨ar0, ar1⟩ := around_lt z 6 (by decide)
  obtain ⟨N, hN⟩ : ∃ N : Nat, around z 6 = (N : Int) := ⟨(around z 6).toNat, by omega⟩
  rw [hN] at ar0 ar1
  have hF := j1.crash (y := Y) (by omega) N
  obtain ⟨d2, e2, q2⟩ : ∃ d2 e2, (d1.power (N : Int)).saveJ jNew jNow Y = (d2, e2) := ⟨_, _, rfl⟩
  rw [q2] at hF
  refine henter (N := 133) Tryz.func3 rfl rfl (by simp) fun b => ?_
  refine hfactC (fun m => rdX (m.rd 0 rfl)) ?_
  rintro ⟨hl_ra, hA_ra⟩
  refine hfactC (fun m => rdX (m.rd 1 rfl)) ?_
  rintro ⟨hl_rb, hA_rb⟩
  refine hfactC (fun m => rdX (m.rd 2 rfl)) ?_
  rintro ⟨hl_rk, hA_rk⟩
  refine hseq <| hreg <| ?_
  refine hx (xh_box rfl (fun g4 => ?_))
  refine hx (xh_box rfl (fun g5 => ?_))
  refine hy (fun _ => y_assign rfl) <| hend <| hmemQ (X' := [_, _]) (S' := [_, _, _]) (fun _ m => m) <| hthen <| hseq <| hreg <| ?_
  refine hx (xh_call rfl Tryz.call4 (jbeginC) [] rfl [] rfl ?_)
  rintro _ _ _ ⟨g, st, rfl, rfl, rfl, hD0⟩
  refine hy (fun _ => y_assign rfl) <| hend <| hsub (ρ' := [(9, _), (8, _), (5, _), (4, _), (0, _), (1, _), (2, _), (3, _)]) ⟨rfl, rfl, rfl, rfl, rfl, rfl, rfl, rfl, trivial⟩ <| hmemQ (X' := [_, _, _]) (S' := [_, _, _]) (fun _ m => m) <| hthen <| hseq <| hseq <| hreg <| hy (fun _ => y_move rfl) <| hy (fun _ => y_eqPn rfl rfl (by kernel_rfl)) <| hend <| hsub (ρ' := [(24, _), (9, _), (8, _), (5, _), (4, _), (0, _), (1, _), (2, _), (3, _)]) ⟨rfl, rfl, rfl, rfl, rfl, rfl, rfl, rfl, rfl, trivial⟩ <| hthen <| ?_
  refine hiff rfl (rfl) ?_
  refine hcskip <| hthen <| hseq <| hreg <| hy (fun m => yV (y_ldN rfl ag26 sz26 (jlen hia) ((m.blk 2 rfl).cells0)) ((rfl : _ = Value.agg (b8s ia ++ [Value.slice A n c]).toArray))) <| ?_
  refine hx (xh_call rfl Tryz.call5 (rgoodC hia hda hn) [] rfl [0] rfl ?_)
  rintro _ _ _ ⟨v, rfl, rfl, rfl⟩
  refine hfactL (fun m => (m.own 0 rfl).slice) ?_
  rintro ⟨A_x, c_x, rfl, hc_x⟩
  refine hfactL (fun m => (m.ord 0 rfl).2.1) fun hA_x => ?_
  refine hx (xh_alloc ti26 (fun g10 => ?_))
  refine hx0 (xh_stA 0 rfl rfl rfl sz26 (jlen hia) jone rfl ?_)
  refine hend <| hsub (ρ' := [(10, _), (24, _), (9, _), (8, _), (5, _), (4, _), (0, _), (1, _), (2, _), (3, _)]) ⟨rfl, rfl, rfl, rfl, rfl, rfl, rfl, rfl, rfl, rfl, trivial⟩ <| hmemQ (X' := [_, _, _, _, _]) (S' := [_, _, _]) (fun _ m => m) <| hthen <| hseq <| hreg <| hy (fun m => yV (y_ldN rfl ag26 sz26 (jlen hib) ((m.blk 3 rfl).cells0)) ((rfl : _ = Value.agg (b8s ib ++ [Value.slice B n1 c1]).toArray))) <| ?_
  refine hx (xh_call rfl Tryz.call5 (rgoodC hib hdb hn1) [] rfl [1] rfl ?_)
  rintro _ _ _ ⟨v2, rfl, rfl, rfl⟩
  refine hfactL (fun m => (m.own 0 rfl).slice) ?_
  rintro ⟨A_x2, c_x2, rfl, hc_x2⟩
  refine hfactL (fun m => (m.ord 0 rfl).2.1) fun hA_x2 => ?_
  refine hx (xh_alloc ti26 (fun g11 => ?_))
  refine hx0 (xh_stA 0 rfl rfl rfl sz26 (jlen hib) jone rfl ?_)
  refine hend <| hsub (ρ' := [(11, _), (10, _), (24, _), (9, _), (8, _), (5, _), (4, _), (0, _), (1, _), (2, _), (3, _)]) ⟨rfl, rfl, rfl, rfl, rfl, rfl, rfl, rfl, rfl, rfl, rfl, trivial⟩ <| hmemQ (X' := [_, _, _, _, _, _, _]) (S' := [_, _, _]) (fun _ m => m) <| hthen <| hseq <| ?_
  refine hmemC (fun w m => (m.perm (takeR_perm [3] _ [_] _ rfl)).freeze) ?_
  refine hmemC (fun w m => m.asV 0 rfl .own) ?_
  refine hmemC (fun w m => (m.perm (takeR_perm [1] _ [_] _ rfl)).freeze) ?_
  refine hmemC (fun w m => m.asV 0 rfl .own) ?_
  refine hcutk2 (fun (y:RX) (g12:Nat) => [(12, .pointer (some ⟨g12, 0, none⟩))]) (fun (y:RX) (g12:Nat) => [RBlk g12 34 y.cs]) (fun (y:RX) (g12:Nat) => [RRef y]) (fun (y:RX) (g12:Nat) => y.d = d1) [(11, _), (10, _), (24, _), (9, _), (8, _), (5, _), (4, _), (0, _), (1, _), (2, _), (3, _)] ⟨rfl, rfl, rfl, rfl, rfl, rfl, rfl, rfl, rfl, rfl, rfl, trivial⟩ [] rfl ?_ (fun y g12 hy1 => ?_)
  · refine hdrwP [0, 2, 6, 7] (.take 1 3 <| .alt 0 (.alt 2 (.take 3 3 <| .take 4 3 <| .take 5 4 <| .alt 6 (.alt 7 (.take 8 4 <| .done) (.stop)) (.stop)) (.alt 6 (.alt 2 (.take 3 3 <| .take 4 3 <| .take 5 4 <| .alt 7 (.take 8 4 <| .done) (.stop)) (.stop)) (.stop))) (.alt 6 (.alt 0 (.alt 2 (.take 3 3 <| .take 4 3 <| .take 5 4 <| .alt 7 (.take 8 4 <| .done) (.stop)) (.stop)) (.stop)) (.stop))) (by kernel_rfl) (by kernel_rfl) rfl 3 <| hpy (fun m => yV (y_ldN rfl ag26 sz26 (jlen hia) ((m.blk 1 rfl).cells0)) ((rfl : _ = Value.agg (b8s ia ++ [Value.slice A_x (goodL da).length c_x]).toArray))) <| ?_
    refine hpfork ?_ ?_
    · refine hpx (xh_call rfl Tryz.call7 (rnewX) [] rfl [] rfl ?_)
      rintro _ _ _ ⟨y, rfl, rfl, rfl, hy0⟩
      refine ⟨(fun _ => wk [0, 0, 0, 0, 0] [1, 2, 3, 4, 5, 6, 7] rfl rfl), ?_⟩
      refine hpfork ?_ ?_
      · refine hpx (xh_call rfl Tryz.call6 (rsaveJC hia hgA (by omega) hJA (by rw [hy0]; exact RD.ok.new (by decide)) (Nat.zero_le _)) [] rfl [0, 3] rfl ?_)
        rintro _ _ _ ⟨y2, rfl, rfl, rfl, hy1⟩
        refine ⟨(fun _ => wk [0, 0, 0, 0, 0] [2, 3, 4, 5, 6, 7, 8] rfl rfl), ?_⟩
        refine hpyU (y_move rfl) <| hpyU (y_extract rfl rfl) <| hpyU (y_extract rfl rfl) <| ?_
        refine hpx (xh_alloc ti34 (fun g12 => ⟨(fun _ => wk [1, 1, 1, 1, 1] [2, 3, 4, 5, 6, 7, 8] rfl rfl), ?_⟩))
        refine hpx0 (xh_stA 0 rfl rfl rfl sz34 rfl cs_one rfl ⟨(fun h => absurd h (by decide)), ?_⟩)
        refine hpyU (y_assign rfl) <| hpend <| hsub (ρ' := [(12, _), (11, _), (10, _), (24, _), (9, _), (8, _), (5, _), (4, _), (0, _), (1, _), (2, _), (3, _)]) ⟨rfl, rfl, rfl, rfl, rfl, rfl, rfl, rfl, rfl, rfl, rfl, rfl, trivial⟩ <| hmemQ (X' := [_, _, _, _, _, _]) (S' := [_, _, _, _, _, _, _, _, _]) (fun _ m => m) <| ?_
        exact hqcutk2 (R := fun (y:RX) (g12:Nat) => [(12, .pointer (some ⟨g12, 0, none⟩))]) (X1 := fun (y:RX) (g12:Nat) => [RBlk g12 34 y.cs]) (S1 := fun (y:RX) (g12:Nat) => [RRef y]) (I := fun (y:RX) (g12:Nat) => y.d = d1) y2 g12 ⟨rfl, rfl, rfl, rfl, rfl, rfl, rfl, rfl, rfl, rfl, rfl, rfl, trivial⟩ [0, 0, 0, 0, 0, 0] rfl [0, 2, 3, 4, 5, 6, 7, 8] rfl (hy1.trans (by rw [hy0, ← hX, q1]))
      · refine hpx (xh_alloc ti34 (fun g12 => ⟨(fun _ => wk [1, 1, 1, 1, 1] [1, 2, 3, 4, 5, 6, 7] rfl rfl), ?_⟩))
        refine hpx (xh_call rfl Tryz.call6 (rsaveJC hia hgA (by omega) hJA (by rw [hy0]; exact RD.ok.new (by decide)) (Nat.zero_le _)) [] rfl [0, 3] rfl ?_)
        rintro _ _ _ ⟨y2, rfl, rfl, rfl, hy1⟩
        refine ⟨(fun _ => wk [1, 1, 1, 1, 1] [2, 3, 4, 5, 6, 7, 8] rfl rfl), ?_⟩
        refine hpyU (y_move rfl) <| hpyU (y_extract rfl rfl) <| hpyU (y_extract rfl rfl) <| ?_
        refine hpx0 (xh_stA 0 rfl rfl rfl sz34 rfl cs_one rfl ⟨(fun h => absurd h (by decide)), ?_⟩)
        refine hpyU (y_assign rfl) <| hpend <| hsub (ρ' := [(12, _), (11, _), (10, _), (24, _), (9, _), (8, _), (5, _), (4, _), (0, _), (1, _), (2, _), (3, _)]) ⟨rfl, rfl, rfl, rfl, rfl, rfl, rfl, rfl, rfl, rfl, rfl, rfl, trivial⟩ <| hmemQ (X' := [_, _, _, _, _, _]) (S' := [_, _, _, _, _, _, _, _, _]) (fun _ m => m) <| ?_
        exact hqcutk2 (R := fun (y:RX) (g12:Nat) => [(12, .pointer (some ⟨g12, 0, none⟩))]) (X1 := fun (y:RX) (g12:Nat) => [RBlk g12 34 y.cs]) (S1 := fun (y:RX) (g12:Nat) => [RRef y]) (I := fun (y:RX) (g12:Nat) => y.d = d1) y2 g12 ⟨rfl, rfl, rfl, rfl, rfl, rfl, rfl, rfl, rfl, rfl, rfl, rfl, trivial⟩ [0, 0, 0, 0, 0, 0] rfl [0, 2, 3, 4, 5, 6, 7, 8] rfl (hy1.trans (by rw [hy0, ← hX, q1]))
    · refine hpx (xh_alloc ti34 (fun g12 => ⟨(fun _ => wk [1, 1, 1, 1, 1] [0, 1, 2, 3, 4, 5, 6] rfl rfl), ?_⟩))
      refine hpx (xh_call rfl Tryz.call7 (rnewX) [] rfl [] rfl ?_)
      rintro _ _ _ ⟨y, rfl, rfl, rfl, hy0⟩
      refine ⟨(fun _ => wk [1, 1, 1, 1, 1] [1, 2, 3, 4, 5, 6, 7] rfl rfl), ?_⟩
      refine hpx (xh_call rfl Tryz.call6 (rsaveJC hia hgA (by omega) hJA (by rw [hy0]; exact RD.ok.new (by decide)) (Nat.zero_le _)) [] rfl [0, 3] rfl ?_)
      rintro _ _ _ ⟨y2, rfl, rfl, rfl, hy1⟩
      refine ⟨(fun _ => wk [1, 1, 1, 1, 1] [2, 3, 4, 5, 6, 7, 8] rfl rfl), ?_⟩
      refine hpyU (y_move rfl) <| hpyU (y_extract rfl rfl) <| hpyU (y_extract rfl rfl) <| ?_
      refine hpx0 (xh_stA 0 rfl rfl rfl sz34 rfl cs_one rfl ⟨(fun h => absurd h (by decide)), ?_⟩)
      refine hpyU (y_assign rfl) <| hpend <| hsub (ρ' := [(12, _), (11, _), (10, _), (24, _), (9, _), (8, _), (5, _), (4, _), (0, _), (1, _), (2, _), (3, _)]) ⟨rfl, rfl, rfl, rfl, rfl, rfl, rfl, rfl, rfl, rfl, rfl, rfl, trivial⟩ <| hmemQ (X' := [_, _, _, _, _, _]) (S' := [_, _, _, _, _, _, _, _, _]) (fun _ m => m) <| ?_
      exact hqcutk2 (R := fun (y:RX) (g12:Nat) => [(12, .pointer (some ⟨g12, 0, none⟩))]) (X1 := fun (y:RX) (g12:Nat) => [RBlk g12 34 y.cs]) (S1 := fun (y:RX) (g12:Nat) => [RRef y]) (I := fun (y:RX) (g12:Nat) => y.d = d1) y2 g12 ⟨rfl, rfl, rfl, rfl, rfl, rfl, rfl, rfl, rfl, rfl, rfl, rfl, trivial⟩ [0, 0, 0, 0, 0, 0] rfl [0, 2, 3, 4, 5, 6, 7, 8] rfl (hy1.trans (by rw [hy0, ← hX, q1]))
  · refine hthen <| hseq <| hseq <| hreg <| hy (fun _ => y_move rfl) <| hy (fun m => yV (y_ldN rfl ag26 sz26 (jlen hia) ((m.blk 2 rfl).cells0)) ((rfl : _ = Value.agg (b8s ia ++ [Value.slice A_x (goodL da).length c_x]).toArray))) <| ?_
    refine hx (xh_call rfl Tryz.call9 (ofJC hia) [] rfl [] rfl ?_)
    rintro _ _ _ ⟨rfl, rfl, rfl⟩
    refine hx (xh_call rfl Tryz.call8 (jsaveC hD0 (by decide) hia hgA (by omega) hJA) [3] rfl [3] rfl ?_)
    rintro _ _ _ ⟨st1, rfl, rfl, rfl, hD1⟩
    rw [← hX, q1] at hD1 ⊢
    refine hy (fun _ => y_neq rfl rfl) <| hend <| hsub (ρ' := [(39, _), (12, _), (11, _), (10, _), (24, _), (9, _), (8, _), (5, _), (4, _), (0, _), (1, _), (2, _), (3, _)]) ⟨rfl, rfl, rfl, rfl, rfl, rfl, rfl, rfl, rfl, rfl, rfl, rfl, rfl, trivial⟩ <| hmemQ (X' := [_, _, _, _, _, _]) (S' := [_, _, _, _, _, _, _, _]) (fun _ m => m) <| hthen <| ?_
    refine hiff rfl (rfl) ?_
    refine hcskip <| hthen <| hseq <| hreg <| hy (fun _ => y_move rfl) <| ?_
    refine hx (xh_call rfl Tryz.call10 (aroundC (by omega) (by omega) (by omega)) [] rfl [] rfl ?_)
    rintro _ _ _ ⟨rfl, rfl, rfl⟩
    rw [hN]
    refine hy (fun _ => y_assign rfl) <| hend <| hsub (ρ' := [(14, _), (39, _), (12, _), (11, _), (10, _), (24, _), (9, _), (8, _), (5, _), (4, _), (0, _), (1, _), (2, _), (3, _)]) ⟨rfl, rfl, rfl, rfl, rfl, rfl, rfl, rfl, rfl, rfl, rfl, rfl, rfl, rfl, trivial⟩ <| hmemQ (X' := [_, _, _, _, _, _]) (S' := [_, _, _, _, _, _, _, _]) (fun _ m => m) <| hthen <| hseq <| hreg <| hy (fun _ => y_move rfl) <| hy (fun _ => y_move rfl) <| ?_
    refine hx (xh_call rfl Tryz.call11 (dpowerC hD1 (by omega)) [0] rfl [] rfl ?_)
    rintro _ _ _ ⟨st12, rfl, rfl, rfl, hD2⟩
    refine hend <| hsub (ρ' := [(14, _), (39, _), (12, _), (11, _), (10, _), (24, _), (9, _), (8, _), (5, _), (4, _), (0, _), (1, _), (2, _), (3, _)]) ⟨rfl, rfl, rfl, rfl, rfl, rfl, rfl, rfl, rfl, rfl, rfl, rfl, rfl, rfl, trivial⟩ <| hmemQ (X' := [_, _, _, _, _, _]) (S' := [_, _, _, _, _, _, _, _]) (fun _ m => m) <| hthen <| hseq <| hreg <| hy (fun m => yV (y_ldN rfl ag34 sz34 rfl ((m.blk 1 rfl).cells0)) ((rfl : _ = Value.agg y.cs.toArray))) <| hy (fun _ => y_move rfl) <| ?_
    refine hx (xh_call rfl Tryz.call12 (rpowerX) [] rfl [0] rfl ?_)
    rintro _ _ _ ⟨y2, rfl, rfl, rfl, hy2⟩
    refine hx0 (xh_stA 1 rfl rfl rfl sz34 rfl cs_one rfl ?_)
    rw [hy1] at hy2
    refine hend <| hsub (ρ' := [(14, _), (39, _), (12, _), (11, _), (10, _), (24, _), (9, _), (8, _), (5, _), (4, _), (0, _), (1, _), (2, _), (3, _)]) ⟨rfl, rfl, rfl, rfl, rfl, rfl, rfl, rfl, rfl, rfl, rfl, rfl, rfl, rfl, trivial⟩ <| hmemQ (X' := [_, _, _, _, _, _]) (S' := [_, _, _, _, _, _, _, _, _]) (fun _ m => m) <| hthen <| hseq <| hreg <| hy (fun m => yV (y_ldN rfl ag34 sz34 rfl ((m.blk 0 rfl).cells0)) ((rfl : _ = Value.agg y2.cs.toArray))) <| hy (fun m => yV (y_ldN rfl ag26 sz26 (jlen hib) ((m.blk 2 rfl).cells0)) ((rfl : _ = Value.agg (b8s ib ++ [Value.slice A_x2 (goodL db).length c_x2]).toArray))) <| ?_
    refine hx (xh_call rfl Tryz.call6 (rsaveJC hib hgB (by omega) hJB (by rw [hy2]; exact ⟨_, hD2⟩) (by decide)) [] rfl [0, 2] rfl ?_)
    rintro _ _ _ ⟨y3, rfl, rfl, rfl, hy3⟩
    rw [← hY, hy2, q2] at hy3 ⊢
    refine hy (fun _ => y_move rfl) <| hy (fun _ => y_extract rfl rfl) <| hy (fun _ => y_extract rfl rfl) <| ?_
    refine hx (xh_alloc ti34 (fun g15 => ?_))
    refine hx0 (xh_stA 0 rfl rfl rfl sz34 rfl cs_one rfl ?_)
    refine hy (fun _ => y_assign rfl) <| hend <| hsub (ρ' := [(16, _), (15, _), (14, _), (39, _), (12, _), (11, _), (10, _), (24, _), (9, _), (8, _), (5, _), (4, _), (0, _), (1, _), (2, _), (3, _)]) ⟨rfl, rfl, rfl, rfl, rfl, rfl, rfl, rfl, rfl, rfl, rfl, rfl, rfl, rfl, rfl, rfl, trivial⟩ <| hmemQ (X' := [_, _, _, _, _, _, _]) (S' := [_, _, _, _, _, _, _, _, _, _]) (fun _ m => m) <| hthen <| hseq <| hreg <| hy (fun m => yV (y_ldN rfl ag34 sz34 rfl ((m.blk 0 rfl).cells0)) ((rfl : _ = Value.agg y3.cs.toArray))) <| ?_
    refine hx0 (xh_stA 1 rfl rfl rfl sz34 rfl cs_one rfl ?_)
    refine hend <| hsub (ρ' := [(16, _), (15, _), (14, _), (39, _), (12, _), (11, _), (10, _), (24, _), (9, _), (8, _), (5, _), (4, _), (0, _), (1, _), (2, _), (3, _)]) ⟨rfl, rfl, rfl, rfl, rfl, rfl, rfl, rfl, rfl, rfl, rfl, rfl, rfl, rfl, rfl, rfl, trivial⟩ <| hmemQ (X' := [_, _, _, _, _, _, _]) (S' := [_, _, _, _, _, _, _, _, _, _]) (fun _ m => m) <| hthen <| hseq <| hseq <| hdrwB [0, 0, 1, 1, 1, 1] [0, 1, 2, 3, 4, 5, 6, 7, 8, 9] rfl rfl [2, 3, 8, 16] [(0, some 4), (1, some 4), (4, some 4), (2, none), (3, none), (5, some 2), (6, some 2), (7, some 2), (9, some 4), (10, some 4), (11, some 3), (8, none), (12, some 3), (13, some 3), (14, some 3), (15, some 3), (18, some 4), (19, some 4), (20, some 4), (16, none), (17, some 4), (21, some 4), (22, some 4)] (by kernel_rfl) (by kernel_rfl) rfl 99 <| htyU (y_move rfl) <| hty (fun m => yV (y_ldN rfl ag26 sz26 (jlen hib) ((m.blk 2 rfl).cells0)) ((rfl : _ = Value.agg (b8s ib ++ [Value.slice A_x2 (goodL db).length c_x2]).toArray))) <| htyU (y_move rfl) <| ?_
    refine htx (xh_call rfl Tryz.call9 (ofJC hib) [] rfl [] rfl ?_)
    rintro _ _ _ ⟨rfl, rfl, rfl⟩
    refine ⟨(fun _ => wk [0, 0, 1, 1, 1, 1] [0, 1, 2, 3, 4, 5, 6, 7, 8, 9] rfl rfl), ?_⟩
    refine htx (xh_call rfl Tryz.call8 (jsaveC hD2 (by decide) hib hgB (by omega) hJB) [2] rfl [3] rfl ?_)
    rintro _ _ _ ⟨st13, rfl, rfl, rfl, hD3⟩
    refine ⟨(fun _ => wk [1, 1, 1, 1, 1, 1] [0, 1, 2, 3, 4, 5, 6, 7, 8, 9] rfl rfl), ?_⟩
    rw [← hY, q2] at hD3 ⊢
    have hd3 : y3.d = d2 := hy3
    have hs1 : st13.seen.length = y3.d.seen.length := by rw [hd3]; exact hD3.sim.files.len1
    have hs2 : st13.waits.length = y3.d.waits.length := by rw [hd3]; exact hD3.sim.waits
    refine htyU (yF (y_neq rfl rfl) ((by simp))) <| htyU (y_move rfl) <| htyUg (o := _) rfl rfl rfl (y_move rfl) <| htyUg (o := _) rfl rfl rfl (y_fld rfl fa34_3 (by decide)) <| htyg (o := _) rfl rfl rfl (fun m => y_ld1 rfl ag32 (ld_blk (m.blk 0 rfl) (i := 3) rfl)) <| htyUg (o := _) rfl rfl rfl (y_lenS rfl Tryz.underlying32) <| ?_
    refine htxg (o := _) rfl rfl rfl (xh_call rfl Tryz.call13 (waitsC) [0] rfl [] rfl ?_)
    rintro _ _ _ ⟨rfl, rfl, rfl⟩
    refine ⟨(fun _ => wk [1, 1, 1, 1, 1, 1] [0, 1, 2, 3, 4, 5, 6, 7, 8, 9] rfl rfl), ?_⟩
    refine htyUg (o := _) rfl rfl rfl (yF (y_neq rfl rfl) ((decide_eq_false (by omega)))) <| htyU (y_pickF rfl rfl) <| htyU (y_move rfl) <| htyUg (o := _) rfl rfl rfl (y_move rfl) <| htyUg (o := _) rfl rfl rfl (y_fld rfl fa34_1 (by decide)) <| htyg (o := _) rfl rfl rfl (fun m => y_ld1 rfl ag31 (ld_blk (m.blk 0 rfl) (i := 1) rfl)) <| htyUg (o := _) rfl rfl rfl (y_lenS rfl Tryz.underlying31) <| ?_
    refine htxg (o := _) rfl rfl rfl (xh_call rfl Tryz.call14 (listC (show st13.seen.length ≤ 100000 by have := hD3.ok.seen; omega) (p := [])) [0] rfl [] rfl ?_)
    rintro _ _ _ ⟨v3, n2, ks, rfl, rfl, rfl, hl⟩
    refine ⟨(fun _ => wk [2, 2, 2, 2, 2, 2] [0, 1, 2, 3, 4, 5, 6, 7, 8, 9] rfl rfl), ?_⟩
    refine htfact (fun m => (m.own 1 rfl).slice) ?_
    rintro ⟨A_x3, c_x3, rfl, hc_x3⟩
    refine htfact (fun m => (m.ord 1 rfl).2.1) fun hA_x3 => ?_
    obtain ⟨hn1, hks⟩ := hl
    rw [pre_nil] at hks
    have hkl := hks.length_eq
    have hka : (akeys st13.seen).length = st13.seen.length := by simp [akeys]
    refine htyUg (o := _) rfl rfl rfl (y_lenS rfl Tryz.underlying46) <| htyUg (o := _) rfl rfl rfl (yF (y_neq rfl rfl) ((decide_eq_false (by omega)))) <| htyU (y_pickF rfl rfl) <| htend <| hsub (ρ' := [(77, _), (16, _), (15, _), (14, _), (39, _), (12, _), (11, _), (10, _), (24, _), (9, _), (8, _), (5, _), (4, _), (0, _), (1, _), (2, _), (3, _)]) ⟨rfl, rfl, rfl, rfl, rfl, rfl, rfl, rfl, rfl, rfl, rfl, rfl, rfl, rfl, rfl, rfl, rfl, trivial⟩ <| hmemQ (X' := [_, _, _, _, _, _, _, _]) (S' := [_, _, _, _, _, _, _, _, _, _]) (fun _ m => m) <| hthen <| ?_
    refine hiff rfl (rfl) ?_
    have ht0 := hD3.low
    refine hmemC (fun w m => m.asV 9 rfl (View.takeV (k := min mk 9) (Nat.min_le_left _ _))) ?_
    refine hfactC (fun m => rdX (m.rd 0 rfl)) ?_
    rintro ⟨hl_rf, hA_rf⟩
    have hbt : (bools bs).take (min mk 9 * 1) = bools (bs.take (min mk 9)) := by rw [Nat.mul_one]; simp [bools, List.map_take]
    rw [hbt]
    have hla : y3.d.lasts.length ≤ 100000 := by rw [hd3]; exact Nat.le_trans hD3.lbound (by decide)
    have okr := hD3.rok
    have hwb := hD3.wbound
    rw [← hd3] at okr hwb
    refine hcskip <| hthen <| hseq <| hreg <| hy (fun _ => y_move rfl) <| hy (fun _ => y_move rfl) <| hy (fun _ => y_lenS rfl Tryz.underlying27) <| hy (fun _ => y_min rfl rfl) <| hy (fun _ => y_slTo rfl rfl Tryz.underlying27 sz4 (show ((min mk 9 : Nat) : Int) = _ by omega) (by omega)) <| hy (fun _ => y_assign rfl) <| hend <| hsub (ρ' := [(17, _), (77, _), (16, _), (15, _), (14, _), (39, _), (12, _), (11, _), (10, _), (24, _), (9, _), (8, _), (5, _), (4, _), (0, _), (1, _), (2, _), (3, _)]) ⟨rfl, rfl, rfl, rfl, rfl, rfl, rfl, rfl, rfl, rfl, rfl, rfl, rfl, rfl, rfl, rfl, rfl, rfl, trivial⟩ <| hthen <| hseq <| hreg <| hy (fun _ => y_move rfl) <| hy (fun _ => y_move rfl) <| ?_
    refine hx (xh_call rfl Tryz.call15 (drestartC hD3 (by decide) hF.nr (by omega)) [0] rfl [0] rfl ?_)
    rintro _ _ _ ⟨st14, rfl, rfl, rfl, hD4⟩
    refine hend <| hsub (ρ' := [(17, _), (77, _), (16, _), (15, _), (14, _), (39, _), (12, _), (11, _), (10, _), (24, _), (9, _), (8, _), (5, _), (4, _), (0, _), (1, _), (2, _), (3, _)]) ⟨rfl, rfl, rfl, rfl, rfl, rfl, rfl, rfl, rfl, rfl, rfl, rfl, rfl, rfl, rfl, rfl, rfl, rfl, trivial⟩ <| hmemQ (X' := [_, _, _, _, _, _, _, _]) (S' := [_, _, _, _, _, _, _, _, _, _, _]) (fun _ m => m) <| hthen <| hseq <| hreg <| hy (fun m => yV (y_ldN rfl ag34 sz34 rfl ((m.blk 2 rfl).cells0)) ((rfl : _ = Value.agg y3.cs.toArray))) <| hy (fun _ => y_move rfl) <| ?_
    refine hx (xh_call rfl Tryz.call16 (rrestartX (by omega) okr (by omega) (by omega) (by omega) hwb) [] rfl [1, 0] rfl ?_)
    rintro _ _ _ ⟨y4, rfl, rfl, rfl, hy4⟩
    refine hx0 (xh_stA 2 rfl rfl rfl sz34 rfl cs_one rfl ?_)
    rw [hd3] at hy4
    obtain ⟨qq, f1, f2, f3, f4⟩ := hF.re (bs.take (min mk 9))
    have hsm : qq.length ≤ 1000000 := by rcases f3 with rfl | rfl <;> omega
    refine hend <| hsub (ρ' := [(17, _), (77, _), (16, _), (15, _), (14, _), (39, _), (12, _), (11, _), (10, _), (24, _), (9, _), (8, _), (5, _), (4, _), (0, _), (1, _), (2, _), (3, _)]) ⟨rfl, rfl, rfl, rfl, rfl, rfl, rfl, rfl, rfl, rfl, rfl, rfl, rfl, rfl, rfl, rfl, rfl, rfl, trivial⟩ <| hmemQ (X' := [_, _, _, _, _, _, _, _]) (S' := [_, _, _, _, _, _, _, _, _, _, _, _]) (fun _ m => m) <| hthen <| hseq <| hreg <| hy (fun _ => y_move rfl) <| ?_
    refine hx (xh_call rfl Tryz.call17 (jloadC hD4 (by rw [show ((d2, e2).fst.restart (List.take (min mk 9) bs)).readB jNow = qq from f2]; exact hsm)) [1] rfl [] rfl ?_)
    rintro _ _ _ ⟨img, v4, ds, err, rfl, rfl, rfl, hL1⟩
    refine hfactL (fun m => (m.own 1 rfl).slice) ?_
    rintro ⟨A_x4, c_x4, rfl, hc_x4⟩
    refine hfactL (fun m => (m.ord 1 rfl).2.1) fun hA_x4 => ?_
    refine hy (fun _ => y_move rfl) <| hy (fun _ => y_extract rfl rfl) <| hy (fun _ => y_extract rfl rfl) <| ?_
    refine hx (xh_alloc ti40 (fun g18 => ?_))
    obtain ⟨hi1, hP1, hL1⟩ := hL1
    refine hx0 (xh_stA 0 rfl rfl rfl sz40 (jlen hi1) jone rfl ?_)
    have okr4 := hD4.rok
    have hrb4 : (y4.d.readB jNow).length ≤ 1000000 := by rw [hy4, show (d2.restart (List.take (min mk 9) bs)).readB jNow = qq from f2]; exact hsm
    refine hy (fun _ => y_assign rfl) <| hend <| hsub (ρ' := [(19, _), (18, _), (17, _), (77, _), (16, _), (15, _), (14, _), (39, _), (12, _), (11, _), (10, _), (24, _), (9, _), (8, _), (5, _), (4, _), (0, _), (1, _), (2, _), (3, _)]) ⟨rfl, rfl, rfl, rfl, rfl, rfl, rfl, rfl, rfl, rfl, rfl, rfl, rfl, rfl, rfl, rfl, rfl, rfl, rfl, rfl, trivial⟩ <| hmemQ (X' := [_, _, _, _, _, _, _, _, _, _]) (S' := [_, _, _, _, _, _, _, _, _, _, _, _]) (fun _ m => m) <| hthen <| hseq <| hreg <| hy (fun m => yV (y_ldN rfl ag34 sz34 rfl ((m.blk 3 rfl).cells0)) ((rfl : _ = Value.agg y4.cs.toArray))) <| ?_
    refine hx (xh_call rfl Tryz.call18 (rloadJC (by rw [hy4]; exact okr4) (by decide) hrb4) [] rfl [0] rfl ?_)
    rintro _ _ _ ⟨img2, v5, ds2, err2, rfl, rfl, rfl, hL2⟩
    refine hfactL (fun m => (m.own 0 rfl).slice) ?_
    rintro ⟨A_x5, c_x5, rfl, hc_x5⟩
    refine hfactL (fun m => (m.ord 0 rfl).2.1) fun hA_x5 => ?_
    refine hy (fun _ => y_move rfl) <| hy (fun _ => y_extract rfl rfl) <| hy (fun _ => y_extract rfl rfl) <| ?_
    refine hx (xh_alloc ti26 (fun g20 => ?_))
    obtain ⟨hi2, hP2, hL2⟩ := hL2
    rw [hy4] at hL2
    refine hx0 (xh_stA 0 rfl rfl rfl sz26 (jlen hi2) jone rfl ?_)
    have fX : qq = X → (img = ia ∧ ds = goodL da ∧ err = 0) ∧ (img2 = ia ∧ ds2 = goodL da ∧ err2 = 0) := fun h => by
      have fb : (d2.restart (List.take (min mk 9) bs)).readB jNow = putL (jbody ia (goodL da)) := by rw [← hX, ← h]; exact f2
      exact ⟨LoadJ.is hia hgA hJA f1 fb hL1, LoadJ.is hia hgA hJA f1 fb hL2⟩
    have fY : qq = Y → (img = ib ∧ ds = goodL db ∧ err = 0) ∧ (img2 = ib ∧ ds2 = goodL db ∧ err2 = 0) := fun h => by
      have fb : (d2.restart (List.take (min mk 9) bs)).readB jNow = putL (jbody ib (goodL db)) := by rw [← hY, ← h]; exact f2
      exact ⟨LoadJ.is hib hgB hJB f1 fb hL1, LoadJ.is hib hgB hJB f1 fb hL2⟩
    have fE : err = 0 ∧ err2 = 0 ∧ img = img2 ∧ ds = ds2 ∧ ds2.length ≤ 6 := by
      rcases f3 with h | h
      · obtain ⟨⟨a1, a2, a3⟩, b1, b2, b3⟩ := fX h
        exact ⟨a3, b3, a1.trans b1.symm, a2.trans b2.symm, by rw [b2]; exact hlA⟩
      · obtain ⟨⟨a1, a2, a3⟩, b1, b2, b3⟩ := fY h
        exact ⟨a3, b3, a1.trans b1.symm, a2.trans b2.symm, by rw [b2]; exact hlB⟩
    obtain ⟨g1, g2, g3, g4, g5'⟩ := fE
    subst g1 g2
    have hn5 : ds.length ≤ 140737488351232 := by rw [g4]; omega
    have hX1 : qq = X → ds2 = goodL da ∧ img2 = ia := fun h => ⟨(fX h).2.2.1, (fX h).2.1⟩
    have hY1 : qq = Y → ds2 = goodL db ∧ img2 = ib := fun h => ⟨(fY h).2.2.1, (fY h).2.1⟩
    have hY0 : e2 = 0 → ds2 = goodL db ∧ img2 = ib := fun h => hY1 (f4 h)
    by_cases cX : ds2 = goodL da ∧ img2 = ia
    · by_cases cE : e2 = 0
      · refine hy (fun _ => y_assign rfl) <| hend <| hsub (ρ' := [(21, _), (20, _), (19, _), (18, _), (17, _), (77, _), (16, _), (15, _), (14, _), (39, _), (12, _), (11, _), (10, _), (24, _), (9, _), (8, _), (5, _), (4, _), (0, _), (1, _), (2, _), (3, _)]) ⟨rfl, rfl, rfl, rfl, rfl, rfl, rfl, rfl, rfl, rfl, rfl, rfl, rfl, rfl, rfl, rfl, rfl, rfl, rfl, rfl, rfl, rfl, trivial⟩ <| hmemQ (X' := [_, _, _, _, _, _, _, _, _, _, _, _]) (S' := [_, _, _, _, _, _, _, _, _, _, _, _]) (fun _ m => m) <| hthen <| hseq <| hdrw [8, 10, 15, 19, 28, 32] [(0, some 6), (1, some 6), (2, some 6), (3, some 6), (4, some 6), (5, some 6), (6, some 6), (7, some 6), (9, some 6), (8, none), (10, none), (11, some 6), (12, some 6), (13, some 6), (14, some 6), (15, none), (16, some 6), (17, some 6), (18, some 6), (19, none), (20, some 6), (21, some 4), (22, some 4), (23, some 6), (24, some 4), (25, some 4), (26, some 4), (27, some 4), (28, none), (29, some 5), (30, some 5), (31, some 5), (32, none), (33, some 6), (34, some 6)] (by kernel_rfl) (by kernel_rfl) rfl 99 <| htyU (y_move rfl) <| htyU (yT (y_eql rfl rfl) (rfl)) <| htyU (y_move rfl) <| htyUg (o := _) rfl rfl rfl (y_move rfl) <| htyUg (o := _) rfl rfl rfl (yT (y_eql rfl rfl) (rfl)) <| htyU (y_pickT rfl rfl) <| htyU (y_move rfl) <| htyg (o := _) rfl rfl rfl (fun m => yV (y_ldN rfl ag40 sz40 (jlen hi1) ((m.blk 2 rfl).cells0)) ((rfl : _ = Value.agg (b8s img ++ [Value.slice A_x4 ds.length c_x4]).toArray))) <| htyg (o := _) rfl rfl rfl (fun m => yV (y_ldN rfl ag26 sz26 (jlen hi2) ((m.blk 0 rfl).cells0)) ((rfl : _ = Value.agg (b8s img2 ++ [Value.slice A_x5 ds2.length c_x5]).toArray))) <| ?_
        refine htxg (o := _) rfl rfl rfl (xh_call rfl Tryz.call20 (asJC hi1) [] rfl [] rfl ?_)
        rintro _ _ _ ⟨rfl, rfl, rfl⟩
        refine ⟨(fun _ => wk [0, 0, 0, 0, 0, 0, 0, 0, 0, 0, 0, 0] [0, 1, 2, 3, 4, 5, 6, 7, 8, 9, 10, 11] rfl rfl), ?_⟩
        refine htxg (o := _) rfl rfl rfl (xh_calll rfl Tryz.call19 (rsameC hi1 hi2 hP1 hP2 hn5) [] rfl (.x 4 rfl .own (.x 1 rfl .own .nil)) ?_)
        rintro _ _ _ ⟨rfl, rfl, rfl⟩
        refine ⟨rfl, ?_⟩
        refine ⟨(fun _ => wk [0, 0, 0, 0, 0, 0, 0, 0, 0, 0, 0, 0] [0, 1, 2, 3, 4, 5, 6, 7, 8, 9, 10, 11] rfl rfl), ?_⟩
        rw [decide_eq_true (p := ds = ds2 ∧ img = img2) ⟨g4, g3⟩]
        refine htyU (y_pickT rfl rfl) <| htyU (y_move rfl) <| htyg (o := _) rfl rfl rfl (fun m => yV (y_ldN rfl ag26 sz26 (jlen hi2) ((m.blk 0 rfl).cells0)) ((rfl : _ = Value.agg (b8s img2 ++ [Value.slice A_x5 ds2.length c_x5]).toArray))) <| htyg (o := _) rfl rfl rfl (fun m => yV (y_ldN rfl ag26 sz26 (jlen hia) ((m.blk 9 rfl).cells0)) ((rfl : _ = Value.agg (b8s ia ++ [Value.slice A_x (goodL da).length c_x]).toArray))) <| ?_
        refine htxg (o := _) rfl rfl rfl (xh_calll rfl Tryz.call19 (rsameC hi2 hia hP2 hgA (by omega)) [] rfl (.x 1 rfl .own (.s 7 rfl .nil)) ?_)
        rintro _ _ _ ⟨rfl, rfl, rfl⟩
        refine ⟨rfl, ?_⟩
        refine ⟨(fun _ => wk [0, 0, 0, 0, 0, 0, 0, 0, 0, 0, 0, 0] [0, 1, 2, 3, 4, 5, 6, 7, 8, 9, 10, 11] rfl rfl), ?_⟩
        rw [decide_eq_true (p := ds2 = goodL da ∧ img2 = ia) cX]
        refine htyUg (o := _) rfl rfl rfl (y_move rfl) <| htskip rfl rfl rfl (by decide) <| htskip rfl rfl rfl (by decide) <| htskipx rfl rfl rfl (by decide) (fun _ => wk [0, 0, 0, 0, 0, 0, 0, 0, 0, 0, 0, 0] [0, 1, 2, 3, 4, 5, 6, 7, 8, 9, 10, 11] rfl rfl) <| htyUg (o := _) rfl rfl rfl (y_pickT rfl rfl) <| htyU (y_pickT rfl rfl) <| htyU (y_move rfl) <| htyUg (o := _) rfl rfl rfl (y_move rfl) <| htyUg (o := _) rfl rfl rfl (yF (y_neq rfl rfl) ((decide_eq_false (fun h => h cE)))) <| htyUg (o := _) rfl rfl rfl (y_move rfl) <| htyg (o := _) rfl rfl rfl (fun m => yV (y_ldN rfl ag26 sz26 (jlen hi2) ((m.blk 0 rfl).cells0)) ((rfl : _ = Value.agg (b8s img2 ++ [Value.slice A_x5 ds2.length c_x5]).toArray))) <| htyg (o := _) rfl rfl rfl (fun m => yV (y_ldN rfl ag26 sz26 (jlen hib) ((m.blk 8 rfl).cells0)) ((rfl : _ = Value.agg (b8s ib ++ [Value.slice A_x2 (goodL db).length c_x2]).toArray))) <| ?_
        refine htxg (o := _) rfl rfl rfl (xh_calll rfl Tryz.call19 (rsameC hi2 hib hP2 hgB (by omega)) [] rfl (.x 1 rfl .own (.s 5 rfl .nil)) ?_)
        rintro _ _ _ ⟨rfl, rfl, rfl⟩
        refine ⟨rfl, ?_⟩
        refine ⟨(fun _ => wk [0, 0, 0, 0, 0, 0, 0, 0, 0, 0, 0, 0] [0, 1, 2, 3, 4, 5, 6, 7, 8, 9, 10, 11] rfl rfl), ?_⟩
        rw [decide_eq_true (p := ds2 = goodL db ∧ img2 = ib) (hY0 cE)]
        refine htyUg (o := _) rfl rfl rfl (y_pickF rfl rfl) <| htyU (y_pickT rfl rfl) <| htyU (y_move rfl) <| ?_
        refine htxg (o := _) rfl rfl rfl (xh_call rfl Tryz.call21 (lives17C) [] rfl [] rfl ?_)
        rintro _ _ _ ⟨rfl, rfl, rfl⟩
        refine ⟨(fun _ => wk [0, 0, 0, 0, 0, 0, 0, 0, 0, 0, 0, 0] [0, 1, 2, 3, 4, 5, 6, 7, 8, 9, 10, 11] rfl rfl), ?_⟩
        refine htyU (y_pickT rfl rfl) <| htyU (y_assign rfl) <| htend <| hsub (ρ' := [(8, _), (21, _), (20, _), (19, _), (18, _), (17, _), (77, _), (16, _), (15, _), (14, _), (39, _), (12, _), (11, _), (10, _), (24, _), (9, _), (5, _), (4, _), (0, _), (1, _), (2, _), (3, _)]) ⟨rfl, rfl, rfl, rfl, rfl, rfl, rfl, rfl, rfl, rfl, rfl, rfl, rfl, rfl, rfl, rfl, rfl, rfl, rfl, rfl, rfl, rfl, trivial⟩ <| hmemQ (X' := [_, _, _, _, _, _, _, _, _, _, _, _]) (S' := [_, _, _, _, _, _, _, _, _, _, _, _]) (fun _ m => m) <| hthen <| hret <| ?_
        exact hret1 trivial rfl rfl [] rfl [] rfl ⟨rfl, rfl, rfl⟩
      · refine hy (fun _ => y_assign rfl) <| hend <| hsub (ρ' := [(21, _), (20, _), (19, _), (18, _), (17, _), (77, _), (16, _), (15, _), (14, _), (39, _), (12, _), (11, _), (10, _), (24, _), (9, _), (8, _), (5, _), (4, _), (0, _), (1, _), (2, _), (3, _)]) ⟨rfl, rfl, rfl, rfl, rfl, rfl, rfl, rfl, rfl, rfl, rfl, rfl, rfl, rfl, rfl, rfl, rfl, rfl, rfl, rfl, rfl, rfl, trivial⟩ <| hthen <| hseq <| hdrw [8, 10, 15, 19, 28, 32] [(0, some 6), (1, some 6), (2, some 6), (3, some 6), (4, some 6), (5, some 6), (6, some 6), (7, some 6), (9, some 6), (8, none), (10, none), (11, some 6), (12, some 6), (13, some 6), (14, some 6), (15, none), (16, some 6), (17, some 6), (18, some 6), (19, none), (20, some 6), (21, some 4), (22, some 4), (23, some 6), (24, some 4), (25, some 4), (26, some 4), (27, some 4), (28, none), (29, some 5), (30, some 5), (31, some 5), (32, none), (33, some 6), (34, some 6)] (by kernel_rfl) (by kernel_rfl) rfl 99 <| htyU (y_move rfl) <| htyU (yT (y_eql rfl rfl) (rfl)) <| htyU (y_move rfl) <| htyUg (o := _) rfl rfl rfl (y_move rfl) <| htyUg (o := _) rfl rfl rfl (yT (y_eql rfl rfl) (rfl)) <| htyU (y_pickT rfl rfl) <| htyU (y_move rfl) <| htyg (o := _) rfl rfl rfl (fun m => yV (y_ldN rfl ag40 sz40 (jlen hi1) ((m.blk 2 rfl).cells0)) ((rfl : _ = Value.agg (b8s img ++ [Value.slice A_x4 ds.length c_x4]).toArray))) <| htyg (o := _) rfl rfl rfl (fun m => yV (y_ldN rfl ag26 sz26 (jlen hi2) ((m.blk 0 rfl).cells0)) ((rfl : _ = Value.agg (b8s img2 ++ [Value.slice A_x5 ds2.length c_x5]).toArray))) <| ?_
        refine htxg (o := _) rfl rfl rfl (xh_call rfl Tryz.call20 (asJC hi1) [] rfl [] rfl ?_)
        rintro _ _ _ ⟨rfl, rfl, rfl⟩
        refine ⟨(fun _ => wk [0, 0, 0, 0, 0, 0, 0, 0, 0, 0, 0, 0] [0, 1, 2, 3, 4, 5, 6, 7, 8, 9, 10, 11] rfl rfl), ?_⟩
        refine htxg (o := _) rfl rfl rfl (xh_calll rfl Tryz.call19 (rsameC hi1 hi2 hP1 hP2 hn5) [] rfl (.x 4 rfl .own (.x 1 rfl .own .nil)) ?_)
        rintro _ _ _ ⟨rfl, rfl, rfl⟩
        refine ⟨rfl, ?_⟩
        refine ⟨(fun _ => wk [0, 0, 0, 0, 0, 0, 0, 0, 0, 0, 0, 0] [0, 1, 2, 3, 4, 5, 6, 7, 8, 9, 10, 11] rfl rfl), ?_⟩
        rw [decide_eq_true (p := ds = ds2 ∧ img = img2) ⟨g4, g3⟩]
        refine htyU (y_pickT rfl rfl) <| htyU (y_move rfl) <| htyg (o := _) rfl rfl rfl (fun m => yV (y_ldN rfl ag26 sz26 (jlen hi2) ((m.blk 0 rfl).cells0)) ((rfl : _ = Value.agg (b8s img2 ++ [Value.slice A_x5 ds2.length c_x5]).toArray))) <| htyg (o := _) rfl rfl rfl (fun m => yV (y_ldN rfl ag26 sz26 (jlen hia) ((m.blk 9 rfl).cells0)) ((rfl : _ = Value.agg (b8s ia ++ [Value.slice A_x (goodL da).length c_x]).toArray))) <| ?_
        refine htxg (o := _) rfl rfl rfl (xh_calll rfl Tryz.call19 (rsameC hi2 hia hP2 hgA (by omega)) [] rfl (.x 1 rfl .own (.s 7 rfl .nil)) ?_)
        rintro _ _ _ ⟨rfl, rfl, rfl⟩
        refine ⟨rfl, ?_⟩
        refine ⟨(fun _ => wk [0, 0, 0, 0, 0, 0, 0, 0, 0, 0, 0, 0] [0, 1, 2, 3, 4, 5, 6, 7, 8, 9, 10, 11] rfl rfl), ?_⟩
        rw [decide_eq_true (p := ds2 = goodL da ∧ img2 = ia) cX]
        refine htyUg (o := _) rfl rfl rfl (y_move rfl) <| htskip rfl rfl rfl (by decide) <| htskip rfl rfl rfl (by decide) <| htskipx rfl rfl rfl (by decide) (fun _ => wk [0, 0, 0, 0, 0, 0, 0, 0, 0, 0, 0, 0] [0, 1, 2, 3, 4, 5, 6, 7, 8, 9, 10, 11] rfl rfl) <| htyUg (o := _) rfl rfl rfl (y_pickT rfl rfl) <| htyU (y_pickT rfl rfl) <| htyU (y_move rfl) <| htyUg (o := _) rfl rfl rfl (y_move rfl) <| htyUg (o := _) rfl rfl rfl (yT (y_neq rfl rfl) ((decide_eq_true cE))) <| htyUg (o := _) rfl rfl rfl (y_move rfl) <| htskip rfl rfl rfl (by decide) <| htskip rfl rfl rfl (by decide) <| htskipx rfl rfl rfl (by decide) (fun _ => wk [0, 0, 0, 0, 0, 0, 0, 0, 0, 0, 0, 0] [0, 1, 2, 3, 4, 5, 6, 7, 8, 9, 10, 11] rfl rfl) <| htyUg (o := _) rfl rfl rfl (y_pickT rfl rfl) <| htyU (y_pickT rfl rfl) <| htyU (y_move rfl) <| ?_
        refine htxg (o := _) rfl rfl rfl (xh_call rfl Tryz.call21 (lives17C) [] rfl [] rfl ?_)
        rintro _ _ _ ⟨rfl, rfl, rfl⟩
        refine ⟨(fun _ => wk [0, 0, 0, 0, 0, 0, 0, 0, 0, 0, 0, 0] [0, 1, 2, 3, 4, 5, 6, 7, 8, 9, 10, 11] rfl rfl), ?_⟩
        refine htyU (y_pickT rfl rfl) <| htyU (y_assign rfl) <| htend <| hsub (ρ' := [(8, _), (21, _), (20, _), (19, _), (18, _), (17, _), (77, _), (16, _), (15, _), (14, _), (39, _), (12, _), (11, _), (10, _), (24, _), (9, _), (5, _), (4, _), (0, _), (1, _), (2, _), (3, _)]) ⟨rfl, rfl, rfl, rfl, rfl, rfl, rfl, rfl, rfl, rfl, rfl, rfl, rfl, rfl, rfl, rfl, rfl, rfl, rfl, rfl, rfl, rfl, trivial⟩ <| hmemQ (X' := [_, _, _, _, _, _, _, _, _, _, _, _]) (S' := [_, _, _, _, _, _, _, _, _, _, _, _]) (fun _ m => m) <| hthen <| hret <| ?_
        exact hret1 trivial rfl rfl [] rfl [] rfl ⟨rfl, rfl, rfl⟩
    · have cY := hY1 (f3.resolve_left (fun h => cX (hX1 h)))
      by_cases cE : e2 = 0
      · refine hy (fun _ => y_assign rfl) <| hend <| hsub (ρ' := [(21, _), (20, _), (19, _), (18, _), (17, _), (77, _), (16, _), (15, _), (14, _), (39, _), (12, _), (11, _), (10, _), (24, _), (9, _), (8, _), (5, _), (4, _), (0, _), (1, _), (2, _), (3, _)]) ⟨rfl, rfl, rfl, rfl, rfl, rfl, rfl, rfl, rfl, rfl, rfl, rfl, rfl, rfl, rfl, rfl, rfl, rfl, rfl, rfl, rfl, rfl, trivial⟩ <| hthen <| hseq <| hdrw [8, 10, 15, 19, 28, 32] [(0, some 6), (1, some 6), (2, some 6), (3, some 6), (4, some 6), (5, some 6), (6, some 6), (7, some 6), (9, some 6), (8, none), (10, none), (11, some 6), (12, some 6), (13, some 6), (14, some 6), (15, none), (16, some 6), (17, some 6), (18, some 6), (19, none), (20, some 6), (21, some 4), (22, some 4), (23, some 6), (24, some 4), (25, some 4), (26, some 4), (27, some 4), (28, none), (29, some 5), (30, some 5), (31, some 5), (32, none), (33, some 6), (34, some 6)] (by kernel_rfl) (by kernel_rfl) rfl 99 <| htyU (y_move rfl) <| htyU (yT (y_eql rfl rfl) (rfl)) <| htyU (y_move rfl) <| htyUg (o := _) rfl rfl rfl (y_move rfl) <| htyUg (o := _) rfl rfl rfl (yT (y_eql rfl rfl) (rfl)) <| htyU (y_pickT rfl rfl) <| htyU (y_move rfl) <| htyg (o := _) rfl rfl rfl (fun m => yV (y_ldN rfl ag40 sz40 (jlen hi1) ((m.blk 2 rfl).cells0)) ((rfl : _ = Value.agg (b8s img ++ [Value.slice A_x4 ds.length c_x4]).toArray))) <| htyg (o := _) rfl rfl rfl (fun m => yV (y_ldN rfl ag26 sz26 (jlen hi2) ((m.blk 0 rfl).cells0)) ((rfl : _ = Value.agg (b8s img2 ++ [Value.slice A_x5 ds2.length c_x5]).toArray))) <| ?_
        refine htxg (o := _) rfl rfl rfl (xh_call rfl Tryz.call20 (asJC hi1) [] rfl [] rfl ?_)
        rintro _ _ _ ⟨rfl, rfl, rfl⟩
        refine ⟨(fun _ => wk [0, 0, 0, 0, 0, 0, 0, 0, 0, 0, 0, 0] [0, 1, 2, 3, 4, 5, 6, 7, 8, 9, 10, 11] rfl rfl), ?_⟩
        refine htxg (o := _) rfl rfl rfl (xh_calll rfl Tryz.call19 (rsameC hi1 hi2 hP1 hP2 hn5) [] rfl (.x 4 rfl .own (.x 1 rfl .own .nil)) ?_)
        rintro _ _ _ ⟨rfl, rfl, rfl⟩
        refine ⟨rfl, ?_⟩
        refine ⟨(fun _ => wk [0, 0, 0, 0, 0, 0, 0, 0, 0, 0, 0, 0] [0, 1, 2, 3, 4, 5, 6, 7, 8, 9, 10, 11] rfl rfl), ?_⟩
        rw [decide_eq_true (p := ds = ds2 ∧ img = img2) ⟨g4, g3⟩]
        refine htyU (y_pickT rfl rfl) <| htyU (y_move rfl) <| htyg (o := _) rfl rfl rfl (fun m => yV (y_ldN rfl ag26 sz26 (jlen hi2) ((m.blk 0 rfl).cells0)) ((rfl : _ = Value.agg (b8s img2 ++ [Value.slice A_x5 ds2.length c_x5]).toArray))) <| htyg (o := _) rfl rfl rfl (fun m => yV (y_ldN rfl ag26 sz26 (jlen hia) ((m.blk 9 rfl).cells0)) ((rfl : _ = Value.agg (b8s ia ++ [Value.slice A_x (goodL da).length c_x]).toArray))) <| ?_
        refine htxg (o := _) rfl rfl rfl (xh_calll rfl Tryz.call19 (rsameC hi2 hia hP2 hgA (by omega)) [] rfl (.x 1 rfl .own (.s 7 rfl .nil)) ?_)
        rintro _ _ _ ⟨rfl, rfl, rfl⟩
        refine ⟨rfl, ?_⟩
        refine ⟨(fun _ => wk [0, 0, 0, 0, 0, 0, 0, 0, 0, 0, 0, 0] [0, 1, 2, 3, 4, 5, 6, 7, 8, 9, 10, 11] rfl rfl), ?_⟩
        rw [decide_eq_false (p := ds2 = goodL da ∧ img2 = ia) cX]
        refine htyUg (o := _) rfl rfl rfl (y_move rfl) <| htyg (o := _) rfl rfl rfl (fun m => yV (y_ldN rfl ag26 sz26 (jlen hi2) ((m.blk 0 rfl).cells0)) ((rfl : _ = Value.agg (b8s img2 ++ [Value.slice A_x5 ds2.length c_x5]).toArray))) <| htyg (o := _) rfl rfl rfl (fun m => yV (y_ldN rfl ag26 sz26 (jlen hib) ((m.blk 8 rfl).cells0)) ((rfl : _ = Value.agg (b8s ib ++ [Value.slice A_x2 (goodL db).length c_x2]).toArray))) <| ?_
        refine htxg (o := _) rfl rfl rfl (xh_calll rfl Tryz.call19 (rsameC hi2 hib hP2 hgB (by omega)) [] rfl (.x 1 rfl .own (.s 5 rfl .nil)) ?_)
        rintro _ _ _ ⟨rfl, rfl, rfl⟩
        refine ⟨rfl, ?_⟩
        refine ⟨(fun _ => wk [0, 0, 0, 0, 0, 0, 0, 0, 0, 0, 0, 0] [0, 1, 2, 3, 4, 5, 6, 7, 8, 9, 10, 11] rfl rfl), ?_⟩
        rw [decide_eq_true (p := ds2 = goodL db ∧ img2 = ib) cY]
        refine htyUg (o := _) rfl rfl rfl (y_pickF rfl rfl) <| htyU (y_pickT rfl rfl) <| htyU (y_move rfl) <| htyUg (o := _) rfl rfl rfl (y_move rfl) <| htyUg (o := _) rfl rfl rfl (yF (y_neq rfl rfl) ((decide_eq_false (fun h => h cE)))) <| htyUg (o := _) rfl rfl rfl (y_move rfl) <| htyg (o := _) rfl rfl rfl (fun m => yV (y_ldN rfl ag26 sz26 (jlen hi2) ((m.blk 0 rfl).cells0)) ((rfl : _ = Value.agg (b8s img2 ++ [Value.slice A_x5 ds2.length c_x5]).toArray))) <| htyg (o := _) rfl rfl rfl (fun m => yV (y_ldN rfl ag26 sz26 (jlen hib) ((m.blk 8 rfl).cells0)) ((rfl : _ = Value.agg (b8s ib ++ [Value.slice A_x2 (goodL db).length c_x2]).toArray))) <| ?_
        refine htxg (o := _) rfl rfl rfl (xh_calll rfl Tryz.call19 (rsameC hi2 hib hP2 hgB (by omega)) [] rfl (.x 1 rfl .own (.s 5 rfl .nil)) ?_)
        rintro _ _ _ ⟨rfl, rfl, rfl⟩
        refine ⟨rfl, ?_⟩
        refine ⟨(fun _ => wk [0, 0, 0, 0, 0, 0, 0, 0, 0, 0, 0, 0] [0, 1, 2, 3, 4, 5, 6, 7, 8, 9, 10, 11] rfl rfl), ?_⟩
        rw [decide_eq_true (p := ds2 = goodL db ∧ img2 = ib) cY]
        refine htyUg (o := _) rfl rfl rfl (y_pickF rfl rfl) <| htyU (y_pickT rfl rfl) <| htyU (y_move rfl) <| ?_
        refine htxg (o := _) rfl rfl rfl (xh_call rfl Tryz.call21 (lives17C) [] rfl [] rfl ?_)
        rintro _ _ _ ⟨rfl, rfl, rfl⟩
        refine ⟨(fun _ => wk [0, 0, 0, 0, 0, 0, 0, 0, 0, 0, 0, 0] [0, 1, 2, 3, 4, 5, 6, 7, 8, 9, 10, 11] rfl rfl), ?_⟩
        refine htyU (y_pickT rfl rfl) <| htyU (y_assign rfl) <| htend <| hsub (ρ' := [(8, _), (21, _), (20, _), (19, _), (18, _), (17, _), (77, _), (16, _), (15, _), (14, _), (39, _), (12, _), (11, _), (10, _), (24, _), (9, _), (5, _), (4, _), (0, _), (1, _), (2, _), (3, _)]) ⟨rfl, rfl, rfl, rfl, rfl, rfl, rfl, rfl, rfl, rfl, rfl, rfl, rfl, rfl, rfl, rfl, rfl, rfl, rfl, rfl, rfl, rfl, trivial⟩ <| hmemQ (X' := [_, _, _, _, _, _, _, _, _, _, _, _]) (S' := [_, _, _, _, _, _, _, _, _, _, _, _]) (fun _ m => m) <| hthen <| hret <| ?_
        exact hret1 trivial rfl rfl [] rfl [] rfl ⟨rfl, rfl, rfl⟩
      · refine hy (fun _ => y_assign rfl) <| hend <| hsub (ρ' := [(21, _), (20, _), (19, _), (18, _), (17, _), (77, _), (16, _), (15, _), (14, _), (39, _), (12, _), (11, _), (10, _), (24, _), (9, _), (8, _), (5, _), (4, _), (0, _), (1, _), (2, _), (3, _)]) ⟨rfl, rfl, rfl, rfl, rfl, rfl, rfl, rfl, rfl, rfl, rfl, rfl, rfl, rfl, rfl, rfl, rfl, rfl, rfl, rfl, rfl, rfl, trivial⟩ <| hthen <| hseq <| hdrw [8, 10, 15, 19, 28, 32] [(0, some 6), (1, some 6), (2, some 6), (3, some 6), (4, some 6), (5, some 6), (6, some 6), (7, some 6), (9, some 6), (8, none), (10, none), (11, some 6), (12, some 6), (13, some 6), (14, some 6), (15, none), (16, some 6), (17, some 6), (18, some 6), (19, none), (20, some 6), (21, some 4), (22, some 4), (23, some 6), (24, some 4), (25, some 4), (26, some 4), (27, some 4), (28, none), (29, some 5), (30, some 5), (31, some 5), (32, none), (33, some 6), (34, some 6)] (by kernel_rfl) (by kernel_rfl) rfl 99 <| htyU (y_move rfl) <| htyU (yT (y_eql rfl rfl) (rfl)) <| htyU (y_move rfl) <| htyUg (o := _) rfl rfl rfl (y_move rfl) <| htyUg (o := _) rfl rfl rfl (yT (y_eql rfl rfl) (rfl)) <| htyU (y_pickT rfl rfl) <| htyU (y_move rfl) <| htyg (o := _) rfl rfl rfl (fun m => yV (y_ldN rfl ag40 sz40 (jlen hi1) ((m.blk 2 rfl).cells0)) ((rfl : _ = Value.agg (b8s img ++ [Value.slice A_x4 ds.length c_x4]).toArray))) <| htyg (o := _) rfl rfl rfl (fun m => yV (y_ldN rfl ag26 sz26 (jlen hi2) ((m.blk 0 rfl).cells0)) ((rfl : _ = Value.agg (b8s img2 ++ [Value.slice A_x5 ds2.length c_x5]).toArray))) <| ?_
        refine htxg (o := _) rfl rfl rfl (xh_call rfl Tryz.call20 (asJC hi1) [] rfl [] rfl ?_)
        rintro _ _ _ ⟨rfl, rfl, rfl⟩
        refine ⟨(fun _ => wk [0, 0, 0, 0, 0, 0, 0, 0, 0, 0, 0, 0] [0, 1, 2, 3, 4, 5, 6, 7, 8, 9, 10, 11] rfl rfl), ?_⟩
        refine htxg (o := _) rfl rfl rfl (xh_calll rfl Tryz.call19 (rsameC hi1 hi2 hP1 hP2 hn5) [] rfl (.x 4 rfl .own (.x 1 rfl .own .nil)) ?_)
        rintro _ _ _ ⟨rfl, rfl, rfl⟩
        refine ⟨rfl, ?_⟩
        refine ⟨(fun _ => wk [0, 0, 0, 0, 0, 0, 0, 0, 0, 0, 0, 0] [0, 1, 2, 3, 4, 5, 6, 7, 8, 9, 10, 11] rfl rfl), ?_⟩
        rw [decide_eq_true (p := ds = ds2 ∧ img = img2) ⟨g4, g3⟩]
        refine htyU (y_pickT rfl rfl) <| htyU (y_move rfl) <| htyg (o := _) rfl rfl rfl (fun m => yV (y_ldN rfl ag26 sz26 (jlen hi2) ((m.blk 0 rfl).cells0)) ((rfl : _ = Value.agg (b8s img2 ++ [Value.slice A_x5 ds2.length c_x5]).toArray))) <| htyg (o := _) rfl rfl rfl (fun m => yV (y_ldN rfl ag26 sz26 (jlen hia) ((m.blk 9 rfl).cells0)) ((rfl : _ = Value.agg (b8s ia ++ [Value.slice A_x (goodL da).length c_x]).toArray))) <| ?_
        refine htxg (o := _) rfl rfl rfl (xh_calll rfl Tryz.call19 (rsameC hi2 hia hP2 hgA (by omega)) [] rfl (.x 1 rfl .own (.s 7 rfl .nil)) ?_)
        rintro _ _ _ ⟨rfl, rfl, rfl⟩
        refine ⟨rfl, ?_⟩
        refine ⟨(fun _ => wk [0, 0, 0, 0, 0, 0, 0, 0, 0, 0, 0, 0] [0, 1, 2, 3, 4, 5, 6, 7, 8, 9, 10, 11] rfl rfl), ?_⟩
        rw [decide_eq_false (p := ds2 = goodL da ∧ img2 = ia) cX]
        refine htyUg (o := _) rfl rfl rfl (y_move rfl) <| htyg (o := _) rfl rfl rfl (fun m => yV (y_ldN rfl ag26 sz26 (jlen hi2) ((m.blk 0 rfl).cells0)) ((rfl : _ = Value.agg (b8s img2 ++ [Value.slice A_x5 ds2.length c_x5]).toArray))) <| htyg (o := _) rfl rfl rfl (fun m => yV (y_ldN rfl ag26 sz26 (jlen hib) ((m.blk 8 rfl).cells0)) ((rfl : _ = Value.agg (b8s ib ++ [Value.slice A_x2 (goodL db).length c_x2]).toArray))) <| ?_
        refine htxg (o := _) rfl rfl rfl (xh_calll rfl Tryz.call19 (rsameC hi2 hib hP2 hgB (by omega)) [] rfl (.x 1 rfl .own (.s 5 rfl .nil)) ?_)
        rintro _ _ _ ⟨rfl, rfl, rfl⟩
        refine ⟨rfl, ?_⟩
        refine ⟨(fun _ => wk [0, 0, 0, 0, 0, 0, 0, 0, 0, 0, 0, 0] [0, 1, 2, 3, 4, 5, 6, 7, 8, 9, 10, 11] rfl rfl), ?_⟩
        rw [decide_eq_true (p := ds2 = goodL db ∧ img2 = ib) cY]
        refine htyUg (o := _) rfl rfl rfl (y_pickF rfl rfl) <| htyU (y_pickT rfl rfl) <| htyU (y_move rfl) <| htyUg (o := _) rfl rfl rfl (y_move rfl) <| htyUg (o := _) rfl rfl rfl (yT (y_neq rfl rfl) ((decide_eq_true cE))) <| htyUg (o := _) rfl rfl rfl (y_move rfl) <| htskip rfl rfl rfl (by decide) <| htskip rfl rfl rfl (by decide) <| htskipx rfl rfl rfl (by decide) (fun _ => wk [0, 0, 0, 0, 0, 0, 0, 0, 0, 0, 0, 0] [0, 1, 2, 3, 4, 5, 6, 7, 8, 9, 10, 11] rfl rfl) <| htyUg (o := _) rfl rfl rfl (y_pickT rfl rfl) <| htyU (y_pickT rfl rfl) <| htyU (y_move rfl) <| ?_
        refine htxg (o := _) rfl rfl rfl (xh_call rfl Tryz.call21 (lives17C) [] rfl [] rfl ?_)
        rintro _ _ _ ⟨rfl, rfl, rfl⟩
        refine ⟨(fun _ => wk [0, 0, 0, 0, 0, 0, 0, 0, 0, 0, 0, 0] [0, 1, 2, 3, 4, 5, 6, 7, 8, 9, 10, 11] rfl rfl), ?_⟩
        refine htyU (y_pickT rfl rfl) <| htyU (y_assign rfl) <| htend <| hsub (ρ' := [(8, _), (21, _), (20, _), (19, _), (18, _), (17, _), (77, _), (16, _), (15, _), (14, _), (39, _), (12, _), (11, _), (10, _), (24, _), (9, _), (5, _), (4, _), (0, _), (1, _), (2, _), (3, _)]) ⟨rfl, rfl, rfl, rfl, rfl, rfl, rfl, rfl, rfl, rfl, rfl, rfl, rfl, rfl, rfl, rfl, rfl, rfl, rfl, rfl, rfl, rfl, trivial⟩ <| hmemQ (X' := [_, _, _, _, _, _, _, _, _, _, _, _]) (S' := [_, _, _, _, _, _, _, _, _, _, _, _]) (fun _ m => m) <| hthen <| hret <| ?_
        exact hret1 trivial rfl rfl [] rfl [] rfl ⟨rfl, rfl, rfl⟩
theorem journalCrashes (ia : List UInt8) (A : Option Addr) (n c : Nat) (da : List (List UInt8)) (ib : List UInt8) (B : Option Addr) (n1 c1 : Nat) (db : List (List UInt8)) (z : Int) (K : Option Addr) (mk ck : Nat) (zs : List Cell) (W : World) (hia : ia.length = 32) (hr : Rd W 32 A n (dc da)) (hc : n ≤ c) (hda : D32 da) (hn : n ≤ 140737488351232) (hib : ib.length = 32) (hr1 : Rd W 32 B n1 (dc db)) (hc1 : n1 ≤ c1) (hdb : D32 db) (hn1 : n1 ≤ 140737488351232) (hz : -9223372036854775808 ≤ z ∧ z ≤ 9223372036854775807) (hk : (RCell (.s 1 K mk ck zs)).holds W) (hK : Ty Tryz.prog 27 [.s 1 K mk ck zs]) :
    Calls Tryz.prog 3 #[.agg (b8s ia ++ [Value.slice A n c]).toArray, .agg (b8s ib ++ [Value.slice B n1 c1]).toArray, .int .i64 z, .slice K mk ck] W fun e w' => e = .returned (.bool true) ∧ Fr No W w' := by
  obtain ⟨_, _, _, _, ks, e8, hkc, hk2, hks, hkl⟩ := ty_bools hK
  cases e8
  have h3 := (View.rowOf (n := mk) (c := ck) (A := K) hks).ok.1 W hk
  exact con_calls (journalCrashesC hia hda hn hib hdb hn1 hz hkc hk2) (by
    intro s hs
    simp only [List.mem_cons, List.not_mem_nil, or_false] at hs
    rcases hs with rfl | rfl | rfl
    · exact hr
    · exact hr1
    · exact h3)
end Go.Proofs.YtlbecpekemlllaaGreat
end
section
/- From a row's readings: structs with a row of digests. No statement is proved here. -/
set_option linter.unusedVariables false
set_option linter.unusedSimpArgs false
namespace Go.Eng
open Go.RowKit Go.ChangeShapes Go.WideShapes
variable {H : Type} {enc : TypeId × Value → H} {P : Program} {w : World} {base : Nat} {spare : Nat → Bool} {held : Bool}
theorem trod_digest {t e : TypeId} {n fuel : Nat} {cs : List Value} {x : DataW H × List MemPlace} (ht : P.underlying t = some (.array n e)) (he : P.underlying e = some (.int .u8)) (hc : P.cellsOf e = 1) (hct : P.cellsOf t = n) (hf : DataW.trod enc P w base spare held fuel t cs = some x) :
    ∃ l : List UInt8, cs = b8s l ∧ l.length = n := by
  obtain ⟨xs, m, _, _, hlen, hxl, hel⟩ := DataW.trod_array ht hf
  rw [hct] at hlen
  have hcell : ∀ i, i < n → ∃ c : UInt8, cs[i]? = some (B8 c) := by
    intro i hi
    have h1 := hel i hi
    rw [List.getElem?_eq_getElem (by omega), hc, Nat.mul_one] at h1
    obtain ⟨z, hz, _, hw⟩ := DataW.trod_int he h1
    have hb := bounds_u8 hw
    refine ⟨UInt8.ofNat z.toNat, ?_⟩
    have h2 : ((cs.drop i).take 1)[0]? = some (.int .u8 z) := by rw [hz]; rfl
    rw [List.getElem?_take, if_pos (by omega), List.getElem?_drop, Nat.add_zero] at h2
    rw [h2, B8, UInt8.toNat_ofNat', Nat.mod_eq_of_lt (by omega)]
    congr 2
    omega
  refine ⟨cs.map fun v => match v with | .int _ z => UInt8.ofNat z.toNat | _ => 0, ?_, by simpa using hlen⟩
  apply List.ext_getElem?
  intro i
  simp only [b8s, List.map_map, List.getElem?_map]
  by_cases hi : i < n
  · obtain ⟨c, hc⟩ := hcell i hi
    rw [hc]
    simp [B8]
  · rw [List.getElem?_eq_none (by omega)]
    rfl
theorem cells_at {b : Nat} {a : Addr} {n : Nat} {cs : List Value} (h : w.cells? b a n = some cs) : ∀ j u, cs[j]? = some u → w.cell? (a.add j) = some u := by
  intro j u hu
  obtain ⟨hb, hl, hcell⟩ := World.cells?_some h
  have hj : j < n := by rw [← hl]; exact (List.getElem?_eq_some_iff.1 hu).1
  rw [hcell j hj, hu]
/-- a row of digests that came in -/
theorem open_digests {ts td e : TypeId} {n fuel : Nat} {cs : List Value} {x : DataW H × List MemPlace} (ht : P.underlying ts = some (.slice td)) (hd : P.underlying td = some (.array n e)) (he : P.underlying e = some (.int .u8)) (hc : P.cellsOf e = 1) (hct : P.cellsOf td = n)
    (h : DataW.trod enc P w base spare held fuel ts cs = some x) :
    ∃ (A : Option Addr) (len cap : Nat) (ds : List (List UInt8)), cs = [.slice A len cap] ∧ len ≤ cap ∧ Rd w n A len (dc ds) ∧ (∀ d ∈ ds, d.length = n) ∧ (x.1 = .nil ∧ len = 0 ∨ ∃ el sp : List (DataW H), x.1 = .slice el sp ∧ el.length = len) := by
  rcases DataW.trod_slice ht h with ⟨rfl, rfl⟩ | ⟨a, len, cap, elems, rest, m, _, rfl, rfl, hb, hl, hm, hlen, hel, _, _⟩
  · exact ⟨none, 0, 0, [], rfl, Nat.le_refl _, Rd.nil _ _ _, fun d hd => (by cases hd), .inl ⟨rfl, rfl⟩⟩
  · have hi : ∀ i, i < len → ∃ l : List UInt8, l.length = n ∧ ∀ j u, (b8s l)[j]? = some u → w.cell? (a.add (i * n + j)) = some u := by
      intro i hi
      have h1 := hel i hi
      rw [List.getElem?_eq_getElem (by omega), hct] at h1
      obtain ⟨c, hc1, hc2⟩ := Option.bind_eq_some_iff.1 h1
      obtain ⟨l, rfl, hl'⟩ := trod_digest hd he hc hct hc2
      refine ⟨l, hl', fun j u hu => ?_⟩
      have := cells_at hc1 j u hu
      rwa [add_add] at this
    have hall : ∀ k, k ≤ len → ∃ ds : List (List UInt8), ds.length = k ∧ (∀ d ∈ ds, d.length = n) ∧ ∀ q u, (dc ds)[q]? = some u → w.cell? (a.add q) = some u := by
      intro k
      induction k with
      | zero => intro _; exact ⟨[], rfl, fun d hd => (by cases hd), fun q u hu => by simp [dc] at hu⟩
      | succ k ih =>
        intro hk
        obtain ⟨ds, h1, h2, h3⟩ := ih (by omega)
        obtain ⟨l, h4, h5⟩ := hi k (by omega)
        refine ⟨ds ++ [l], by simp [h1], fun d hd => ?_, fun q u hu => ?_⟩
        · rcases List.mem_append.1 hd with h | h
          · exact h2 d h
          · have : d = l := by simpa using h
            rw [this]; exact h4
        · rw [dc_append, dc_one] at hu
          have hdl := dc_length h2
          rw [h1] at hdl
          rcases Nat.lt_or_ge q (k * n) with hq | hq
          · rw [List.getElem?_append_left (by omega)] at hu
            exact h3 q u hu
          · rw [List.getElem?_append_right (by omega), hdl] at hu
            have := h5 (q - k * n) u hu
            rwa [show k * n + (q - k * n) = q by omega] at this
    obtain ⟨ds, h1, h2, h3⟩ := hall len (Nat.le_refl _)
    exact ⟨some a, len, cap, ds, rfl, hl, ⟨by rw [dc_length h2, h1], fun _ e => (by cases e), h3⟩, h2, .inr ⟨_, _, rfl, by simpa using hlen⟩⟩
/-- a struct of 32 bytes and a row of digests -/
theorem open_jour {r : Reach} {b0 : Nat} {t ts td e : TypeId} {f0 f1 : Field} {v : Value} {d : DataW H} {ps : List MemPlace} {tss : List TypeId} {dss : List (DataW H)} {j : Nat} (ht : P.underlying t = some (.struct #[f0, f1])) (h0 : f0.type = td) (h1 : f1.type = ts) (o0 : f0.offset = 0) (o1 : f1.offset = 32) (hts : P.underlying ts = some (.slice td))
    (hd : P.underlying td = some (.array 32 e)) (he : P.underlying e = some (.int .u8)) (hc : P.cellsOf e = 1) (hcd : P.cellsOf td = 32) (hcs : P.cellsOf ts = 1) (hct : P.cellsOf t = 33) (hB : P.bytesOf td = 32)
    (hval : Value.okWide P w r b0 t v) (h : DataW.Trod enc P w base spare held t v d ps) (hsz : (DataW.weightsEach P tss dss).all (· ≤ reachBytes) = true) (hjt : tss[j]? = some t) (hjd : dss[j]? = some d) :
    ∃ (img : List UInt8) (A : Option Addr) (len cap : Nat) (ds : List (List UInt8)), v = .agg (b8s img ++ [Value.slice A len cap]).toArray ∧ img.length = 32 ∧ Rd w 32 A len (dc ds) ∧ len ≤ cap ∧ (∀ d ∈ ds, d.length = 32) ∧ len ≤ 140737488351232 := by
  simp only [Value.okWide, ht] at hval
  obtain ⟨cs, rfl, _, _⟩ := hval
  obtain ⟨fuel, hf⟩ := h
  obtain ⟨y0, y1, n, hx, hlen, e0, e1⟩ := trod_struct2 ht hf
  simp only [Value.cells] at hlen e0 e1
  rw [hct] at hlen
  rw [h0, o0, hcd, List.drop_zero] at e0
  rw [h1, o1, hcs] at e1
  obtain ⟨img, hi, hil⟩ := trod_digest hd he hc hcd e0
  obtain ⟨A, len, cap, ds, hs, hl, hr, hD, hx1⟩ := open_digests hts hd he hc hcd e1
  refine ⟨img, A, len, cap, ds, ?_, hil, hr, hl, hD, ?_⟩
  · congr 1
    apply Array.toList_inj.1
    have : cs.toList = cs.toList.take 32 ++ (cs.toList.drop 32).take 1 := by
      rw [List.take_of_length_le (l := cs.toList.drop 32) (by rw [List.length_drop]; omega), List.take_append_drop]
    rw [this, hi, hs]
  · rcases hx1 with ⟨_, h⟩ | ⟨el, sp, hxe, hel⟩
    · omega
    · obtain ⟨hx2, _⟩ := Prod.mk.inj hx
      have hw := List.all_eq_true.1 hsz _ (DataW.weights_mem_each hjt hjd ((el.length + sp.length) * P.bytesOf td) (by
        rw [hx2]
        show _ ∈ DataW.weights P t _
        simp [DataW.weights, DataW.weightsEach, ht, h1, hts, hxe]))
      have hw2 : (el.length + sp.length) * 32 ≤ reachBytes := by rw [hB] at hw; simpa using hw
      have hw3 : reachBytes = 140737488351232 := rfl
      omega
end Go.Eng
end
