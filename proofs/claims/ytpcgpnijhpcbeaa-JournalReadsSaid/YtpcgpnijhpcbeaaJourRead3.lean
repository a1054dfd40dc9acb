/- Contract: journal.Read. -/
import Derived.Test.YtpcgpnijhpcbeaaJourRead
import Derived.Test.YtpcgpnijhpcbeaaCon1
import Derived.Test.YtpcgpnijhpcbeaaPlainRead2
set_option linter.unusedVariables false
set_option linter.unusedSimpArgs false
set_option maxRecDepth 20000
namespace Go.Proofs.Ytpcgpnijhpcbeaa
open Go.Eng Go.Hx
theorem cutPrefixC {s p : List UInt8} (hs : s.length ≤ 70368744177664) (hp : p.length ≤ 70368744177664) : Con Try.prog 65 [.string (strOf s), .string (strOf p)] [] [] (fun v_ X_ S_ => v_ = (.tuple #[.string (strOf (if s.take p.length = p then s.drop p.length else s)), .bool (decide (s.take p.length = p))]) ∧ X_ = [] ∧ S_ = []) := by
  exact con_pure fun m => Calls.mono (cutPrefix s p _ hs hp) (fun e w' ⟨h, hw⟩ => ⟨_, h, ⟨rfl, rfl, rfl⟩, hw ▸ Fr.refl _ _⟩)
theorem jmayC {img : List UInt8} {A : Option Addr} {n c : Nat} {ds : List (List UInt8)} (hi : img.length = 32) (hD : D32 ds) (hn : n ≤ 140737488351232) : Con Try.prog 28 [.agg (b8s img ++ [Value.slice A n c]).toArray] [] [RRd 32 A n (dc ds)] (fun v_ X_ S_ => v_ = (.bool (decide (JMay ds))) ∧ X_ = [] ∧ S_ = []) := by
  exact con_pure fun m => Calls.mono (may img A n c ds _ hi (m.rd 0 rfl) hD hn) (fun e w' ⟨h, hw⟩ => ⟨_, h, ⟨rfl, rfl, rfl⟩, hw⟩)
theorem jreadC {A : Option Addr} {n c : Nat} {l : List UInt8} (hc : n ≤ c) (hn : n ≤ 1000000) : Con Try.prog 37 [.slice A n c] [] [RRd 1 A n (b8s l)] (fun v_ X_ S_ => ∃ img v ds err, v_ = (.tuple #[.agg (b8s img ++ [v]).toArray, .int .i64 err]) ∧ X_ = [ROwn 23 32 v ds.length (dc ds)] ∧ S_ = [] ∧ img.length = 32 ∧ D32 ds ∧ ReadJ l img ds err) := by
  have z32 : (List.replicate 32 (0 : UInt8)).length = 32 := by simp
  refine henter0 (N := 81) Try.func37 rfl rfl (by simp) fun b hb => ?_
  refine hfactC (fun m => rdB (m.rd 0 rfl)) ?_
  rintro ⟨hl_r, hA_r⟩
  refine hseq <| hreg <| ?_
  refine hx (xh_alloc ti61 (fun g2 => ?_))
  refine hy (fun _ => y_assign rfl) <| hend <| hthen <| hseq <| hreg <| hy (fun _ => y_move rfl) <| ?_
  refine hx (xh_call rfl Try.call64 (crcTakeC (by omega) (by omega)) [] rfl [0] rfl ?_)
  rintro _ _ _ ⟨v, rfl, rfl, rfl⟩
  refine hfactL (fun m => (m.own 0 rfl).slice) ?_
  rintro ⟨A_x, c_x, rfl, hc_x⟩
  refine hfactL (fun m => (m.ord 0 rfl).2.1) fun hA_x => ?_
  refine hy (fun _ => y_move rfl) <| hy (fun _ => y_extract rfl rfl) <| hy (fun _ => y_extract rfl rfl) <| hy (fun _ => y_assign rfl) <| hy (fun _ => y_assign rfl) <| hend <| hsub (ρ' := [(5, _), (4, _), (3, _), (2, _), (0, _)]) ⟨rfl, rfl, rfl, rfl, rfl, trivial⟩ <| hthen <| hseq <| hseq <| hreg <| hy (fun _ => y_move rfl) <| hy (fun _ => y_neq rfl rfl) <| hend <| hsub (ρ' := [(17, _), (5, _), (4, _), (3, _), (2, _), (0, _)]) ⟨rfl, rfl, rfl, rfl, rfl, rfl, trivial⟩ <| hthen <| ?_
  refine hif rfl (fun h => ?_) (fun h => ?_)
  · refine hseq <| hreg <| hy (fun _ => y_build0 ti61 rfl (by kernel_rfl)) <| hy (fun _ => y_move rfl) <| ?_
    refine hx0 (xh_stA 1 rfl rfl rfl sz61 (j_len z32) (j_one (s := .slice none 0 0) rfl) rfl ?_)
    refine hy (fun _ => y_assign rfl) <| hend <| hsub (ρ' := [(3, _), (17, _), (5, _), (4, _), (2, _), (0, _)]) ⟨rfl, rfl, rfl, rfl, rfl, rfl, trivial⟩ <| hthen <| hret <| hthen_ret <| ?_
    refine hmemQ (fun w m => m.addX (r' := ROwn 23 32 (.slice none 0 0) 0 []) (.refl _ _) (Own.nil _ _ _ _) (fun k hk => hk.elim)) ?_
    exact hretN1 trivial rfl rfl rfl ag61 sz61 (j_len z32) (fun m => (m.blk 1 rfl).cells0) [0] rfl [] rfl ⟨_, _, [], _, rfl, rfl, rfl, ⟨z32, D32nil, .inl ⟨h, rfl, rfl, rfl⟩⟩⟩
  · have h0 := Decidable.not_not.1 h
    have hn4 : 4 ≤ n := by
      rcases Nat.lt_or_ge l.length 4 with hlt | hge
      · rw [(takeE_2 hlt).1] at h0; omega
      · omega
    have hB : takeB l = l.take (l.length - 4) := by rw [takeB, if_pos h0]
    have hbl := takeB_len h0
    generalize takeB l = B at hB hbl
    have hbad : ¬ OkJ B → ReadJ l (List.replicate 32 0) [] 2 := fun hb => .inr (.inr ⟨h0, by rw [← hB]; exact hb, rfl, rfl, rfl⟩)
    have hok : OkJ B → ReadJ l (imgOf B) (dsOf B) 0 := fun hb => .inr (.inl ⟨h0, by rw [← hB]; exact hb, by rw [← hB], by rw [← hB], rfl⟩)
    refine hcskip <| hthen <| hseq <| hreg <| hy (fun _ => y_move rfl) <| hy (fun m => y_b2s rfl Try.underlying29 Try.underlying5 Try.underlying9 (m.ord 0 rfl)) <| ?_
    refine hx (xh_call rfl Try.call65 (cutPrefixC (by omega) (by decide)) [] rfl [] rfl ?_)
    rintro _ _ _ ⟨rfl, rfl, rfl⟩
    refine hy (fun _ => y_move rfl) <| hy (fun _ => y_extract rfl rfl) <| hy (fun _ => y_extract rfl rfl) <| hy (fun _ => y_assign rfl) <| hy (fun _ => y_assign rfl) <| hend <| hsub (ρ' := [(7, _), (6, _), (17, _), (5, _), (4, _), (3, _), (2, _), (0, _)]) ⟨rfl, rfl, rfl, rfl, rfl, rfl, rfl, rfl, trivial⟩ <| hthen <| hseq <| hseq <| hreg <| hy (fun _ => y_move rfl) <| hy (fun _ => y_notp rfl) <| hy (fun _ => y_move rfl) <| ?_
    refine hsplit 28 rfl (fun hp => ?_) (fun hp => ?_)
    · refine hskip rfl rfl rfl (by decide) <| hskip rfl rfl rfl (by decide) <| hskip rfl rfl rfl (by decide) <| hy (fun _ => y_pickT rfl rfl) <| hend <| hsub (ρ' := [(32, _), (7, _), (6, _), (17, _), (5, _), (4, _), (3, _), (2, _), (0, _)]) ⟨rfl, rfl, rfl, rfl, rfl, rfl, rfl, rfl, rfl, trivial⟩ <| hthen <| ?_
      refine hift rfl (rfl) ?_
      refine hseq <| hreg <| hy (fun _ => y_build0 ti61 rfl (by kernel_rfl)) <| ?_
      refine hx0 (xh_stA 1 rfl rfl rfl sz61 (j_len z32) (j_one (s := .slice none 0 0) rfl) rfl ?_)
      refine hy (fun _ => y_assign rfl) <| hend <| hsub (ρ' := [(3, _), (32, _), (7, _), (6, _), (17, _), (5, _), (4, _), (2, _), (0, _)]) ⟨rfl, rfl, rfl, rfl, rfl, rfl, rfl, rfl, rfl, trivial⟩ <| hthen <| hret <| hthen_ret <| ?_
      refine hmemQ (fun w m => m.addX (r' := ROwn 23 32 (.slice none 0 0) 0 []) (.refl _ _) (Own.nil _ _ _ _) (fun k hk => hk.elim)) ?_
      exact hretN1 trivial rfl rfl rfl ag61 sz61 (j_len z32) (fun m => (m.blk 1 rfl).cells0) [0] rfl [] rfl ⟨_, _, [], _, rfl, rfl, rfl, ⟨z32, D32nil, hbad (fun hb => hp ((okJ_iff hb.len).1 hb).1)⟩⟩
    · have hp := Decidable.not_not.1 hp
      have hp' : B.take 4 = [76, 84, 74, 49] := hp
      rw [if_pos hp]
      show HL _ _ _ _ _ _ ((28, Value.bool false) :: _) _ _ _
      rw [show ([76, 84, 74, 49] : List UInt8).length = 4 from rfl]
      have hsz := strOf_size (B.drop 4)
      have hdl : (B.drop 4).length = n - 4 - 4 := by rw [List.length_drop, hbl, hl_r]
      refine hyg (o := _) rfl rfl rfl (fun _ => y_move rfl) <| hyg (o := _) rfl rfl rfl (fun _ => y_lenStr rfl Try.underlying9) <| hyg (o := _) rfl rfl rfl (fun _ => y_lss rfl rfl) <| hy (fun _ => y_pickF rfl rfl) <| hend <| hsub (ρ' := [(32, _), (7, _), (6, _), (17, _), (5, _), (4, _), (3, _), (2, _), (0, _)]) ⟨rfl, rfl, rfl, rfl, rfl, rfl, rfl, rfl, rfl, trivial⟩ <| hthen <| ?_
      refine hif rfl (fun h5 => ?_) (fun h5 => ?_)
      · refine hseq <| hreg <| hy (fun _ => y_build0 ti61 rfl (by kernel_rfl)) <| ?_
        refine hx0 (xh_stA 1 rfl rfl rfl sz61 (j_len z32) (j_one (s := .slice none 0 0) rfl) rfl ?_)
        refine hy (fun _ => y_assign rfl) <| hend <| hsub (ρ' := [(3, _), (32, _), (7, _), (6, _), (17, _), (5, _), (4, _), (2, _), (0, _)]) ⟨rfl, rfl, rfl, rfl, rfl, rfl, rfl, rfl, rfl, trivial⟩ <| hthen <| hret <| hthen_ret <| ?_
        refine hmemQ (fun w m => m.addX (r' := ROwn 23 32 (.slice none 0 0) 0 []) (.refl _ _) (Own.nil _ _ _ _) (fun k hk => hk.elim)) ?_
        exact hretN1 trivial rfl rfl rfl ag61 sz61 (j_len z32) (fun m => (m.blk 1 rfl).cells0) [0] rfl [] rfl ⟨_, _, [], _, rfl, rfl, rfl, ⟨z32, D32nil, hbad (fun hb => by have := hb.len; omega)⟩⟩
      · have h40 : 40 ≤ B.length := by omega
        have hiL := img_len h40
        have e36 : (bytesOf (strOf (imgOf B))) = imgOf B := rfl
        have l36 : (bytesOf (strOf (imgOf B))).length = 32 := hiL
        refine hcskip <| hthen <| hseq <| hreg <| hy (fun _ => y_move rfl) <| hy (fun _ => yV (y_strTo rfl rfl Try.underlying9 (show ((32 : Nat) : Int) = 32 from rfl) (by rw [bytesOf_strOf]; omega)) ((rfl : Value.string _ = .string (strOf (imgOf B))))) <| ?_
        refine hx (xh_s2b rfl Try.underlying9 Try.underlying29 Try.underlying5 (by rw [bytesOf_strOf, hiL]; decide) (fun v36 => ?_))
        refine hfactL (fun m => (m.own 0 rfl).slice) ?_
        rintro ⟨A_b36, c_b36, rfl, hc_b36⟩
        refine hfactL (fun m => (m.ord 0 rfl).2.1) fun hA_b36 => ?_
        refine hfactL (fun m => (m.ord 0 rfl).some (by rw [e36, hiL]; decide)) fun h_ => ?_
        obtain ⟨a36, rfl⟩ : ∃ a_, A_b36 = some a_ := ⟨_, h_⟩
        clear h_
        refine hy (fun _ => y_arrAt rfl Try.underlying23 (by omega)) <| hy (fun m => yV (y_ldN rfl ag23 sz23 (by rw [b8s_length]; exact hiL) ((m.ord 0 rfl).2.2)) ((rfl : Value.agg _ = .agg (b8s (imgOf B)).toArray))) <| hy (fun _ => y_build ti61 rfl rfl (by kernel_rfl) (bldJ0 pl61_0 (by simp) hiL)) <| ?_
        refine hx (xh_alloc ti61 (fun g8 => ?_))
        refine hx0 (xh_stA 0 rfl rfl rfl sz61 (j_len hiL) (j_one (s := .slice none 0 0) rfl) rfl ?_)
        refine hend <| hsub (ρ' := [(8, _), (32, _), (7, _), (6, _), (17, _), (5, _), (4, _), (3, _), (2, _), (0, _)]) ⟨rfl, rfl, rfl, rfl, rfl, rfl, rfl, rfl, rfl, rfl, trivial⟩ <| hthen <| hseq <| hreg <| hy (fun _ => y_assign rfl) <| hend <| hthen <| hseq <| hseq <| hreg <| hy (fun _ => y_assign rfl) <| hend <| hthen <| hblock <| ?_
        refine hloop1 (fun j => 4 - j) (fun j => [(9, .int .i64 (acc ((B.drop 36).take 4) j : Nat)), (10, .int .i64 (3 - (j : Int)))]) (fun j => []) (fun j => j ≤ 4) 0 [(8, _), (32, _), (7, _), (6, _), (17, _), (5, _), (4, _), (3, _), (2, _), (0, _)] ⟨rfl, rfl, rfl, rfl, rfl, rfl, rfl, rfl, rfl, rfl, trivial⟩ [] rfl (Nat.zero_le _) ⟨rfl, rfl, trivial⟩ (fun j hI => ?_)
        refine hseq <| hseq <| hreg <| hy (fun _ => y_move rfl) <| hy (fun _ => y_geq rfl rfl) <| hend <| hsub (ρ' := [(41, _), (9, _), (10, _), (8, _), (32, _), (7, _), (6, _), (17, _), (5, _), (4, _), (3, _), (2, _), (0, _)]) ⟨rfl, rfl, rfl, rfl, rfl, rfl, rfl, rfl, rfl, rfl, rfl, rfl, rfl, trivial⟩ <| hthen <| ?_
        refine hif rfl (fun hj => ?_) (fun hj => ?_)
        · have hl36 : ((B.drop 36).take 4).length = 4 := by rw [List.length_take, List.length_drop]; omega
          have hac := acc_le ((B.drop 36).take 4) (show j ≤ 4 by omega)
          have hby : (((B.drop 36).take 4).getD (3 - j) 0).toNat < 256 := UInt8.toNat_lt _
          have hget : (B.drop 4).getD (32 + (3 - j)) 0 = ((B.drop 36).take 4).getD (3 - j) 0 := by
            simp only [List.getD, List.getElem?_take, List.getElem?_drop]
            rw [if_pos (by omega), show 4 + (32 + (3 - j)) = 36 + (3 - j) by omega]
          have hlet : (strOf (B.drop 4)).data[32 + (3 - j)]? = some (((B.drop 36).take 4).getD (3 - j) 0) := by rw [strOf_at (by omega), hget]
          refine hcskip <| hthen <| hseq <| hblock <| hreg <| hy (fun _ => y_move rfl) <| hy (fun _ => y_shl (p := 256) rfl rfl (by decide) (by decide) (by decide) (w64 (by omega) (by omega))) <| hy (fun _ => y_move rfl) <| hy (fun _ => y_move rfl) <| hy (fun _ => y_add rfl rfl (w64 (by omega) (by omega))) <| hy (fun _ => y_idxStr rfl rfl Try.underlying9 (show ((32 + (3 - j) : Nat) : Int) = _ by omega) hlet) <| hy (fun _ => y_conv rfl Try.underlying5 Try.underlying3 (wb8 _)) <| hy (fun _ => y_bits (by simp) rfl rfl (or_byte _ _ hac hby)) <| hy (fun _ => y_assign rfl) <| hend <| hsub (ρ' := [(9, _), (41, _), (10, _), (8, _), (32, _), (7, _), (6, _), (17, _), (5, _), (4, _), (3, _), (2, _), (0, _)]) ⟨rfl, rfl, rfl, rfl, rfl, rfl, rfl, rfl, rfl, rfl, rfl, rfl, rfl, trivial⟩ <| hqblock <| hthen <| hreg <| hy (fun _ => y_move rfl) <| hy (fun _ => yV (y_sub rfl rfl (w64 (by omega) (by omega))) ((show Value.int .i64 ((3 - (j : Int)) - 1) = .int .i64 (3 - ((j + 1 : Nat) : Int)) by congr 1; omega))) <| hy (fun _ => y_assign rfl) <| hend <| hsub (ρ' := [(10, _), (9, _), (41, _), (8, _), (32, _), (7, _), (6, _), (17, _), (5, _), (4, _), (3, _), (2, _), (0, _)]) ⟨rfl, rfl, rfl, rfl, rfl, rfl, rfl, rfl, rfl, rfl, rfl, rfl, rfl, trivial⟩ <| ?_
          refine hnext1 (j + 1) ⟨rfl, rfl, rfl, rfl, rfl, rfl, rfl, rfl, rfl, rfl, rfl, rfl, trivial⟩ [0, 0, 0, 0] rfl [0] rfl (by omega) (by omega)
        · obtain rfl : j = 4 := by omega
          rw [acc4]
          have hnl := num4_lt ((B.drop 36).take 4)
          have hok1 := okJ_iff h40
          generalize num4 ((B.drop 36).take 4) = N at hnl hok1
          refine hexit <| hthen_exit <| hthen_exit <| hqblock_exit <| hthen <| hseq <| hreg <| hy (fun _ => y_move rfl) <| hy (fun _ => yV (y_strFrom rfl rfl Try.underlying9 (show ((36 : Nat) : Int) = 36 from rfl) (by rw [bytesOf_strOf]; omega)) ((show Value.string (strOf ((B.drop 4).drop 36)) = .string (strOf (B.drop 40)) by rw [List.drop_drop]))) <| hy (fun _ => y_assign rfl) <| hend <| hsub (ρ' := [(6, _), (41, _), (9, _), (10, _), (8, _), (32, _), (7, _), (17, _), (5, _), (4, _), (3, _), (2, _), (0, _)]) ⟨rfl, rfl, rfl, rfl, rfl, rfl, rfl, rfl, rfl, rfl, rfl, rfl, rfl, trivial⟩ <| hthen <| hseq <| hseq <| hreg <| hy (fun _ => y_move rfl) <| hy (fun _ => y_lenStr rfl Try.underlying9) <| hy (fun _ => y_move rfl) <| hy (fun _ => y_mul rfl rfl (w64 (by omega) (by omega))) <| hy (fun _ => y_neq rfl rfl) <| hend <| hsub (ρ' := [(58, _), (6, _), (41, _), (9, _), (10, _), (8, _), (32, _), (7, _), (17, _), (5, _), (4, _), (3, _), (2, _), (0, _)]) ⟨rfl, rfl, rfl, rfl, rfl, rfl, rfl, rfl, rfl, rfl, rfl, rfl, rfl, rfl, trivial⟩ <| hthen <| ?_
          have hd40 := strOf_size (B.drop 40)
          have hl40 : (B.drop 40).length = B.length - 40 := List.length_drop
          refine hif rfl (fun h58 => ?_) (fun h58 => ?_)
          · refine hseq <| hreg <| hy (fun _ => y_build0 ti61 rfl (by kernel_rfl)) <| ?_
            refine hx0 (xh_stA 3 rfl rfl rfl sz61 (j_len z32) (j_one (s := .slice none 0 0) rfl) rfl ?_)
            refine hy (fun _ => y_assign rfl) <| hend <| hsub (ρ' := [(3, _), (58, _), (6, _), (41, _), (9, _), (10, _), (8, _), (32, _), (7, _), (17, _), (5, _), (4, _), (2, _), (0, _)]) ⟨rfl, rfl, rfl, rfl, rfl, rfl, rfl, rfl, rfl, rfl, rfl, rfl, rfl, rfl, trivial⟩ <| hthen <| hret <| hthen_ret <| ?_
            refine hmemQ (fun w m => m.addX (r' := ROwn 23 32 (.slice none 0 0) 0 []) (.refl _ _) (Own.nil _ _ _ _) (fun k hk => hk.elim)) ?_
            exact hretN1 trivial rfl rfl rfl ag61 sz61 (j_len z32) (fun m => (m.blk 1 rfl).cells0) [0] rfl [] rfl ⟨_, _, [], _, rfl, rfl, rfl, ⟨z32, D32nil, hbad (fun hb => h58 (by have := (hok1.1 hb).2.1; omega))⟩⟩
          · refine hmemC (fun w m => m.addX (r' := ROwn 23 32 (.slice none 0 0) 0 []) (.refl _ _) (Own.nil _ _ _ _) (fun k hk => hk.elim)) ?_
            refine hcskip <| hthen <| hseq <| hseq <| hreg <| hy (fun _ => y_move rfl) <| hy (fun _ => y_move rfl) <| hend <| hthen <| hblock <| ?_
            refine hloop3 (fun k A c1 => N - k) (fun k A c1 => [(6, .string (strOf (B.drop (40 + 32 * k)))), (61, .int .i64 (k : Nat))]) (fun k A c1 => [RBlk g8 61 (b8s (imgOf B) ++ [Value.slice A k c1]), ROwn 23 32 (.slice A k c1) k (dc (chunks k (B.drop 40)))]) (fun k A c1 => k ≤ N) 0 none 0 [(60, _), (58, _), (41, _), (9, _), (10, _), (8, _), (32, _), (7, _), (17, _), (5, _), (4, _), (3, _), (2, _), (0, _)] ⟨rfl, rfl, rfl, rfl, rfl, rfl, rfl, rfl, rfl, rfl, rfl, rfl, rfl, rfl, trivial⟩ [1, 0] rfl (Nat.zero_le _) ⟨rfl, rfl, trivial⟩ (fun k A c1 hI => ?_)
            refine hseq <| hreg <| hy (fun _ => y_lss rfl rfl) <| hend <| hthen <| hseq <| ?_
            refine hif rfl (fun h62 => ?_) (fun h62 => ?_)
            · have hsz : (B.drop (40 + 32 * k)).length = B.length - (40 + 32 * k) := List.length_drop
              have hl32 : ((B.drop (40 + 32 * k)).take 32).length = 32 := by rw [List.length_take]; omega
              have l67 : (bytesOf (strOf ((B.drop (40 + 32 * k)).take 32))).length = 32 := hl32
              refine hcskip <| hthen <| hseq <| hblock <| hseq <| hdrw [4, 6, 7, 8, 10] [(0, some 3), (1, some 3), (2, some 4), (3, some 4), (4, none), (5, some 1), (6, none), (7, none), (8, none), (9, some 4), (10, none)] (by kernel_rfl) (by kernel_rfl) rfl 3 <| htyU (y_fld rfl fa61_1 (by decide)) <| hty (fun m => y_ld1 rfl ag54 (j_s (m.blk 0 rfl) hiL)) <| htyU (y_move rfl) <| htyU (yV (y_strTo rfl rfl Try.underlying9 (show ((32 : Nat) : Int) = 32 from rfl) (by rw [bytesOf_strOf]; omega)) ((rfl : Value.string _ = .string (strOf ((B.drop (40 + 32 * k)).take 32))))) <| ?_
              refine htx (xh_s2b rfl Try.underlying9 Try.underlying29 Try.underlying5 (by rw [l67]; decide) (fun v67 => ⟨(fun _ => wk 1 0 rfl rfl), ?_⟩))
              refine htfact (fun m => (m.own 0 rfl).slice) ?_
              rintro ⟨A_b67, c_b67, rfl, hc_b67⟩
              refine htfact (fun m => (m.ord 0 rfl).2.1) fun hA_b67 => ?_
              refine htfact (fun m => (m.ord 0 rfl).some (by rw [l67]; decide)) fun h_ => ?_
              obtain ⟨a67, rfl⟩ : ∃ a_, A_b67 = some a_ := ⟨_, h_⟩
              clear h_
              have hcl : (b8s ((B.drop (40 + 32 * k)).take 32)).length = 32 := by rw [b8s_length]; exact hl32
              refine htyU (y_arrAt rfl Try.underlying23 (by omega)) <| hts (fun _ => wk 1 0 rfl rfl) (fun m => yV (y_ldN rfl ag23 sz23 (by rw [b8s_length]; exact hl32) ((m.ord 0 rfl).2.2)) ((rfl : Value.agg _ = .agg (b8s ((B.drop (40 + 32 * k)).take 32)).toArray))) <| ?_
              refine htx (xh_bsl Try.underlying54 ti23 rfl rfl rfl (by simp only [List.mem_singleton, forall_eq]; exact hcl) (by decide) (by decide) (fun g70 => ⟨(fun _ => wk 2 0 rfl rfl), ?_⟩))
              have hA_b70 : 0 < 1 → (some (⟨g70, 0, none⟩ : Addr)) ≠ none := fun _ h => by cases h
              refine htmem (fun w m => m.eqX 0 rfl (show _ = ROwn 23 32 (.slice (some ⟨g70, 0, none⟩) 1 1) 1 (dc [(B.drop (40 + 32 * k)).take 32]) from rfl)) ?_
              refine htx (xh_app 3 rfl rfl rfl Try.underlying54 Try.underlying54 (by exact .inl rfl) ti23 rfl (fun m => Src.of_rd (m.ord 0 rfl)) dc_oneCell (by unfold maxLen; omega) (by omega) (fun u => ⟨(fun h => absurd h (by decide)), ?_⟩))
              refine htfact (fun m => (m.own 0 rfl).slice) ?_
              rintro ⟨A_d, c_d, rfl, hc_d⟩
              refine htfact (fun m => (m.ord 0 rfl).2.1) fun hA_d => ?_
              have hch : dc (chunks k (B.drop 40)) ++ dc [(B.drop (40 + 32 * k)).take 32] = dc (chunks (k + 1) (B.drop 40)) := by rw [← dc_append, chunks_succ, List.drop_drop]
              refine htmem (fun w m => m.eqX 0 rfl (show _ = ROwn 23 32 (.slice A_d (k + 1) c_d) (k + 1) (dc (chunks (k + 1) (B.drop 40))) from congrArg (ROwn _ _ _ _) hch)) ?_
              refine htyU (y_fld rfl fa61_1 (by decide)) <| ?_
              refine htx0 (xh_st1a 3 rfl rfl rfl sz54 rfl (by rw [j_len hiL]; decide) ⟨(fun h => absurd h (by decide)), ?_⟩)
              refine htend <| hsub (ρ' := [(62, _), (6, _), (61, _), (60, _), (58, _), (41, _), (9, _), (10, _), (8, _), (32, _), (7, _), (17, _), (5, _), (4, _), (3, _), (2, _), (0, _)]) ⟨rfl, rfl, rfl, rfl, rfl, rfl, rfl, rfl, rfl, rfl, rfl, rfl, rfl, rfl, rfl, rfl, rfl, trivial⟩ <| hthen <| hreg <| hy (fun _ => y_move rfl) <| hy (fun _ => yV (y_strFrom rfl rfl Try.underlying9 (show ((32 : Nat) : Int) = 32 from rfl) (by rw [bytesOf_strOf]; omega)) ((show Value.string (strOf ((B.drop (40 + 32 * k)).drop 32)) = .string (strOf (B.drop (40 + 32 * (k + 1)))) by rw [List.drop_drop, show 40 + 32 * k + 32 = 40 + 32 * (k + 1) by omega]))) <| hy (fun _ => y_assign rfl) <| hend <| hsub (ρ' := [(6, _), (62, _), (61, _), (60, _), (58, _), (41, _), (9, _), (10, _), (8, _), (32, _), (7, _), (17, _), (5, _), (4, _), (3, _), (2, _), (0, _)]) ⟨rfl, rfl, rfl, rfl, rfl, rfl, rfl, rfl, rfl, rfl, rfl, rfl, rfl, rfl, rfl, rfl, rfl, trivial⟩ <| hqblock <| hthen <| hreg <| hy (fun _ => y_add rfl rfl (w64 (by omega) (by omega))) <| hy (fun _ => y_move rfl) <| hend <| hsub (ρ' := [(61, _), (6, _), (62, _), (60, _), (58, _), (41, _), (9, _), (10, _), (8, _), (32, _), (7, _), (17, _), (5, _), (4, _), (3, _), (2, _), (0, _)]) ⟨rfl, rfl, rfl, rfl, rfl, rfl, rfl, rfl, rfl, rfl, rfl, rfl, rfl, rfl, rfl, rfl, rfl, trivial⟩ <| ?_
              refine hmemQ (fun w m => m.eqX 0 rfl (show _ = RBlk g8 61 (b8s (imgOf B) ++ [Value.slice A_d (k + 1) c_d]) from congrArg (RBlk _ _) (j_set hiL))) ?_
              refine hnext3 (k + 1) A_d c_d ⟨rfl, rfl, rfl, rfl, rfl, rfl, rfl, rfl, rfl, rfl, rfl, rfl, rfl, rfl, rfl, rfl, trivial⟩ [0, 0, 2, 2, 2] rfl [0] rfl (by omega) (by omega)
            · obtain rfl : k = N := by omega
              have hcn : cntOf B = k := by rw [cntOf]; omega
              have hds : chunks k (B.drop 40) = dsOf B := by rw [dsOf, hcn]
              rw [hds]
              have hDD := ds_D32 h40
              have hDl := ds_length B
              refine hexit <| hthen_exit <| hthen_exit <| hqblock_exit <| hthen <| hseq <| hseq <| hreg <| hy (fun m => y_ldN rfl ag61 sz61 (j_len hiL) ((m.blk 0 rfl).cells0)) <| ?_
              refine hx (xh_calll rfl Try.call28 (jmayC (by omega) (by assumption) (by omega)) [] rfl (.x 1 rfl .own .nil) ?_)
              rintro _ _ _ ⟨rfl, rfl, rfl⟩
              refine ⟨rfl, ?_⟩
              refine hy (fun _ => y_notp rfl) <| hend <| hsub (ρ' := [(78, _), (62, _), (6, _), (61, _), (60, _), (58, _), (41, _), (9, _), (10, _), (8, _), (32, _), (7, _), (17, _), (5, _), (4, _), (3, _), (2, _), (0, _)]) ⟨rfl, rfl, rfl, rfl, rfl, rfl, rfl, rfl, rfl, rfl, rfl, rfl, rfl, rfl, rfl, rfl, rfl, rfl, trivial⟩ <| hthen <| ?_
              refine hif rfl (fun h78 => ?_) (fun h78 => ?_)
              · refine hseq <| hreg <| hy (fun _ => y_build0 ti61 rfl (by kernel_rfl)) <| ?_
                refine hx0 (xh_stA 4 rfl rfl rfl sz61 (j_len z32) (j_one (s := .slice none 0 0) rfl) rfl ?_)
                refine hy (fun _ => y_assign rfl) <| hend <| hsub (ρ' := [(3, _), (78, _), (62, _), (6, _), (61, _), (60, _), (58, _), (41, _), (9, _), (10, _), (8, _), (32, _), (7, _), (17, _), (5, _), (4, _), (2, _), (0, _)]) ⟨rfl, rfl, rfl, rfl, rfl, rfl, rfl, rfl, rfl, rfl, rfl, rfl, rfl, rfl, rfl, rfl, rfl, rfl, trivial⟩ <| hthen <| hret <| hthen_ret <| ?_
                refine hmemQ (fun w m => m.addX (r' := ROwn 23 32 (.slice none 0 0) 0 []) (.refl _ _) (Own.nil _ _ _ _) (fun k hk => hk.elim)) ?_
                exact hretN1 trivial rfl rfl rfl ag61 sz61 (j_len z32) (fun m => (m.blk 1 rfl).cells0) [0] rfl [] rfl ⟨_, _, [], _, rfl, rfl, rfl, ⟨z32, D32nil, hbad (fun hb => h78 (hok1.1 hb).2.2)⟩⟩
              · have hM := Decidable.not_not.1 h78
                have hOk : OkJ B := hok1.2 ⟨hp', by omega, hM⟩
                refine hcskip <| hthen <| hseq <| hreg <| hy (fun m => y_ldN rfl ag61 sz61 (j_len hiL) ((m.blk 0 rfl).cells0)) <| ?_
                refine hx0 (xh_stA 4 rfl rfl rfl sz61 (j_len hiL) (j_one rfl) rfl ?_)
                refine hy (fun _ => y_assign rfl) <| hend <| hsub (ρ' := [(3, _), (78, _), (62, _), (6, _), (61, _), (60, _), (58, _), (41, _), (9, _), (10, _), (8, _), (32, _), (7, _), (17, _), (5, _), (4, _), (2, _), (0, _)]) ⟨rfl, rfl, rfl, rfl, rfl, rfl, rfl, rfl, rfl, rfl, rfl, rfl, rfl, rfl, rfl, rfl, rfl, rfl, trivial⟩ <| hthen <| hret <| ?_
                rw [← hcn, ← hDl]
                exact hretN1 trivial rfl rfl rfl ag61 sz61 (j_len hiL) (fun m => (m.blk 0 rfl).cells0) [2] rfl [] rfl ⟨_, _, _, _, rfl, rfl, rfl, ⟨hiL, hDD, hok hOk⟩⟩
end Go.Proofs.Ytpcgpnijhpcbeaa
