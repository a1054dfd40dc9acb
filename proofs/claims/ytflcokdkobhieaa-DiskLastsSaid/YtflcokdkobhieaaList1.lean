/- Contract: a disk's names. -/
import Derived.Test.YtflcokdkobhieaaSortC
set_option linter.unusedVariables false
set_option linter.unusedSimpArgs false
set_option maxRecDepth 20000
namespace Go.Proofs.Ytflcokdkobhieaa
open Go.Eng Go.Hx
theorem perm_erase {α : Type} : ∀ {l : List α} {j : Nat} {x : α}, l[j]? = some x → l.Perm (x :: l.eraseIdx j)
  | [], j, x, h => by simp at h
  | a :: r, 0, x, h => by
    simp only [List.getElem?_cons_zero, Option.some.injEq] at h
    subst h; exact List.Perm.refl _
  | a :: r, j + 1, x, h => by
    have := perm_erase (l := r) (j := j) (x := x) (by simpa using h)
    exact (List.Perm.cons a this).trans (List.Perm.swap x a _)
def pre (p s : List UInt8) : Bool := decide (s.take p.length = p)
theorem slHasPrefixC {s p : List UInt8} : Con Try.prog 84 [.string (strOf s), .string (strOf p)] [] [] (fun v_ X_ S_ => v_ = (.bool (pre p s)) ∧ X_ = [] ∧ S_ = []) := by
  have hs1 := strOf_size s
  have hs2 := strOf_size p
  refine henter (N := 18) Try.func84 rfl rfl (by simp) fun b => ?_
  by_cases h : p.length ≤ s.length
  · refine hseq <| hreg <| hy (fun _ => y_assign rfl) <| hend <| hthen <| hseq <| hreg <| hy (fun _ => y_move rfl) <| hy (fun _ => y_lenStr rfl Try.underlying9) <| hy (fun _ => y_move rfl) <| hy (fun _ => y_lenStr rfl Try.underlying9) <| hy (fun _ => yT (y_geq rfl rfl) ((decide_eq_true (by omega)))) <| hy (fun _ => y_move rfl) <| hyg (o := _) rfl rfl rfl (fun _ => y_move rfl) <| hyg (o := _) rfl rfl rfl (fun _ => y_move rfl) <| hyg (o := _) rfl rfl rfl (fun _ => y_lenStr rfl Try.underlying9) <| hyg (o := _) rfl rfl rfl (fun _ => yV (y_strTo rfl rfl Try.underlying9 (show ((p.length : Nat) : Int) = _ by omega) (by rw [bytesOf_strOf]; exact h)) ((rfl : Value.string _ = .string (strOf (s.take p.length))))) <| hyg (o := _) rfl rfl rfl (fun _ => y_move rfl) <| hyg (o := _) rfl rfl rfl (fun _ => y_seq rfl rfl) <| hy (fun _ => y_pickT rfl rfl) <| hy (fun _ => y_assign rfl) <| hend <| hsub (ρ' := [(4, _), (0, _), (1, _)]) ⟨rfl, rfl, rfl, trivial⟩ <| hthen <| hret <| ?_
    exact hret1 trivial rfl rfl [] rfl [] rfl ⟨(congrArg Value.bool (decide_eq_decide.2 strOf_inj)), rfl, rfl⟩
  · refine hseq <| hreg <| hy (fun _ => y_assign rfl) <| hend <| hthen <| hseq <| hreg <| hy (fun _ => y_move rfl) <| hy (fun _ => y_lenStr rfl Try.underlying9) <| hy (fun _ => y_move rfl) <| hy (fun _ => y_lenStr rfl Try.underlying9) <| hy (fun _ => yF (y_geq rfl rfl) ((decide_eq_false (by omega)))) <| hy (fun _ => y_move rfl) <| hskip rfl rfl rfl (by decide) <| hskip rfl rfl rfl (by decide) <| hskip rfl rfl rfl (by decide) <| hskip rfl rfl rfl (by decide) <| hskip rfl rfl rfl (by decide) <| hskip rfl rfl rfl (by decide) <| hy (fun _ => y_pickF rfl rfl) <| hy (fun _ => y_assign rfl) <| hend <| hsub (ρ' := [(4, _), (0, _), (1, _)]) ⟨rfl, rfl, rfl, trivial⟩ <| hthen <| hret <| ?_
    exact hret1 trivial rfl rfl [] rfl [] rfl ⟨(congrArg Value.bool (decide_eq_false (fun e => h (by rw [← e, List.length_take]; omega))).symm), rfl, rfl⟩
theorem hasPrefixC {s p : List UInt8} : Con Try.prog 60 [.string (strOf s), .string (strOf p)] [] [] (fun v_ X_ S_ => v_ = (.bool (pre p s)) ∧ X_ = [] ∧ S_ = []) := by
  refine henter (N := 8) Try.func60 rfl rfl (by simp) fun b => ?_
  refine hseq <| hreg <| hy (fun _ => y_assign rfl) <| hend <| hthen <| hseq <| hreg <| hy (fun _ => y_move rfl) <| hy (fun _ => y_move rfl) <| ?_
  refine hx (xh_call rfl Try.call84 (slHasPrefixC) [] rfl [] rfl ?_)
  rintro _ _ _ ⟨rfl, rfl, rfl⟩
  refine hy (fun _ => y_assign rfl) <| hend <| hsub (ρ' := [(4, _), (0, _), (1, _)]) ⟨rfl, rfl, rfl, trivial⟩ <| hmemQ (X' := []) (S' := []) (fun _ m => m) <| hthen <| hret <| ?_
  exact hret1 trivial rfl rfl [] rfl [] rfl ⟨rfl, rfl, rfl⟩
theorem listC {g : Nat} {st : DSt} {p : List UInt8} (hk : st.seen.length ≤ 100000) : Con Try.prog 27 [.pointer (some ⟨g, 0, none⟩), .string (strOf p)] [RDisk g st] [] (fun v_ X_ S_ => ∃ v n ks, v_ = v ∧ X_ = [RDisk g st, ROwn 9 1 v n (ss (srt ks))] ∧ S_ = [] ∧ (n = ks.length ∧ ks.Perm ((akeys st.seen).filter (pre p)))) := by
  refine henter (N := 26) Try.func27 rfl rfl (by simp) fun b => ?_
  refine hmemC (fun w m => (m.perm (takeR_perm [0] _ [_] _ rfl)).unpack) ?_
  refine hseq <| hreg <| hy (fun _ => y_assign rfl) <| hend <| hthen <| hseq <| hreg <| hy (fun _ => y_assign rfl) <| hend <| hthen <| hseq <| hseq <| hreg <| hy (fun _ => y_move rfl) <| hy (fun _ => y_nilp rfl) <| hy (fun _ => y_fld rfl fa91_1 (by decide)) <| hy (fun m => y_ld1 rfl ag88 (ld_blk (m.blk 0 rfl) rfl)) <| ?_
  refine hx (xh_range 1 rfl rfl Try.underlying88 (fun r11 => ?_))
  refine hend <| hsub (ρ' := [(11, _), (5, _), (4, _), (0, _), (1, _)]) ⟨rfl, rfl, rfl, rfl, rfl, trivial⟩ <| hmemQ (X' := [_, _, _, _, _]) (S' := []) (fun _ m => m) <| hthen <| hblock <| ?_
  refine hmemC (fun w m => m.addX (r' := ROwn 9 1 (.slice none 0 0) 0 []) (.refl _ _) (Own.nil _ _ _ _) (fun k hk => hk.elim)) ?_
  refine hloop6 (fun left cur A1 k c1 ks => left.length) (fun left cur A1 k c1 ks => [(5, .slice A1 k c1)]) (fun left cur A1 k c1 ks => [ROwn 9 1 (.slice A1 k c1) k (ss ks), RRng SV r11 st.gs (vals st.seen) (vals left) cur]) (fun left cur A1 k c1 ks => []) (fun left cur A1 k c1 ks => k = ks.length ∧ k + left.length ≤ st.seen.length ∧ (ks ++ (akeys left).filter (pre p)).Perm ((akeys st.seen).filter (pre p))) st.seen none none 0 0 [] [(11, _), (4, _), (0, _), (1, _)] ⟨rfl, rfl, rfl, rfl, trivial⟩ [0, 0] rfl [] rfl (⟨rfl, by omega, List.Perm.refl _⟩) ⟨rfl, trivial⟩ (fun left cur A1 k c1 ks ⟨hkn, hkl, hpm⟩ => ?_)
  refine hseq <| hreg <| ?_
  refine hx (xh_next 1 rfl rfl (fun h0 => ?_) (fun j x hx1 => ?_))
  · obtain rfl : left = [] := List.map_eq_nil_iff.1 h0
    refine hy (fun _ => y_extract rfl rfl) <| hend <| hsub (ρ' := [(13, _), (5, _), (11, _), (4, _), (0, _), (1, _)]) ⟨rfl, rfl, rfl, rfl, rfl, rfl, trivial⟩ <| hthen <| hseq <| ?_
    refine hiff rfl (rfl) ?_
    refine hexit <| hthen_exit <| hthen_exit <| hqblock_exit <| hthen <| hseq <| hreg <| hy (fun _ => y_move rfl) <| ?_
    refine hx (xh_call rfl Try.call61 (sortC (by omega)) [0] rfl [] rfl ?_)
    rintro _ _ _ ⟨rfl, rfl, rfl⟩
    refine hend <| hsub (ρ' := [(13, _), (5, _), (11, _), (4, _), (0, _), (1, _)]) ⟨rfl, rfl, rfl, rfl, rfl, rfl, trivial⟩ <| hmemQ (X' := [_, _, _, _, _, _]) (S' := []) (fun _ m => m) <| hthen <| hseq <| hreg <| hy (fun _ => y_move rfl) <| hy (fun _ => y_assign rfl) <| hend <| hsub (ρ' := [(4, _), (13, _), (5, _), (11, _), (0, _), (1, _)]) ⟨rfl, rfl, rfl, rfl, rfl, rfl, trivial⟩ <| hthen <| hret <| ?_
    refine hmemQ (fun w m => m.rngEnd 1 rfl) ?_
    refine hmemQ (X' := RDisk g st :: _) (fun w m => (m.perm (takeR_perm [2, 0, 1, 1, 1] _ [_, _, _, _, _] _ rfl)).pack) ?_
    exact hret1 trivial rfl rfl [0, 0] rfl [] rfl ⟨_, _, _, rfl, rfl, rfl, ⟨hkn, by simpa [akeys] using hpm⟩⟩
  · obtain ⟨key, v⟩ := x
    obtain ⟨r, hr, e⟩ := vals_at hx1
    obtain rfl : v = r.val := e
    have hlt := (List.getElem?_eq_some_iff.1 hr).1
    simp only at hr
    have hpe := perm_erase hr
    have hpa : (akeys left).Perm (key :: akeys (left.eraseIdx j)) := by simpa [akeys] using hpe.map Prod.fst
    have hpf := hpa.filter (pre p)
    refine hy (fun _ => y_extract rfl rfl) <| hend <| hsub (ρ' := [(13, _), (5, _), (11, _), (4, _), (0, _), (1, _)]) ⟨rfl, rfl, rfl, rfl, rfl, rfl, trivial⟩ <| hthen <| hseq <| ?_
    refine hift rfl (rfl) ?_
    refine hcskip <| hthen <| hblock <| hseq <| hreg <| hy (fun m => y_entryM rfl (m.rngX 0 rfl)) <| hy (fun _ => y_extract rfl rfl) <| hy (fun _ => y_assign rfl) <| hend <| hsub (ρ' := [(6, _), (13, _), (5, _), (11, _), (4, _), (0, _), (1, _)]) ⟨rfl, rfl, rfl, rfl, rfl, rfl, rfl, trivial⟩ <| hthen <| hseq <| hreg <| hy (fun _ => y_move rfl) <| hy (fun _ => y_move rfl) <| ?_
    refine hx (xh_call rfl Try.call60 (hasPrefixC) [] rfl [] rfl ?_)
    rintro _ _ _ ⟨rfl, rfl, rfl⟩
    refine hend <| hsub (ρ' := [(18, _), (6, _), (13, _), (5, _), (11, _), (4, _), (0, _), (1, _)]) ⟨rfl, rfl, rfl, rfl, rfl, rfl, rfl, rfl, trivial⟩ <| hmemQ (X' := [_, _, _, _, _, _]) (S' := []) (fun _ m => m) <| hthen <| ?_
    refine hifb rfl (fun hpr => ?_) (fun hpr => ?_)
    · have hp2 : (ks ++ [key] ++ (akeys (left.eraseIdx j)).filter (pre p)).Perm ((akeys st.seen).filter (pre p)) := by
        rw [List.filter_cons, if_pos hpr] at hpf
        rw [List.append_assoc]
        exact ((List.Perm.append_left ks hpf).symm.trans hpm)
      refine hreg <| hy (fun _ => y_move rfl) <| hy (fun _ => y_move rfl) <| ?_
      refine hx (xh_bsl Try.underlying48 ti9 rfl rfl rfl (by simp [Value.cells, SV]) (by decide) (by decide) (fun g21 => ?_))
      have hA_b21 : 0 < 1 → (some (⟨g21, 0, none⟩ : Addr)) ≠ none := fun _ h => by cases h
      refine hmemL (fun w m => m.eqX 0 rfl (show _ = ROwn 9 1 (.slice (some ⟨g21, 0, none⟩) 1 1) 1 (ss [key]) from rfl)) ?_
      refine hx (xh_app 2 rfl rfl rfl Try.underlying48 Try.underlying48 (by exact .inl rfl) ti9 rfl (fun m => Src.of_rd (m.ord 0 rfl)) ss_one (by unfold maxLen; omega) (by omega) (fun u => ?_))
      refine hfactL (fun m => (m.own 0 rfl).slice) ?_
      rintro ⟨A_o, c_o, rfl, hc_o⟩
      refine hfactL (fun m => (m.ord 0 rfl).2.1) fun hA_o => ?_
      refine hmemL (fun w m => m.eqX 0 rfl (show _ = ROwn 9 1 (.slice A_o (k + 1) c_o) (k + 1) (ss (ks ++ [key])) from by simp [ss])) ?_
      refine hy (fun _ => y_assign rfl) <| hend <| hsub (ρ' := [(5, _), (18, _), (6, _), (13, _), (11, _), (4, _), (0, _), (1, _)]) ⟨rfl, rfl, rfl, rfl, rfl, rfl, rfl, rfl, trivial⟩ <| hmemQ (X' := [_, _, _, _, _, _, _]) (S' := []) (fun _ m => m) <| hqblock <| ?_
      refine hmemQ (fun w m => m.eqX 2 rfl (show _ = RRng SV r11 st.gs (vals st.seen) (vals (left.eraseIdx j)) (some (key, r.val)) from congrArg (fun q => RRng SV r11 st.gs (vals st.seen) q (some (key, r.val))) (vals_erase left j))) ?_
      refine hnext6 (left.eraseIdx j) (some (key, r.val)) A_o (k + 1) c_o (ks ++ [key]) ⟨rfl, rfl, rfl, rfl, rfl, trivial⟩ [1, 0, 1, 1, 1, 1] rfl [] rfl (⟨by rw [List.length_append, hkn]; rfl, by rw [List.length_eraseIdx, if_pos hlt]; omega, hp2⟩) (by rw [List.length_eraseIdx, if_pos hlt]; omega)
    · have hp2 : (ks ++ (akeys (left.eraseIdx j)).filter (pre p)).Perm ((akeys st.seen).filter (pre p)) := by
        rw [List.filter_cons, if_neg (by rw [show pre p key = false from hpr]; decide)] at hpf
        exact ((List.Perm.append_left ks hpf).symm.trans hpm)
      refine hcskip <| hqblock <| ?_
      refine hmemQ (fun w m => m.eqX 0 rfl (show _ = RRng SV r11 st.gs (vals st.seen) (vals (left.eraseIdx j)) (some (key, r.val)) from congrArg (fun q => RRng SV r11 st.gs (vals st.seen) q (some (key, r.val))) (vals_erase left j))) ?_
      refine hnext6 (left.eraseIdx j) (some (key, r.val)) A1 k c1 ks ⟨rfl, rfl, rfl, rfl, rfl, trivial⟩ [1, 0, 0, 0, 0, 0] rfl [] rfl (⟨hkn, by rw [List.length_eraseIdx, if_pos hlt]; omega, hp2⟩) (by rw [List.length_eraseIdx, if_pos hlt]; omega)
end Go.Proofs.Ytflcokdkobhieaa
