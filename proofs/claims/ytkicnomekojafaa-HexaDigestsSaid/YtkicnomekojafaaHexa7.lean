/- The law HexaParses: what it computes. -/
import Derived.Test.YtkicnomekojafaaHexa6
set_option linter.unusedVariables false
set_option linter.unusedSimpArgs false
namespace Go.Proofs.Ytkicnomekojafaa
open Go.Eng Go.Hx
def strs (ss : List (List UInt8)) : List Value := ss.map fun s => .string (strOf s)
theorem strs_append (a b : List (List UInt8)) : strs (a ++ b) = strs a ++ strs b := by simp [strs]
theorem strs_one {ss : List (List UInt8)} : ∀ u ∈ strs ss, u.oneCell' = true := by
  intro u hu
  simp [strs] at hu
  obtain ⟨_, _, rfl⟩ := hu
  rfl
/-- both tell the same -/
theorem parsed_same {w w1 w2 : World} {s : List UInt8} {v v' : Value} (h : parsed w s v w1) (f : Fr No w1 w2) {w3 : World} (h' : parsed w1 s v' w2) : ∃ (x : List UInt8) (A A' : Option Addr) (n c c' : Nat) (e : Int), v = .tuple #[.slice A n c, .int .i64 e] ∧ v' = .tuple #[.slice A' n c', .int .i64 e] ∧ Rd w2 1 A n (b8s x) ∧ Rd w2 1 A' n (b8s x) := by
  unfold parsed at h h'
  split at h
  · rename_i x hx
    rw [hx] at h'
    obtain ⟨u, rfl, hu⟩ := h
    obtain ⟨u', rfl, hu'⟩ := h'
    obtain ⟨A, c, rfl, _⟩ := hu.slice
    obtain ⟨A', c', rfl, _⟩ := hu'.slice
    exact ⟨x, A, A', _, c, c', 0, rfl, rfl, ((Own.rd hu).2.2).fr0 f, (Own.rd hu').2.2⟩
  · rename_i hx
    rw [hx] at h'
    subst h h'
    exact ⟨[], _, _, _, _, _, 2, rfl, rfl, Rd.nil _ _ _, Rd.nil _ _ _⟩
theorem hexaParses (s : ByteArray) (A : Option Addr) (n c : Nat) (l : List UInt8) (z : Int) (ch : UInt8) (w : World) (hs : s.size ≤ maxLen) (hr : Rd w 1 A n (b8s l)) (hc : n ≤ c) (hn : n ≤ 140737488351232) (hz : -9223372036854775808 ≤ z ∧ z ≤ 9223372036854775807) :
    Calls Try.prog 6 #[.string s, .slice A n c, .int .i64 z, .int .u8 ch.toNat] w fun e w' => e = .returned (.bool true) ∧ Fr No w w' := by
  refine enter (N := 82) Try.func6 rfl rfl (by simp) ?_
  refine cseq <| creg <| nq (y_assign rfl) <| nend <| qthen <| cseq <| creg <| nq (y_move rfl) <| ?_
  refine nx (x_call rfl Try.call8 (few A n c l 20 _ hr hc hn) ?_)
  rintro e_ w1 ⟨x, rfl, hx, hf1⟩
  refine ⟨_, rfl, ?_⟩
  obtain ⟨Ax, cx, rfl, hcx⟩ := hx.slice
  have rx := (Own.rd hx).2.2
  have hl : (l.take 20).length = min n 20 := by have := rx.1; rw [b8s_length] at this; omega
  refine nx (x_call rfl Try.call17 (rtext Ax _ cx _ w1 rx (by omega)) ?_)
  rintro e_ w2 ⟨rfl, hf2⟩
  refine ⟨_, rfl, ?_⟩
  have hh := hexs_length (l.take 20)
  refine nx (x_s2b rfl Try.underlying9 Try.underlying22 Try.underlying5 (by rw [bytesOf_strOf, hh]; unfold maxLen; omega) fun v3 w3 hf3 ho3 => ?_)
  rw [bytesOf_strOf] at ho3
  obtain ⟨Ao, co, rfl, hco⟩ := ho3.slice
  have f03 : Fr No w w3 := (hf1.trans0 hf2).trans0 hf3
  have ro3 := (Own.rd ho3).2.2
  refine nq (y_assign rfl) <| nend <| qsub (sub_cons (t := 9) rfl <| sub_cons (t := 8) rfl <| sub_cons (t := 0) rfl <| sub_cons (t := 1) rfl <| sub_cons (t := 2) rfl <| sub_cons (t := 3) rfl <| sub_nil) <| qthen <| cseq <| ?_
  refine cdrw [(0, false), (2, false), (3, false), (1, true), (4, true), (5, false)] (by kernel_rfl) (by kernel_rfl) rfl (fun w' => Fr No w3 w') ((Fr.drew _)) (fun w4 hf4 hS4 => ?_)
  refine sq (fun w_ hS_ => y_move rfl) <| sq (fun w_ hS_ => y_move rfl) <| sq (fun w_ hS_ => y_b2s rfl Try.underlying22 Try.underlying5 Try.underlying9 (ro3.fr0 hS_)) <| ?_
  refine sx (x_call rfl Try.call18 (short_c (bytesOf s) 40 w4) ?_)
  rintro e_ w5 ⟨rfl, rfl⟩
  refine ⟨_, rfl, ?_⟩
  refine ⟨hS4, ?_⟩
  refine sx (x_bsl Try.underlying39 ti9 rfl rfl rfl (by simp [Value.cells]) (by decide) (by decide) fun g w5 hg hf5 hb5 => ?_)
  have hS5 : Fr No w3 w5 := hS4.trans0 hf5
  refine ⟨hS5, ?_⟩
  have hsz4 := hS4.size
  have hsz3 := f03.size
  have hb : Own w5 w4.heap.size 9 1 (.slice (some ⟨g, 0, none⟩) 3 3) 3 (strs [(bytesOf s).take 40, hexs (l.take 20), []]) := Own.made hb5 hg (by decide) (by decide) rfl
  refine sq (fun w_ hS_ => y_assign rfl) <| send <| qsub (sub_cons (t := 10) rfl <| sub_cons (t := 9) rfl <| sub_cons (t := 8) rfl <| sub_cons (t := 0) rfl <| sub_cons (t := 1) rfl <| sub_cons (t := 2) rfl <| sub_cons (t := 3) rfl <| sub_nil) <| qthen <| cseq <| cseq <| creg <| nq (y_move rfl) <| nq (y_lenS rfl Try.underlying22) <| nq (y_gtr rfl rfl) <| nend <| qsub (sub_cons (t := 28) rfl <| sub_cons (t := 10) rfl <| sub_cons (t := 9) rfl <| sub_cons (t := 8) rfl <| sub_cons (t := 0) rfl <| sub_cons (t := 1) rfl <| sub_cons (t := 2) rfl <| sub_cons (t := 3) rfl <| sub_nil) <| qthen <| ?_
  refine cif rfl (fun h => ?_) (fun h => ?_)
  · rw [hh, hl] at h
    have hm : 0 < min n 20 := by omega
    refine cseq <| creg <| nq (y_move rfl) <| nq (y_move rfl) <| nq (y_lenS rfl Try.underlying22) <| ?_
    refine nx (x_call rfl Try.call11 (around_c z _ w5 hz.1 hz.2 (by omega)) ?_)
    rintro e_ w6 ⟨rfl, rfl⟩
    refine ⟨_, rfl, ?_⟩
    have har := around_lt z ((hexs (l.take 20)).length : Nat) (by omega)
    generalize hq : around z ((hexs (l.take 20)).length : Nat) = q at har
    obtain ⟨k, rfl⟩ : ∃ k : Nat, q = k := ⟨q.toNat, by omega⟩
    have ho5 := ho3.fr0 hS5
    have ro5 := (Own.rd ho5).2.2
    have rk : Rd w5 1 Ao k (b8s ((hexs (l.take 20)).take k)) := by
      have := ro5.take (k := k) (by omega)
      rwa [Nat.mul_one, ← b8s_take] at this
    refine nq (y_assign rfl) <| nend <| qsub (sub_cons (t := 11) rfl <| sub_cons (t := 28) rfl <| sub_cons (t := 10) rfl <| sub_cons (t := 9) rfl <| sub_cons (t := 8) rfl <| sub_cons (t := 0) rfl <| sub_cons (t := 1) rfl <| sub_cons (t := 2) rfl <| sub_cons (t := 3) rfl <| sub_nil) <| qthen <| cseq <| creg <| nq (y_move rfl) <| nq (y_move rfl) <| nq (y_move rfl) <| nq (y_slTo rfl rfl Try.underlying22 sz5 rfl ((by omega))) <| nq (y_b2s rfl Try.underlying22 Try.underlying5 Try.underlying9 rk) <| ?_
    refine nx (x_bsl Try.underlying39 ti9 rfl rfl rfl (by simp [Value.cells]) (by decide) (by decide) fun g6 w6 hg6 hf6 hb6 => ?_)
    have f06 : Fr No w w6 := f03.trans0 (hS5.trans0 hf6)
    have hsz6 := f06.size
    have h46 : w4.heap.size ≤ w6.heap.size := (hf5.trans0 hf6).size
    refine nx (x_app rfl rfl Try.underlying39 Try.underlying39 (by exact .inl rfl) ti9 rfl (hb.fr0 hf6) (Src.of_blk hb6 rfl) (strs_one (ss := [_])) (by unfold maxLen; omega) (by omega) h46 fun v7 w7 hb7 hf7 hv7 => ?_)
    have f07 : Fr No w w7 := f06.new hf7 (fun i hi => by have := (hb.from hi).1; omega)
    have ho7 := (ho5.fr0 hf6).fr hf7 (fun i hi hS => by have := (hb.from hS).1; have := (ho3.from hi).2; omega)
    have ro7 := (Own.rd ho7).2.2
    refine nq (y_assign rfl) <| nend <| qsub (sub_cons (t := 10) rfl <| sub_cons (t := 11) rfl <| sub_cons (t := 28) rfl <| sub_cons (t := 9) rfl <| sub_cons (t := 8) rfl <| sub_cons (t := 0) rfl <| sub_cons (t := 1) rfl <| sub_cons (t := 2) rfl <| sub_cons (t := 3) rfl <| sub_nil) <| qthen <| cseq <| creg <| nq (y_move rfl) <| nq (y_move rfl) <| nq (y_move rfl) <| nq (y_idxS1 rfl rfl Try.underlying22 sz5 ro7.2.1 rfl (by omega)) <| ?_
    refine nx0 (x_stO rfl rfl sz5 rfl ho7 (by omega) fun w8 hf8 ho8 hs8 => ?_)
    have f08 : Fr No w w8 := f07.new hf8 (fun i hi => by have := (ho7.from hi).1; have := (f03.size); have := (hf1.trans0 hf2).size; omega)
    have hb8 := hb7.fr hf8 (fun i hi hS => by have := (hb7.from hi).1; have := (ho3.from hS).2; omega)
    obtain ⟨A8, c8, rfl, hc8⟩ := hb8.slice
    rw [show (Value.int .u8 (ch.toNat : Int)) = B8 ch from rfl, ← b8s_set] at ho8
    have ro8 := (Own.rd ho8).2.2
    refine nend <| qsub (sub_cons (t := 10) rfl <| sub_cons (t := 11) rfl <| sub_cons (t := 28) rfl <| sub_cons (t := 9) rfl <| sub_cons (t := 8) rfl <| sub_cons (t := 0) rfl <| sub_cons (t := 1) rfl <| sub_cons (t := 2) rfl <| sub_cons (t := 3) rfl <| sub_nil) <| qthen <| creg <| nq (y_move rfl) <| nq (y_move rfl) <| nq (y_b2s rfl Try.underlying22 Try.underlying5 Try.underlying9 ro8) <| ?_
    refine nx (x_bsl Try.underlying39 ti9 rfl rfl rfl (by simp [Value.cells]) (by decide) (by decide) fun g9 w9 hg9 hf9 hb9 => ?_)
    have h49 : w4.heap.size ≤ w9.heap.size := by have := hf9.size; have := hf7.size; omega
    refine nx (x_app rfl rfl Try.underlying39 Try.underlying39 (by exact .inl rfl) ti9 rfl (hb8.fr0 hf9) (Src.of_blk hb9 rfl) (strs_one (ss := [_])) (by unfold maxLen; omega) (by omega) h49 fun v10 w10 hb10 hf10 hv10 => ?_)
    have f10 : Fr No w w10 := (f08.trans0 hf9).new hf10 (fun i hi => by have := (hb8.from hi).1; omega)
    have hb := hb10.wide (b := w.heap.size) (by omega)
    obtain ⟨Ab, cb, rfl, hcb⟩ := hb.slice
    generalize hgs : [(bytesOf s).take 40, hexs (l.take 20), [], (hexs (l.take 20)).take k, (hexs (l.take 20)).set k ch] = ss
    have hss : ∀ x ∈ ss, x.length ≤ 140737488351232 := by
      subst hgs
      intro x hx
      simp only [List.mem_cons, List.not_mem_nil, or_false] at hx
      rcases hx with rfl | rfl | rfl | rfl | rfl <;> first | omega | (simp; done) | (simp; omega)
    have hb : Own w10 w.heap.size 9 1 (.slice Ab ss.length cb) ss.length (strs ss) := by
      subst hgs
      exact hb
    have hl5 : ss.length = 5 := by subst hgs; rfl
    rw [show (3 + 1 + 1 : Nat) = ss.length from hl5.symm]
    refine nq (y_assign rfl) <| nend <| qsub (sub_cons (t := 10) rfl <| sub_cons (t := 11) rfl <| sub_cons (t := 28) rfl <| sub_cons (t := 9) rfl <| sub_cons (t := 8) rfl <| sub_cons (t := 0) rfl <| sub_cons (t := 1) rfl <| sub_cons (t := 2) rfl <| sub_cons (t := 3) rfl <| sub_nil) <| qthen <| cseq <| cseq <| creg <| nq (y_assign rfl) <| nend <| qthen <| cblock <| ?_
    refine cloop1 (fun j => ss.length - j) (fun j => [(10, .slice Ab ss.length cb), (12, .int .i64 (j : Nat))]) (fun j w' => j ≤ ss.length ∧ Own w' w.heap.size 9 1 (.slice Ab ss.length cb) ss.length (strs ss) ∧ Fr No w w') 0 (⟨Nat.zero_le _, hb, f10⟩) (sub_cons (t := 10) rfl <| sub_cons (t := 12) rfl <| sub_nil) (fun j w1 ⟨hj, ho, hf⟩ => ?_)
    refine cseq <| cseq <| creg <| nq (y_move rfl) <| nq (y_move rfl) <| nq (y_lenS rfl Try.underlying39) <| nq (y_lss rfl rfl) <| nend <| qsub (sub_cons (t := 52) rfl <| sub_cons (t := 10) rfl <| sub_cons (t := 12) rfl <| sub_nil) <| qthen <| ?_
    refine cif rfl (fun h => ?_) (fun h => ?_)
    · have hjn : j < ss.length := by omega
      have hget : (strs ss)[j]? = some (.string (strOf (ss.getD j []))) := by
        simp only [strs, List.getElem?_map, List.getElem?_eq_getElem hjn, List.getD, Option.map_some, Option.getD_some]
      have hlen : (ss.getD j []).length ≤ 140737488351232 := by
        rw [List.getD, List.getElem?_eq_getElem hjn]
        exact hss _ (List.getElem_mem hjn)
      have ro := (Own.rd ho).2.2
      refine cskip <| qthen <| cseq <| cblock <| cseq <| creg <| nq (y_move rfl) <| nq (y_move rfl) <| nq (y_idxS1 rfl rfl Try.underlying39 sz9 ro.2.1 rfl (by omega)) <| nq (y_ld1 rfl ag9 (ro.cell hget)) <| ?_
      refine nx (x_call rfl Try.call16 (parse _ w1 hlen) ?_)
      rintro e_ w2 ⟨⟨v, rfl, hv⟩, hf2⟩
      refine ⟨_, rfl, ?_⟩
      obtain ⟨u1, u2, rfl⟩ : ∃ u1 u2, v = .tuple #[u1, u2] := by
        unfold parsed at hv
        split at hv
        · obtain ⟨u, rfl, _⟩ := hv; exact ⟨_, _, rfl⟩
        · exact ⟨_, _, hv⟩
      refine nq (y_move rfl) <| nq (y_extract rfl rfl) <| nq (y_extract rfl rfl) <| nq (y_assign rfl) <| nq (y_assign rfl) <| nend <| qsub (sub_cons (t := 14) rfl <| sub_cons (t := 13) rfl <| sub_cons (t := 52) rfl <| sub_cons (t := 10) rfl <| sub_cons (t := 12) rfl <| sub_nil) <| qthen <| cseq <| creg <| nq (y_move rfl) <| nq (y_move rfl) <| nq (y_idxS1 rfl rfl Try.underlying39 sz9 ro.2.1 rfl (by omega)) <| nq (y_ld1 rfl ag9 ((ro.fr0 hf2).cell hget)) <| ?_
      refine nx (x_call rfl Try.call19 (rparse _ w2 hlen) ?_)
      rintro e_ w3 ⟨⟨v', rfl, hv'⟩, hf3⟩
      refine ⟨_, rfl, ?_⟩
      obtain ⟨x, A1, A2, m, c1, c2, e, h1, rfl, r1, r2⟩ := parsed_same hv hf3 (w3 := w3) hv'
      cases h1
      refine nq (y_move rfl) <| nq (y_extract rfl rfl) <| nq (y_extract rfl rfl) <| nq (y_assign rfl) <| nq (y_assign rfl) <| nend <| qsub (sub_cons (t := 16) rfl <| sub_cons (t := 15) rfl <| sub_cons (t := 14) rfl <| sub_cons (t := 13) rfl <| sub_cons (t := 52) rfl <| sub_cons (t := 10) rfl <| sub_cons (t := 12) rfl <| sub_nil) <| qthen <| cseq <| creg <| nq (y_move rfl) <| nq (y_move rfl) <| nq (yF (y_neq rfl rfl) (decide_eq_false (fun h => h rfl))) <| nq (y_move rfl) <| ng rfl rfl rfl (y_move rfl) <| ng rfl rfl rfl (y_b2s rfl Try.underlying22 Try.underlying5 Try.underlying9 r1) <| ng rfl rfl rfl (y_move rfl) <| ng rfl rfl rfl (y_b2s rfl Try.underlying22 Try.underlying5 Try.underlying9 r2) <| ng rfl rfl rfl (yF (y_sne rfl rfl) (decide_eq_false (fun h => h rfl))) <| nq (y_pickF rfl rfl) <| nend <| qsub (sub_cons (t := 80) rfl <| sub_cons (t := 16) rfl <| sub_cons (t := 15) rfl <| sub_cons (t := 14) rfl <| sub_cons (t := 13) rfl <| sub_cons (t := 52) rfl <| sub_cons (t := 10) rfl <| sub_cons (t := 12) rfl <| sub_nil) <| qthen <| ?_
      refine ciff rfl (rfl) ?_
      refine cskip <| qblock <| qthen <| creg <| nq (y_move rfl) <| nq (y_add rfl rfl (w64 (by omega) (by omega))) <| nq (y_assign rfl) <| nend <| qsub (sub_cons (t := 12) rfl <| sub_cons (t := 80) rfl <| sub_cons (t := 16) rfl <| sub_cons (t := 15) rfl <| sub_cons (t := 14) rfl <| sub_cons (t := 13) rfl <| sub_cons (t := 52) rfl <| sub_cons (t := 10) rfl <| sub_nil) <| ?_
      refine qloop1 (j + 1) (sub_cons (t := 10) rfl <| sub_cons (t := 12) rfl <| sub_nil) (⟨by omega, (ho.fr0 hf2).fr0 hf3, (hf.trans0 hf2).trans0 hf3⟩) (by omega)
    · refine cexit <| qthen_exit <| qthen_exit <| qblock_exit <| qthen <| cseq <| creg <| ?_
      refine nx (x_call rfl Try.call10 (lives1 _) ?_)
      rintro e_ w2 ⟨rfl, hf2⟩
      refine ⟨_, rfl, ?_⟩
      refine nq (y_assign rfl) <| nend <| qsub (sub_cons (t := 8) rfl <| sub_cons (t := 52) rfl <| sub_cons (t := 10) rfl <| sub_cons (t := 12) rfl <| sub_nil) <| qthen <| cret <| ?_
      exact ret1 trivial rfl rfl ⟨rfl, hf.trans0 hf2⟩
  · refine cskip <| qthen <| cseq <| cseq <| creg <| nq (y_assign rfl) <| nend <| qthen <| cblock <| ?_
    obtain ⟨ss, hgs⟩ : ∃ ss, [(bytesOf s).take 40, hexs (l.take 20), []] = ss := ⟨_, rfl⟩
    have hss : ∀ x ∈ ss, x.length ≤ 140737488351232 := by
      subst hgs
      intro x hx
      simp only [List.mem_cons, List.not_mem_nil, or_false] at hx
      rcases hx with rfl | rfl | rfl <;> first | omega | (simp; done) | (simp; omega)
    have hb := hb.wide (b := w.heap.size) (by omega)
    obtain ⟨Ab, hAb⟩ : ∃ Ab, Ab = some (⟨g, 0, none⟩ : Addr) := ⟨_, rfl⟩
    rw [← hAb] at hb
    have hb : Own w5 w.heap.size 9 1 (.slice Ab ss.length 3) ss.length (strs ss) := by
      subst hgs
      exact hb
    have hl3 : ss.length = 3 := by subst hgs; rfl
    have hkey : (Value.slice Ab ss.length 3) = .slice (some ⟨g, 0, none⟩) 3 3 := by rw [hl3, hAb]
    rw [← hkey]
    refine cloop1 (fun j => ss.length - j) (fun j => [(10, .slice Ab ss.length 3), (12, .int .i64 (j : Nat))]) (fun j w' => j ≤ ss.length ∧ Own w' w.heap.size 9 1 (.slice Ab ss.length 3) ss.length (strs ss) ∧ Fr No w w') 0 (⟨Nat.zero_le _, hb, (f03.trans0 hS5)⟩) (sub_cons (t := 10) rfl <| sub_cons (t := 12) rfl <| sub_nil) (fun j w1 ⟨hj, ho, hf⟩ => ?_)
    refine cseq <| cseq <| creg <| nq (y_move rfl) <| nq (y_move rfl) <| nq (y_lenS rfl Try.underlying39) <| nq (y_lss rfl rfl) <| nend <| qsub (sub_cons (t := 52) rfl <| sub_cons (t := 10) rfl <| sub_cons (t := 12) rfl <| sub_nil) <| qthen <| ?_
    refine cif rfl (fun h => ?_) (fun h => ?_)
    · have hjn : j < ss.length := by omega
      have hget : (strs ss)[j]? = some (.string (strOf (ss.getD j []))) := by
        simp only [strs, List.getElem?_map, List.getElem?_eq_getElem hjn, List.getD, Option.map_some, Option.getD_some]
      have hlen : (ss.getD j []).length ≤ 140737488351232 := by
        rw [List.getD, List.getElem?_eq_getElem hjn]
        exact hss _ (List.getElem_mem hjn)
      have ro := (Own.rd ho).2.2
      refine cskip <| qthen <| cseq <| cblock <| cseq <| creg <| nq (y_move rfl) <| nq (y_move rfl) <| nq (y_idxS1 rfl rfl Try.underlying39 sz9 ro.2.1 rfl (by omega)) <| nq (y_ld1 rfl ag9 (ro.cell hget)) <| ?_
      refine nx (x_call rfl Try.call16 (parse _ w1 hlen) ?_)
      rintro e_ w2 ⟨⟨v, rfl, hv⟩, hf2⟩
      refine ⟨_, rfl, ?_⟩
      obtain ⟨u1, u2, rfl⟩ : ∃ u1 u2, v = .tuple #[u1, u2] := by
        unfold parsed at hv
        split at hv
        · obtain ⟨u, rfl, _⟩ := hv; exact ⟨_, _, rfl⟩
        · exact ⟨_, _, hv⟩
      refine nq (y_move rfl) <| nq (y_extract rfl rfl) <| nq (y_extract rfl rfl) <| nq (y_assign rfl) <| nq (y_assign rfl) <| nend <| qsub (sub_cons (t := 14) rfl <| sub_cons (t := 13) rfl <| sub_cons (t := 52) rfl <| sub_cons (t := 10) rfl <| sub_cons (t := 12) rfl <| sub_nil) <| qthen <| cseq <| creg <| nq (y_move rfl) <| nq (y_move rfl) <| nq (y_idxS1 rfl rfl Try.underlying39 sz9 ro.2.1 rfl (by omega)) <| nq (y_ld1 rfl ag9 ((ro.fr0 hf2).cell hget)) <| ?_
      refine nx (x_call rfl Try.call19 (rparse _ w2 hlen) ?_)
      rintro e_ w3 ⟨⟨v', rfl, hv'⟩, hf3⟩
      refine ⟨_, rfl, ?_⟩
      obtain ⟨x, A1, A2, m, c1, c2, e, h1, rfl, r1, r2⟩ := parsed_same hv hf3 (w3 := w3) hv'
      cases h1
      refine nq (y_move rfl) <| nq (y_extract rfl rfl) <| nq (y_extract rfl rfl) <| nq (y_assign rfl) <| nq (y_assign rfl) <| nend <| qsub (sub_cons (t := 16) rfl <| sub_cons (t := 15) rfl <| sub_cons (t := 14) rfl <| sub_cons (t := 13) rfl <| sub_cons (t := 52) rfl <| sub_cons (t := 10) rfl <| sub_cons (t := 12) rfl <| sub_nil) <| qthen <| cseq <| creg <| nq (y_move rfl) <| nq (y_move rfl) <| nq (yF (y_neq rfl rfl) (decide_eq_false (fun h => h rfl))) <| nq (y_move rfl) <| ng rfl rfl rfl (y_move rfl) <| ng rfl rfl rfl (y_b2s rfl Try.underlying22 Try.underlying5 Try.underlying9 r1) <| ng rfl rfl rfl (y_move rfl) <| ng rfl rfl rfl (y_b2s rfl Try.underlying22 Try.underlying5 Try.underlying9 r2) <| ng rfl rfl rfl (yF (y_sne rfl rfl) (decide_eq_false (fun h => h rfl))) <| nq (y_pickF rfl rfl) <| nend <| qsub (sub_cons (t := 80) rfl <| sub_cons (t := 16) rfl <| sub_cons (t := 15) rfl <| sub_cons (t := 14) rfl <| sub_cons (t := 13) rfl <| sub_cons (t := 52) rfl <| sub_cons (t := 10) rfl <| sub_cons (t := 12) rfl <| sub_nil) <| qthen <| ?_
      refine ciff rfl (rfl) ?_
      refine cskip <| qblock <| qthen <| creg <| nq (y_move rfl) <| nq (y_add rfl rfl (w64 (by omega) (by omega))) <| nq (y_assign rfl) <| nend <| qsub (sub_cons (t := 12) rfl <| sub_cons (t := 80) rfl <| sub_cons (t := 16) rfl <| sub_cons (t := 15) rfl <| sub_cons (t := 14) rfl <| sub_cons (t := 13) rfl <| sub_cons (t := 52) rfl <| sub_cons (t := 10) rfl <| sub_nil) <| ?_
      refine qloop1 (j + 1) (sub_cons (t := 10) rfl <| sub_cons (t := 12) rfl <| sub_nil) (⟨by omega, (ho.fr0 hf2).fr0 hf3, (hf.trans0 hf2).trans0 hf3⟩) (by omega)
    · refine cexit <| qthen_exit <| qthen_exit <| qblock_exit <| qthen <| cseq <| creg <| ?_
      refine nx (x_call rfl Try.call10 (lives1 _) ?_)
      rintro e_ w2 ⟨rfl, hf2⟩
      refine ⟨_, rfl, ?_⟩
      refine nq (y_assign rfl) <| nend <| qsub (sub_cons (t := 8) rfl <| sub_cons (t := 52) rfl <| sub_cons (t := 10) rfl <| sub_cons (t := 12) rfl <| sub_nil) <| qthen <| cret <| ?_
      exact ret1 trivial rfl rfl ⟨rfl, hf.trans0 hf2⟩
end Go.Proofs.Ytkicnomekojafaa
