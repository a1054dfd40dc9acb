/- Contracts: journal.Read, the reference's Read; the law JournalReads. -/
import Derived.Test.YtpcgpnijhpcbeaaJourAdd
import Derived.Test.YtpcgpnijhpcbeaaTake
import Derived.Test.YtpcgpnijhpcbeaaPlainRead
set_option linter.unusedVariables false
set_option linter.unusedSimpArgs false
set_option maxRecDepth 20000
namespace Go.Proofs.Ytpcgpnijhpcbeaa
open Go.Eng Go.Hx
def jpre : List UInt8 := [76, 84, 74, 49]
def imgOf (b : List UInt8) : List UInt8 := (b.drop 4).take 32
def cntOf (b : List UInt8) : Nat := (b.length - 40) / 32
def dsOf (b : List UInt8) : List (List UInt8) := chunks (cntOf b) (b.drop 40)
/-- the body of a journal -/
structure OkJ (b : List UInt8) : Prop where
  len : 40 ≤ b.length
  mod : (b.length - 40) % 32 = 0
  may : JMay (dsOf b)
  eq : jbody (imgOf b) (dsOf b) = b
theorem split_body {b : List UInt8} (h : 40 ≤ b.length) : b = b.take 4 ++ imgOf b ++ (b.drop 36).take 4 ++ b.drop 40 := by
  have e1 : b.drop 36 = (b.drop 36).take 4 ++ b.drop 40 := by
    conv => lhs; rw [← List.take_append_drop 4 (b.drop 36)]
    rw [List.drop_drop]
  have e2 : b.drop 4 = imgOf b ++ b.drop 36 := by
    conv => lhs; rw [← List.take_append_drop 32 (b.drop 4)]
    rw [List.drop_drop]
    rfl
  conv => lhs; rw [← List.take_append_drop 4 b, e2, e1]
  simp
theorem img_len {b : List UInt8} (h : 40 ≤ b.length) : (imgOf b).length = 32 := by
  rw [imgOf, List.length_take, List.length_drop]; omega
theorem ds_D32 {b : List UInt8} (h : 40 ≤ b.length) : D32 (dsOf b) := chunks_D32 (by rw [List.length_drop, cntOf]; omega)
theorem ds_length (b : List UInt8) : (dsOf b).length = cntOf b := chunks_length _ _
theorem flat_all {b : List UInt8} (h : 40 ≤ b.length) (hm : (b.length - 40) % 32 = 0) : (dsOf b).flatten = b.drop 40 := by
  rw [dsOf, Go.Hx.chunks_flatten (by rw [List.length_drop, cntOf]; omega), List.take_of_length_le]
  rw [List.length_drop, cntOf]; omega
/-- what the program looks at -/
theorem okJ_iff {b : List UInt8} (h : 40 ≤ b.length) : OkJ b ↔ b.take 4 = jpre ∧ b.length - 40 = 32 * num4 ((b.drop 36).take 4) ∧ JMay (dsOf b) := by
  have hs := split_body h
  have l4 : ((b.drop 36).take 4).length = 4 := by rw [List.length_take, List.length_drop]; omega
  have t4 : (b.take 4).length = 4 := by rw [List.length_take]; omega
  have hi := img_len h
  constructor
  · rintro ⟨h1, h2, h3, h4⟩
    have hc : cntOf b < 4294967296 := by have := h3.2; rw [ds_length] at this; omega
    rw [jbody, flat_all h1 h2, ds_length] at h4
    have h5 := h4.trans hs
    rw [List.append_assoc, List.append_assoc, List.append_assoc (b.take 4 ++ imgOf b), List.append_assoc (b.take 4)] at h5
    obtain ⟨h6, h7⟩ := List.append_inj h5 (by rw [t4]; rfl)
    obtain ⟨_, h8⟩ := List.append_inj h7 rfl
    obtain ⟨h9, _⟩ := List.append_inj h8 (by rw [l4]; rfl)
    refine ⟨h6.symm, ?_, h3⟩
    rw [← h9, num4_le4 hc, cntOf]
    omega
  · rintro ⟨h1, h2, h3⟩
    have hm : (b.length - 40) % 32 = 0 := by omega
    have hc : cntOf b = num4 ((b.drop 36).take 4) := by rw [cntOf]; omega
    refine ⟨h, hm, h3, ?_⟩
    rw [jbody, flat_all h hm, ds_length, hc, le4_num4 l4]
    conv => rhs; rw [hs, h1]
    rfl
/-- what Read tells -/
def ReadJ (l : List UInt8) (img : List UInt8) (ds : List (List UInt8)) (e : Int) : Prop :=
  (takeE l ≠ 0 ∧ img = List.replicate 32 0 ∧ ds = [] ∧ e = takeE l) ∨
  (takeE l = 0 ∧ OkJ (l.take (l.length - 4)) ∧ img = imgOf (l.take (l.length - 4)) ∧ ds = dsOf (l.take (l.length - 4)) ∧ e = 0) ∨
  (takeE l = 0 ∧ ¬ OkJ (l.take (l.length - 4)) ∧ img = List.replicate 32 0 ∧ ds = [] ∧ e = 2)
theorem ReadJ.same {l i1 i2 : List UInt8} {d1 d2 : List (List UInt8)} {e1 e2 : Int} (h : ReadJ l i1 d1 e1) (h' : ReadJ l i2 d2 e2) : i1 = i2 ∧ d1 = d2 ∧ e1 = e2 := by
  rcases h with ⟨a, rfl, rfl, rfl⟩ | ⟨a, b, rfl, rfl, rfl⟩ | ⟨a, b, rfl, rfl, rfl⟩ <;> rcases h' with ⟨a', rfl, rfl, rfl⟩ | ⟨a', b', rfl, rfl, rfl⟩ | ⟨a', b', rfl, rfl, rfl⟩ <;> first | exact ⟨rfl, rfl, rfl⟩ | exact absurd a' a | exact absurd a a' | exact absurd b b' | exact absurd b' b
theorem Rd.sub {w : World} {A : Option Addr} {N c : Nat} {B : List UInt8} (h : Rd w 1 A N (b8s B)) (hc : N ≤ c) {k m : Nat} (hk : k + m ≤ N) : Rd w 1 (if c = k then A else A.map (·.add (k * 1))) m (b8s ((B.drop k).take m)) := by
  have h1 := Rd.cut h (show k ≤ N by omega) hc
  rw [Nat.mul_one, ← b8s_drop] at h1
  rw [Nat.mul_one]
  exact Rd.takeB h1 (by omega)
theorem rread (A : Option Addr) (n c : Nat) (l : List UInt8) (w : World) (hr : Rd w 1 A n (b8s l)) (hc : n ≤ c) (hn : n ≤ 1000000) :
    Calls Try.prog 38 #[.slice A n c] w fun e w' => (∃ img v ds err, e = .returned (.tuple #[.agg (b8s img ++ [v]).toArray, .int .i64 err]) ∧ Own w' w.heap.size 23 32 v ds.length (dc ds) ∧ img.length = 32 ∧ D32 ds ∧ ReadJ l img ds err) ∧ Fr No w w' := by
  have hl : l.length = n := by have := hr.1; rw [b8s_length] at this; omega
  have z32 : (List.replicate 32 (0 : UInt8)).length = 32 := by simp
  refine enter (N := 64) Try.func38 rfl rfl (by simp) ?_
  refine cseq <| creg <| ?_
  refine nx (x_alloc ti56 fun g2 w1 hg2 hf1 hb2 => ?_)
  refine nq (y_assign rfl) <| nend <| qthen <| cseq <| creg <| nq (y_move rfl) <| ?_
  refine nx (x_call rfl Try.call66 (rTake A n c l _ (hr.fr0 hf1) hc (by omega)) ?_)
  rintro e_ w2 ⟨⟨v, rfl, hv⟩, hf2⟩
  refine ⟨_, rfl, ?_⟩
  have b22 := hb2.fr0 hf2
  have f02 := hf1.trans0 hf2
  have s2 := hf2.size
  have s1 := hf1.size
  refine nq (y_move rfl) <| nq (y_extract rfl rfl) <| nq (y_extract rfl rfl) <| nq (y_assign rfl) <| nq (y_assign rfl) <| nend <| qsub (sub_cons (t := 5) rfl <| sub_cons (t := 4) rfl <| sub_cons (t := 3) rfl <| sub_cons (t := 2) rfl <| sub_cons (t := 0) rfl <| sub_nil) <| qthen <| cseq <| cseq <| creg <| nq (y_move rfl) <| nq (y_neq rfl rfl) <| nend <| qsub (sub_cons (t := 15) rfl <| sub_cons (t := 5) rfl <| sub_cons (t := 4) rfl <| sub_cons (t := 3) rfl <| sub_cons (t := 2) rfl <| sub_cons (t := 0) rfl <| sub_nil) <| qthen <| ?_
  refine cif rfl (fun h => ?_) (fun h => ?_)
  · refine cseq <| creg <| nq (y_build0 ti56 rfl (by kernel_rfl)) <| nq (y_move rfl) <| ?_
    refine nx0 (x_stA rfl rfl sz56 (j_len z32) (j_one (s := .slice none 0 0) rfl) b22 rfl fun w3 hf3 hb3 hs3 => ?_)
    refine nq (y_assign rfl) <| nend <| qsub (sub_cons (t := 3) rfl <| sub_cons (t := 15) rfl <| sub_cons (t := 5) rfl <| sub_cons (t := 4) rfl <| sub_cons (t := 2) rfl <| sub_cons (t := 0) rfl <| sub_nil) <| qthen <| cret <| qthen_ret <| ?_
    exact retN1 trivial rfl rfl rfl ag56 sz56 (j_len z32) hb3.cells0 ⟨⟨List.replicate 32 0, .slice none 0 0, [], _, rfl, Own.nil _ _ _ _, z32, D32nil, .inl ⟨h, rfl, rfl, rfl⟩⟩, f02.new hf3 (fun i hi => by omega)⟩
  · have h0 := Decidable.not_not.1 h
    obtain ⟨rfl, rb⟩ := hv h0
    have rb := rb.fr0 hf2
    have hn4 : 4 ≤ n := by
      rcases Nat.lt_or_ge l.length 4 with hlt | hge
      · rw [takeE, if_pos hlt] at h0; omega
      · omega
    have hbl : (l.take (n - 4)).length = n - 4 := by rw [List.length_take]; omega
    have hput : putL (l.take (n - 4)) = l := by
      rw [takeE, if_neg (by omega), hl] at h0
      by_cases hp : putL (l.take (n - 4)) = l
      · exact hp
      · rw [if_neg hp] at h0; omega
    generalize hB : l.take (n - 4) = B at rb hbl hput
    have hbad : ¬ OkJ B → ReadJ l (List.replicate 32 0) [] 2 := fun hb => .inr (.inr ⟨h0, by rw [hl, hB]; exact hb, rfl, rfl, rfl⟩)
    have hok : OkJ B → ReadJ l (imgOf B) (dsOf B) 0 := fun hb => .inr (.inl ⟨h0, by rw [hl, hB]; exact hb, by rw [hl, hB], by rw [hl, hB], rfl⟩)
    generalize hN : n - 4 = N at rb hbl
    refine cskip <| qthen <| cseq <| cseq <| creg <| nq (y_move rfl) <| nq (y_lenS rfl Try.underlying29) <| nq (y_lss rfl rfl) <| nq (y_move rfl) <| ?_
    refine nsplit 21 rfl (fun h1 => ?_) (fun h1 => ?_)
    · refine nskip rfl rfl rfl (by decide) <| nskip rfl rfl rfl (by decide) <| nskip rfl rfl rfl (by decide) <| nskip rfl rfl rfl (by decide) <| nskip rfl rfl rfl (by decide) <| nq (y_pickT rfl rfl) <| nend <| qsub (sub_cons (t := 27) rfl <| sub_cons (t := 15) rfl <| sub_cons (t := 5) rfl <| sub_cons (t := 4) rfl <| sub_cons (t := 3) rfl <| sub_cons (t := 2) rfl <| sub_cons (t := 0) rfl <| sub_nil) <| qthen <| ?_
      refine cift rfl (rfl) ?_
      refine cseq <| creg <| nq (y_build0 ti56 rfl (by kernel_rfl)) <| ?_
      refine nx0 (x_stA rfl rfl sz56 (j_len z32) (j_one (s := .slice none 0 0) rfl) b22 (rfl) fun w30 hf30 hb30 hs30 => ?_)
      refine nq (y_assign rfl) <| nend <| qsub (sub_cons (t := 3) rfl <| sub_cons (t := 27) rfl <| sub_cons (t := 15) rfl <| sub_cons (t := 5) rfl <| sub_cons (t := 4) rfl <| sub_cons (t := 2) rfl <| sub_cons (t := 0) rfl <| sub_nil) <| qthen <| cret <| qthen_ret <| ?_
      exact retN1 trivial rfl rfl rfl ag56 sz56 (j_len z32) hb30.cells0 ⟨⟨List.replicate 32 0, .slice none 0 0, [], _, rfl, Own.nil _ _ _ _, z32, D32nil, hbad (fun hb => by have := hb.len; omega)⟩, (f02).new hf30 (fun i hi => by omega)⟩
    · refine ng rfl rfl rfl (y_move rfl) <| ng rfl rfl rfl (y_lenS rfl Try.underlying29) <| ng rfl rfl rfl (y_sub rfl rfl (w64 (by omega) (by omega))) <| ng rfl rfl rfl (y_rem rfl rfl (by omega) (by omega)) <| ng rfl rfl rfl (y_neq rfl rfl) <| nq (y_pickF rfl rfl) <| nend <| qsub (sub_cons (t := 27) rfl <| sub_cons (t := 15) rfl <| sub_cons (t := 5) rfl <| sub_cons (t := 4) rfl <| sub_cons (t := 3) rfl <| sub_cons (t := 2) rfl <| sub_cons (t := 0) rfl <| sub_nil) <| qthen <| ?_
      refine cif rfl (fun h2 => ?_) (fun h2 => ?_)
      · refine cseq <| creg <| nq (y_build0 ti56 rfl (by kernel_rfl)) <| ?_
        refine nx0 (x_stA rfl rfl sz56 (j_len z32) (j_one (s := .slice none 0 0) rfl) b22 (rfl) fun w30 hf30 hb30 hs30 => ?_)
        refine nq (y_assign rfl) <| nend <| qsub (sub_cons (t := 3) rfl <| sub_cons (t := 27) rfl <| sub_cons (t := 15) rfl <| sub_cons (t := 5) rfl <| sub_cons (t := 4) rfl <| sub_cons (t := 2) rfl <| sub_cons (t := 0) rfl <| sub_nil) <| qthen <| cret <| qthen_ret <| ?_
        exact retN1 trivial rfl rfl rfl ag56 sz56 (j_len z32) hb30.cells0 ⟨⟨List.replicate 32 0, .slice none 0 0, [], _, rfl, Own.nil _ _ _ _, z32, D32nil, hbad (fun hb => h2 (by have := hb.len; have := hb.mod; omega))⟩, (f02).new hf30 (fun i hi => by omega)⟩
      · have h40 : 40 ≤ B.length := by omega
        have hmod : (B.length - 40) % 32 = 0 := by omega
        have hiL := img_len h40
        refine cskip <| qthen <| cseq <| creg <| nq (y_move rfl) <| nq (y_slBoth rfl rfl rfl Try.underlying29 sz5 (show ((4 : Nat) : Int) = 4 from rfl) (show ((36 : Nat) : Int) = 36 from rfl) ((by omega)) ((by omega))) <| ?_
        refine nx (x_call rfl Try.call67 (of _ _ _ _ (Rd.sub rb (by omega) (k := 4) (m := 32) (by omega))) ?_)
        rintro e_ w3 ⟨rfl, hf3⟩
        refine ⟨_, rfl, ?_⟩
        refine nq (y_build ti56 rfl rfl (by kernel_rfl) ((bldJ0 pl56_0 (by simp) hiL))) <| ?_
        refine nx (x_alloc ti56 fun g6 w4 hg6 hf4 hb4 => ?_)
        refine nx0 (x_stA rfl rfl sz56 (j_len hiL) (j_one (s := .slice none 0 0) rfl) hb4 rfl fun w5 hf5 hb5 hs5 => ?_)
        have f25 : Fr No w2 w5 := (hf3.trans0 hf4).new hf5 (fun i hi => by have := hf3.size; omega)
        have f05 := f02.trans0 f25
        have b25 := b22.fr0 f25
        have l25 := b22.lt
        have l6 := hb5.lt
        have s25 := f25.size
        have s3 := hf3.size
        refine nend <| qsub (sub_cons (t := 6) rfl <| sub_cons (t := 27) rfl <| sub_cons (t := 15) rfl <| sub_cons (t := 5) rfl <| sub_cons (t := 4) rfl <| sub_cons (t := 3) rfl <| sub_cons (t := 2) rfl <| sub_cons (t := 0) rfl <| sub_nil) <| qthen <| cseq <| cseq <| creg <| nq (y_assign rfl) <| nend <| qthen <| cblock <| ?_
        refine cloop2 (fun k _ => N - (40 + 32 * k)) (fun k _ => [(0, .slice A n c), (2, .pointer (some ⟨g2, 0, none⟩)), (4, .slice A N c), (6, .pointer (some ⟨g6, 0, none⟩)), (7, .int .i64 ((40 + 32 * k : Nat) : Int))]) (fun k v w' => 40 + 32 * k ≤ N ∧ Fr No w2 w' ∧ (∃ cs, Blk w' g2 56 cs ∧ cs.length = 33) ∧ Blk w' g6 56 (b8s (imgOf B) ++ [v]) ∧ Own w' w5.heap.size 23 32 v k (dc (chunks k (B.drop 40))) ∧ w5.heap.size ≤ w'.heap.size) 0 (.slice none 0 0) (⟨by omega, f25, ⟨_, b25, rfl⟩, hb5, Own.nil _ _ _ _, Nat.le_refl _⟩) (sub_cons (t := 0) rfl <| sub_cons (t := 2) rfl <| sub_cons (t := 4) rfl <| sub_cons (t := 6) rfl <| sub_cons (t := 7) rfl <| sub_nil) (fun k v w6 ⟨hk, hf6, ⟨cs2, hc2, hcl2⟩, hb6, ho6, hs6⟩ => ?_)
        refine cseq <| cseq <| creg <| nq (y_move rfl) <| nq (y_move rfl) <| nq (y_lenS rfl Try.underlying29) <| nq (y_lss rfl rfl) <| nend <| qsub (sub_cons (t := 36) rfl <| sub_cons (t := 0) rfl <| sub_cons (t := 2) rfl <| sub_cons (t := 4) rfl <| sub_cons (t := 6) rfl <| sub_cons (t := 7) rfl <| sub_nil) <| qthen <| ?_
        refine cif rfl (fun h5 => ?_) (fun h5 => ?_)
        · have hk2 : 40 + 32 * k + 32 ≤ N := by omega
          refine cskip <| qthen <| cseq <| cblock <| ?_
          refine cdrwT [7, 8, 9, 11] [(0, some 2), (1, some 2), (2, some 0), (3, some 0), (4, some 0), (5, some 0), (6, some 0), (7, none), (8, none), (9, none), (10, some 3), (11, none)] (by kernel_rfl) (by kernel_rfl) rfl (fun k w' => k ≤ 2 → Fr No w6 w') (fun _ => Fr.drew _) (fun w7 hf7 hS7 => ?_)
          have hS7 := hS7 (by omega)
          refine tq (fun k_ w_ h1_ h2_ hT_ => have hS_ := (fun _ _ (h : _ ≤ 2) hT => hT h) k_ w_ h2_ hT_; y_fld rfl fa56_1 (by decide)) <| tq (fun k_ w_ h1_ h2_ hT_ => have hS_ := (fun _ _ (h : _ ≤ 2) hT => hT h) k_ w_ h2_ hT_; y_ld1 rfl ag54 ((j_s (hb6.fr0 hS_) hiL))) <| tq1 (fun w_ hS_ => y_move rfl) <| tq1 (fun w_ hS_ => y_move rfl) <| tq1 (fun w_ hS_ => y_move rfl) <| tq1 (fun w_ hS_ => y_add rfl rfl (w64 (by omega) (by omega))) <| tq1 (fun w_ hS_ => yV (y_slBoth rfl rfl rfl Try.underlying29 sz5 (show ((40 + 32 * k : Nat) : Int) = _ by rfl) (show ((40 + 32 * k + 32 : Nat) : Int) = _ by omega) ((by omega)) ((by omega))) ((show Value.slice _ (40 + 32 * k + 32 - (40 + 32 * k)) _ = Value.slice _ 32 _ by rw [Nat.add_sub_cancel_left]))) <| ?_
          refine tx (x_call rfl Try.call67 (of _ _ _ _ (Rd.sub ((rb.fr0 hf6).fr0 hS7) (by omega) (k := 40 + 32 * k) (m := 32) (by omega))) ?_)
          rintro e_ w8 ⟨rfl, hf8⟩
          refine ⟨_, rfl, ?_⟩
          refine ⟨fun _ => hS7.trans0 hf8, ?_⟩
          have hS8 := hS7.trans0 hf8
          have hcl : (b8s ((B.drop (40 + 32 * k)).take 32)).length = 32 := by rw [b8s_length, List.length_take, List.length_drop]; omega
          refine tx (x_bsl Try.underlying54 ti23 rfl rfl rfl (by simp only [List.mem_singleton, forall_eq]; exact hcl) (by decide) (by decide) fun g9 w9 hg9 hf9 hb9 => ?_)
          have hS9 := hS8.trans0 hf9
          refine ⟨fun _ => hS9, ?_⟩
          have hb9 : Blk w9 g9 23 (dc [(B.drop (40 + 32 * k)).take 32]) := by simpa [Value.cells, dc] using hb9
          refine tx (x_app rfl rfl Try.underlying54 Try.underlying54 (by exact .inl rfl) ti23 rfl (ho6.fr0 hS9) (Src.of_blk hb9 (by rw [dc_one, hcl])) dc_oneCell (by unfold maxLen; omega) (by omega) (by have := hS9.size; omega) fun v10 w10 ho10 hf10 hv10 => ?_)
          refine ⟨fun h => absurd h (by omega), ?_⟩
          rw [← dc_append] at ho10
          have hch : chunks (k + 1) (B.drop 40) = chunks k (B.drop 40) ++ [(B.drop (40 + 32 * k)).take 32] := by rw [chunks_succ, List.drop_drop]
          rw [← hch] at ho10
          have b610 := (hb6.fr0 hS9).fr hf10 (fun hv => by have := (ho6.from hv).1; omega)
          have b210 := (hc2.fr0 hS9).fr hf10 (fun hv => by have := (ho6.from hv).1; omega)
          have f610 : Fr No w2 w10 := (hf6.trans0 hS9).new hf10 (fun i hi => by have := (ho6.from hi).1; omega)
          obtain ⟨ov10, _⟩ := own_slice1 ho10
          refine tq1 (fun w_ hS_ => y_fld rfl fa56_1 (by decide)) <| ?_
          refine tx0 (x_st1a rfl rfl sz54 ov10 b610 (by rw [j_len hiL]; decide) fun w11 hf11 b611 hs11 => ?_)
          refine ⟨fun h => absurd h (by omega), ?_⟩
          rw [Nat.zero_add, j_set hiL] at b611
          refine tend <| qsub (sub_cons (t := 36) rfl <| sub_cons (t := 0) rfl <| sub_cons (t := 2) rfl <| sub_cons (t := 4) rfl <| sub_cons (t := 6) rfl <| sub_cons (t := 7) rfl <| sub_nil) <| qblock <| qthen <| creg <| nq (y_move rfl) <| nq (yV (y_add rfl rfl (w64 (by omega) (by omega))) ((show Value.int .i64 (((40 + 32 * k : Nat) : Int) + 32) = .int .i64 ((40 + 32 * (k + 1) : Nat) : Int) by congr 1))) <| nq (y_assign rfl) <| nend <| qsub (sub_cons (t := 7) rfl <| sub_cons (t := 36) rfl <| sub_cons (t := 0) rfl <| sub_cons (t := 2) rfl <| sub_cons (t := 4) rfl <| sub_cons (t := 6) rfl <| sub_nil) <| ?_
          refine qloop2 (k + 1) v10 (sub_cons (t := 0) rfl <| sub_cons (t := 2) rfl <| sub_cons (t := 4) rfl <| sub_cons (t := 6) rfl <| sub_cons (t := 7) rfl <| sub_nil) (⟨by omega, f610.new hf11 (fun i hi => by omega), ⟨cs2, b210.fr hf11 (by omega), hcl2⟩, b611, ho10.fr hf11 (fun i hi => by have := (ho10.from hi).1; omega), by have := hS9.size; have := hf10.size; omega⟩) (by omega)
        · have hkc : k = cntOf B := by rw [cntOf]; omega
          have hds : chunks k (B.drop 40) = dsOf B := by rw [dsOf, hkc]
          rw [hds] at ho6
          have hDD := ds_D32 h40
          have hDl := ds_length B
          rw [← hkc] at hDl
          obtain ⟨A6, c6, rfl, hc6⟩ := ho6.slice
          have r6 := (Own.rd ho6).2.2
          have f06 := f02.trans0 hf6
          refine cexit <| qthen_exit <| qthen_exit <| qblock_exit <| qthen <| cseq <| creg <| nq (y_ldN rfl ag56 sz56 ((j_len hiL)) hb6.cells0) <| ?_
          refine nx (x_call rfl Try.call25 (rmay (imgOf B) A6 k c6 (dsOf B) _ hiL r6 hDD (by omega)) ?_)
          rintro e_ w7 ⟨rfl, hf7⟩
          refine ⟨_, rfl, ?_⟩
          have b67 := hb6.fr0 hf7
          have f67 := f06.trans0 hf7
          refine nq (y_assign rfl) <| nend <| qsub (sub_cons (t := 8) rfl <| sub_cons (t := 36) rfl <| sub_cons (t := 0) rfl <| sub_cons (t := 2) rfl <| sub_cons (t := 4) rfl <| sub_cons (t := 6) rfl <| sub_cons (t := 7) rfl <| sub_nil) <| qthen <| cseq <| cseq <| ?_
          refine cdrw [(0, false), (1, false), (2, false), (3, false), (6, false), (7, false), (4, true), (5, true), (8, false), (9, false)] (by kernel_rfl) (by kernel_rfl) rfl (fun w' => Fr No w7 w') (Fr.drew _) (fun w8 hf8 hS8 => ?_)
          refine sq (fun w_ hS_ => y_move rfl) <| sq (fun w_ hS_ => (y_notp rfl)) <| sq (fun w_ hS_ => y_move rfl) <| ?_
          refine ssplit 54 rfl (fun h7 => ?_) (fun h7 => ?_)
          · refine sskip rfl rfl rfl (by decide) <| sskip rfl rfl rfl (by decide) <| sskip rfl rfl rfl (by decide) <| sskip rfl rfl rfl (by decide) <| sskip rfl rfl rfl (by decide) <| sskip rfl rfl rfl (by decide) <| sq (fun w_ hS_ => y_pickT rfl rfl) <| send <| qsub (sub_cons (t := 61) rfl <| sub_cons (t := 8) rfl <| sub_cons (t := 36) rfl <| sub_cons (t := 0) rfl <| sub_cons (t := 2) rfl <| sub_cons (t := 4) rfl <| sub_cons (t := 6) rfl <| sub_cons (t := 7) rfl <| sub_nil) <| qthen <| ?_
            refine cift rfl (rfl) ?_
            refine cseq <| creg <| nq (y_build0 ti56 rfl (by kernel_rfl)) <| ?_
            refine nx0 (x_stA rfl rfl sz56 (j_len z32) (j_one (s := .slice none 0 0) rfl) ((hc2.fr0 hf7).fr0 hS8) (hcl2) fun w30 hf30 hb30 hs30 => ?_)
            refine nq (y_assign rfl) <| nend <| qsub (sub_cons (t := 3) rfl <| sub_cons (t := 61) rfl <| sub_cons (t := 8) rfl <| sub_cons (t := 36) rfl <| sub_cons (t := 0) rfl <| sub_cons (t := 2) rfl <| sub_cons (t := 4) rfl <| sub_cons (t := 6) rfl <| sub_cons (t := 7) rfl <| sub_nil) <| qthen <| cret <| qthen_ret <| ?_
            exact retN1 trivial rfl rfl rfl ag56 sz56 (j_len z32) hb30.cells0 ⟨⟨List.replicate 32 0, .slice none 0 0, [], _, rfl, Own.nil _ _ _ _, z32, D32nil, hbad (fun hb => h7 hb.may)⟩, ((f67.trans0 hS8)).new hf30 (fun i hi => by omega)⟩
          · have hJ : JMay (dsOf B) := Decidable.not_not.1 h7
            have hl7 := hJ.2
            refine sqg (o := _) rfl rfl rfl (fun w_ hS_ => y_ldN rfl ag56 sz56 ((j_len hiL)) ((b67.fr0 hS_).cells0)) <| sqg (o := _) rfl rfl rfl (fun w_ hS_ => y_move rfl) <| sqg (o := _) rfl rfl rfl (fun w_ hS_ => y_b2s rfl Try.underlying29 Try.underlying5 Try.underlying9 ((hr.fr0 (f67.trans0 hS_)))) <| ?_
            refine sxg rfl rfl rfl (x_call rfl Try.call29 (rbytes (imgOf B) A6 k c6 (dsOf B) _ hiL ((r6.fr0 hf7).fr0 hS8) hDD (by omega)) ?_)
            rintro e_ w9 ⟨v9, rfl, ho9, hf9⟩
            refine ⟨_, rfl, ?_⟩
            refine ⟨hS8.trans0 hf9, ?_⟩
            have hS9 := hS8.trans0 hf9
            obtain ⟨A9, c9, rfl, hc9⟩ := ho9.slice
            refine syg (o := _) rfl rfl rfl (hS9) (y_b2s rfl Try.underlying29 Try.underlying5 Try.underlying9 ((Own.rd ho9).2.2)) <| sqg (o := _) rfl rfl rfl (fun w_ hS_ => y_sne rfl rfl) <| sq (fun w_ hS_ => y_pickF rfl rfl) <| send <| qsub (sub_cons (t := 61) rfl <| sub_cons (t := 8) rfl <| sub_cons (t := 36) rfl <| sub_cons (t := 0) rfl <| sub_cons (t := 2) rfl <| sub_cons (t := 4) rfl <| sub_cons (t := 6) rfl <| sub_cons (t := 7) rfl <| sub_nil) <| qthen <| ?_
            refine cif rfl (fun h10 => ?_) (fun h10 => ?_)
            · refine cseq <| creg <| nq (y_build0 ti56 rfl (by kernel_rfl)) <| ?_
              refine nx0 (x_stA rfl rfl sz56 (j_len z32) (j_one (s := .slice none 0 0) rfl) ((hc2.fr0 hf7).fr0 hS9) (hcl2) fun w30 hf30 hb30 hs30 => ?_)
              refine nq (y_assign rfl) <| nend <| qsub (sub_cons (t := 3) rfl <| sub_cons (t := 61) rfl <| sub_cons (t := 8) rfl <| sub_cons (t := 36) rfl <| sub_cons (t := 0) rfl <| sub_cons (t := 2) rfl <| sub_cons (t := 4) rfl <| sub_cons (t := 6) rfl <| sub_cons (t := 7) rfl <| sub_nil) <| qthen <| cret <| qthen_ret <| ?_
              exact retN1 trivial rfl rfl rfl ag56 sz56 (j_len z32) hb30.cells0 ⟨⟨List.replicate 32 0, .slice none 0 0, [], _, rfl, Own.nil _ _ _ _, z32, D32nil, hbad (fun hb => h10 (by rw [hb.eq, hput]))⟩, ((f67.trans0 hS9)).new hf30 (fun i hi => by omega)⟩
            · have h11 := strOf_inj.1 (Decidable.not_not.1 h10)
              have hOk : OkJ B := ⟨h40, hmod, hJ, putL_inj (by rw [h11, hput])⟩
              refine cskip <| qthen <| cseq <| creg <| nq (y_ldN rfl ag56 sz56 ((j_len hiL)) ((b67.fr0 hS9).cells0)) <| ?_
              refine nx0 (x_stA rfl rfl sz56 (j_len hiL) (j_one rfl) ((hc2.fr0 hf7).fr0 hS9) hcl2 fun w12 hf12 hb12 hs12 => ?_)
              refine nq (y_assign rfl) <| nend <| qsub (sub_cons (t := 3) rfl <| sub_cons (t := 61) rfl <| sub_cons (t := 8) rfl <| sub_cons (t := 36) rfl <| sub_cons (t := 0) rfl <| sub_cons (t := 2) rfl <| sub_cons (t := 4) rfl <| sub_cons (t := 6) rfl <| sub_cons (t := 7) rfl <| sub_nil) <| qthen <| cret <| ?_
              have ho12 := ((ho6.fr0 hf7).fr0 hS9).fr hf12 (fun i hi => by have := (ho6.from hi).1; omega)
              exact retN1 trivial rfl rfl rfl ag56 sz56 (j_len hiL) hb12.cells0 ⟨⟨imgOf B, _, dsOf B, _, rfl, by rw [hDl]; exact ho12.wide (by omega), hiL, hDD, hok hOk⟩, (f67.trans0 hS9).new hf12 (fun i hi => by omega)⟩
end Go.Proofs.Ytpcgpnijhpcbeaa
