/- The model: the walks of a class. No condition. -/
import Derived.Test.YtbpbhjnkmonlbaaMv
namespace Go.Proofs.Ytbpbhjnkmonlbaa
open Go.RowKit Sl
set_option linter.unusedVariables false
set_option linter.unusedSimpArgs false
set_option maxRecDepth 10000

theorem class_calls {σ : Type} (HBp : σ → Hp → Prop) (step : Step σ) (f : FuncId) (first : List Value) (hf : callB Try.prog f = true) (hhow : ∀ s p H F b e s', HBp s H → 1 ≤ p → p ≤ 4095 → step s p = some (b, e, s') → SC Try.prog f (first ++ [N p]).toArray H F (fun v H' => v = .tuple #[N b, N e] ∧ HBp s' H')) (hbit : ∀ s p b e s', step s p = some (b, e, s') → b = 0 ∨ b = 1)
    (mb : Nat) (HM HB : Hp) (m m' : Ms) (s s' : σ) (c e : Int) (F : Frm) (hM : modH mb m HM) (hm : m.ok) (hs : HBp s HB) (hstep : classS step 7 0 1 m s = some (c, e, m', s')) :
    SC Try.prog 42 #[.pointer (some ⟨mb, 0, none⟩), .func (.func f) first.toArray #[]] (HM ++ HB) F (fun u H' => u = .tuple #[N c, N e] ∧ ∃ HM' HB', H' = HM' ++ HB' ∧ modH mb m' HM' ∧ HBp s' HB') := by
  refine sc_in (args := [.pointer (some ⟨mb, 0, none⟩), .func (.func f) first.toArray #[]]) Try.func42 rfl rfl (Nat.le_of_ble_eq_true rfl) ?_
  refine at_ks [0, 1, 4, 5, 6, 7, 8, 9, 10, 11, 22, 32] (by (try simp only [keep, lk, pd, enumE, Nat.reduceBEq, Nat.reduceAdd, cond_true, cond_false]); exact rfl) ?_
  refine at_seq ?_
  refine at_region ?_
  refine st_p rfl rfl (p_assign rfl) ?_
  refine st_p rfl rfl (p_assign rfl) ?_
  refine at_nil ?_
  refine at_ks [0, 1, 4, 5, 6, 7, 8, 9, 10, 11, 22, 32] (by (try simp only [keep, lk, pd, enumE, Nat.reduceBEq, Nat.reduceAdd, cond_true, cond_false]); exact rfl) ?_
  refine at_then ?_
  refine at_seq ?_
  refine at_region ?_
  refine st_p rfl rfl (p_assign rfl) ?_
  refine at_nil ?_
  refine at_ks [0, 1, 4, 5, 6, 7, 8, 9, 10, 11, 22, 32] (by (try simp only [keep, lk, pd, enumE, Nat.reduceBEq, Nat.reduceAdd, cond_true, cond_false]); exact rfl) ?_
  refine at_then ?_
  refine at_seq ?_
  refine at_seq ?_
  refine at_region ?_
  refine st_p rfl rfl (p_move rfl) ?_
  refine at_nil ?_
  refine at_ks [0, 1, 4, 5, 6, 7, 8, 9, 10, 11, 22, 32] (by (try simp only [keep, lk, pd, enumE, Nat.reduceBEq, Nat.reduceAdd, cond_true, cond_false]); exact rfl) ?_
  refine at_then ?_
  refine at_block ?_
  refine at_ks [0, 1, 6, 10] (by (try simp only [keep, lk, pd, enumE, Nat.reduceBEq, Nat.reduceAdd, cond_true, cond_false]); exact rfl) ?_
  refine at_loop (fun k E H => ∃ (i node : Nat) (m1 : Ms) (s1 : σ) (HM1 HB1 : Hp), E = [(0, .pointer (some ⟨mb, 0, none⟩)), (1, .func (.func f) first.toArray #[]), (6, N (node : Int)), (10, N (i : Int))] ∧ H = HM1 ++ HB1 ∧ modH mb m1 HM1 ∧ HBp s1 HB1 ∧ m1.ok ∧ i ≤ 7 ∧ 2 ^ i ≤ node ∧ node < 2 ^ (i + 1) ∧ k = 7 - i + 1 ∧ classS step (7 - i) i node m1 s1 = some (c, e, m', s')) (8) (⟨0, 1, m, s, HM, HB, rfl, rfl, hM, hs, hm, by decide, by decide, by decide, rfl, hstep⟩) ?_
  rintro k _ _ ⟨i, node, m1, s1, HM1, HB1, rfl, rfl, hM1, hs1, hm1, hi, hn1, hn2, rfl, he⟩
  refine at_seq ?_
  refine at_region ?_
  refine st_p rfl rfl (p_lss rfl rfl) ?_
  refine at_nil ?_
  refine at_ks [0, 1, 4, 5, 6, 7, 8, 9, 10, 11, 22, 32] (by (try simp only [keep, lk, pd, enumE, Nat.reduceBEq, Nat.reduceAdd, cond_true, cond_false]); exact rfl) ?_
  refine at_then ?_
  refine at_seq ?_
  refine at_cond rfl (fun ht11 => ?_) (fun ht11 => ?_)
  · (try simp only [decide_eq_true_eq, decide_eq_false_iff_not, Bool.not_eq_true', Bool.not_eq_false', Bool.not_true, Bool.not_false, Bool.or_eq_true, Bool.and_eq_true, Int.not_lt, Int.not_le] at ht11)
    have hi7 : i < 7 := by omega
    have hn7 : node < 128 := by
      have : 2 ^ (i + 1) ≤ 2 ^ 7 := Nat.pow_le_pow_right (by decide) hi7
      omega
    rw [show 7 - i = (7 - (i + 1)) + 1 by omega, classS] at he
    obtain ⟨⟨b1, e1, m2, s2⟩, hbs⟩ : ∃ r, bitS step m1 i node s1 = some r := by
      cases h : bitS step m1 i node s1 with
      | none => rw [h] at he; cases he
      | some r => exact ⟨r, rfl⟩
    rw [hbs] at he
    simp only at he
    have hb1 := bitS_b hbit hbs
    refine at_skip ?_
    refine at_then ?_
    refine at_seq ?_
    refine at_block ?_
    refine at_seq ?_
    refine at_region ?_
    refine st_p rfl rfl (p_move rfl) ?_
    refine st_p rfl rfl (p_assign rfl) ?_
    refine at_nil ?_
    refine at_ks [0, 1, 4, 5, 6, 7, 8, 9, 10, 11, 22, 32] (by (try simp only [keep, lk, pd, enumE, Nat.reduceBEq, Nat.reduceAdd, cond_true, cond_false]); exact rfl) ?_
    refine at_then ?_
    refine at_seq ?_
    refine at_region ?_
    refine st_p rfl rfl (p_move rfl) ?_
    refine st_p rfl rfl (p_move rfl) ?_
    refine st_p rfl rfl (p_move rfl) ?_
    refine st_p rfl rfl (p_move rfl) ?_
    refine st_l rfl rfl (l_callP (first := []) (H1 := HM1 ++ HB1) (H2 := []) (by rw [List.append_nil]) rfl c_69 rfl (fun F1 hF1 hs2 => bit_calls HBp step f first hf hhow mb HM1 HB1 m1 m2 i node s1 s2 b1 e1 F1 hM1 hm1 hi7 hn7 hs1 hbs)) ?_
    rintro _ _ ⟨_, ⟨rfl, HM2, HB2, rfl, hM2, hB2⟩, rfl⟩
    refine at_hp (by (try simp only [List.take_zero, List.take_succ_cons, List.drop_zero, List.drop_succ_cons, List.drop_nil, List.length_cons, List.length_nil, Nat.zero_add, Nat.reduceAdd, List.set_cons_zero, List.set_cons_succ, List.nil_append, List.cons_append, List.append_nil, pick, List.filterMap_cons, List.filterMap_nil, List.getElem?_cons_zero, List.getElem?_cons_succ]); exact rfl) ?_
    refine st_p rfl rfl (p_move rfl) ?_
    refine st_p rfl rfl (p_ext rfl rfl) ?_
    refine st_p rfl rfl (p_ext rfl rfl) ?_
    refine st_p rfl rfl (p_assign rfl) ?_
    refine st_p rfl rfl (p_assign rfl) ?_
    refine at_nil ?_
    refine at_ks [0, 1, 4, 5, 6, 7, 8, 9, 10, 11, 22, 32] (by (try simp only [keep, lk, pd, enumE, Nat.reduceBEq, Nat.reduceAdd, cond_true, cond_false]); exact rfl) ?_
    refine at_then ?_
    refine at_seq ?_
    refine at_seq ?_
    refine at_region ?_
    refine st_p rfl rfl (p_move rfl) ?_
    refine st_p rfl rfl (p_neq rfl rfl) ?_
    refine at_nil ?_
    refine at_ks [0, 1, 4, 5, 6, 7, 8, 9, 10, 11, 22, 32] (by (try simp only [keep, lk, pd, enumE, Nat.reduceBEq, Nat.reduceAdd, cond_true, cond_false]); exact rfl) ?_
    refine at_then ?_
    refine at_cond rfl (fun ht22 => ?_) (fun ht22 => ?_)
    · (try simp only [decide_eq_true_eq, decide_eq_false_iff_not, Bool.not_eq_true', Bool.not_eq_false', Bool.not_true, Bool.not_false, Bool.or_eq_true, Bool.and_eq_true, Int.not_lt, Int.not_le] at ht22)
      rw [if_neg ht22] at he
      simp only [Option.some.injEq, Prod.mk.injEq] at he
      obtain ⟨rfl, rfl, rfl, rfl⟩ := he
      refine at_seq ?_
      refine at_region ?_
      refine st_p rfl rfl (p_move rfl) ?_
      refine st_p rfl rfl (p_assign rfl) ?_
      refine st_p rfl rfl (p_assign rfl) ?_
      refine at_nil ?_
      refine at_ks [0, 1, 4, 5, 6, 7, 8, 9, 10, 11, 22, 32] (by (try simp only [keep, lk, pd, enumE, Nat.reduceBEq, Nat.reduceAdd, cond_true, cond_false]); exact rfl) ?_
      refine at_then ?_
      refine at_retc ?_
      refine at_then_r ?_
      refine at_inb_r ?_
      refine at_then_r ?_
      refine at_then_r ?_
      refine at_inb_r ?_
      refine at_then_r ?_
      exact fin_2 rfl rfl rfl (by
          exact ⟨rfl, HM2, HB2, rfl, hM2, hB2⟩)
    · (try simp only [decide_eq_true_eq, decide_eq_false_iff_not, Bool.not_eq_true', Bool.not_eq_false', Bool.not_true, Bool.not_false, Bool.or_eq_true, Bool.and_eq_true, Int.not_lt, Int.not_le] at ht22)
      rw [if_pos ht22] at he
      refine at_skip ?_
      refine at_then ?_
      refine at_region ?_
      refine st_p rfl rfl (p_move rfl) ?_
      refine st_p rfl rfl (p_mul rfl rfl (by first | exact nw64 (by omega) | exact nwu64 (by omega) | exact nwu8 (by omega) | exact nwu16 (by omega) | exact wu64 _ | exact wu8 _ | exact wi64 _ | rfl)) ?_
      refine st_p rfl rfl (p_move rfl) ?_
      refine st_p rfl rfl (p_add (r := ((2 * node + b1.toNat : Nat) : Int)) rfl rfl ((nw64 (by omega)).trans (by omega))) ?_
      refine st_p rfl rfl (p_assign rfl) ?_
      refine at_nil ?_
      refine at_ks [0, 1, 4, 5, 6, 7, 8, 9, 10, 11, 22, 32] (by (try simp only [keep, lk, pd, enumE, Nat.reduceBEq, Nat.reduceAdd, cond_true, cond_false]); exact rfl) ?_
      refine at_inb ?_
      refine at_then ?_
      refine at_region ?_
      refine st_p rfl rfl (p_add (r := ((i + 1 : Nat) : Int)) rfl rfl ((nw64 (by omega)).trans (by omega))) ?_
      refine st_p rfl rfl (p_move rfl) ?_
      refine at_nil ?_
      refine at_ks [0, 1, 4, 5, 6, 7, 8, 9, 10, 11, 22, 32] (by (try simp only [keep, lk, pd, enumE, Nat.reduceBEq, Nat.reduceAdd, cond_true, cond_false]); exact rfl) ?_
      refine at_ks [0, 1, 6, 10] (by (try simp only [keep, lk, pd, enumE, Nat.reduceBEq, Nat.reduceAdd, cond_true, cond_false]); exact rfl) ?_
      refine at_back (7 - (i + 1) + 1) (by omega) ⟨i + 1, 2 * node + b1.toNat, m2, s2, HM2, HB2, rfl, rfl, hM2, hB2, bitS_ok hm1 hi7 hbs, hi7, ?_, ?_, rfl, he⟩
      · rw [Nat.pow_succ]; omega
      · rw [Nat.pow_succ]; omega
  · (try simp only [decide_eq_true_eq, decide_eq_false_iff_not, Bool.not_eq_true', Bool.not_eq_false', Bool.not_true, Bool.not_false, Bool.or_eq_true, Bool.and_eq_true, Int.not_lt, Int.not_le] at ht11)
    obtain rfl : i = 7 := by omega
    rw [show 7 - 7 = 0 from rfl, classS] at he
    obtain ⟨g0, g1, g2, c0, c1, c2, ws, hw, rfl⟩ := hM1
    obtain ⟨w0, w1, w2, w3, w4, w5, w6, rfl⟩ := list7 hw
    refine at_exit ?_
    refine at_then_x ?_
    refine at_then_x ?_
    refine at_inb_exit ?_
    refine at_then ?_
    refine at_seq ?_
    refine at_region ?_
    refine st_p rfl rfl (p_move rfl) ?_
    refine st_p rfl rfl (p_sub rfl rfl (by first | exact nw64 (by omega) | exact nwu64 (by omega) | exact nwu8 (by omega) | exact nwu16 (by omega) | exact wu64 _ | exact wu8 _ | exact wi64 _ | rfl)) ?_
    refine st_p rfl rfl (p_assign rfl) ?_
    refine at_nil ?_
    refine at_ks [0, 1, 4, 5, 6, 7, 8, 9, 10, 11, 22, 32] (by (try simp only [keep, lk, pd, enumE, Nat.reduceBEq, Nat.reduceAdd, cond_true, cond_false]); exact rfl) ?_
    refine at_then ?_
    refine at_seq ?_
    refine at_seq ?_
    refine at_region ?_
    refine st_p rfl rfl (p_move rfl) ?_
    refine st_p rfl rfl (p_geq rfl rfl) ?_
    refine at_nil ?_
    refine at_ks [0, 1, 4, 5, 6, 7, 8, 9, 10, 11, 22, 32] (by (try simp only [keep, lk, pd, enumE, Nat.reduceBEq, Nat.reduceAdd, cond_true, cond_false]); exact rfl) ?_
    refine at_then ?_
    refine at_cond rfl (fun ht32 => ?_) (fun ht32 => ?_)
    · (try simp only [decide_eq_true_eq, decide_eq_false_iff_not, Bool.not_eq_true', Bool.not_eq_false', Bool.not_true, Bool.not_false, Bool.or_eq_true, Bool.and_eq_true, Int.not_lt, Int.not_le] at ht32)
      rw [if_pos (by omega)] at he
      simp only [Option.some.injEq, Prod.mk.injEq] at he
      obtain ⟨rfl, rfl, rfl, rfl⟩ := he
      refine at_seq ?_
      refine at_region ?_
      refine st_p rfl rfl (p_assign rfl) ?_
      refine st_p rfl rfl (p_assign rfl) ?_
      refine at_nil ?_
      refine at_ks [0, 1, 4, 5, 6, 7, 8, 9, 10, 11, 22, 32] (by (try simp only [keep, lk, pd, enumE, Nat.reduceBEq, Nat.reduceAdd, cond_true, cond_false]); exact rfl) ?_
      refine at_then ?_
      refine at_retc ?_
      refine at_then_r ?_
      exact fin_2 rfl rfl rfl (by
          exact ⟨rfl, _, HB1, rfl, ⟨g0, g1, g2, c0, c1, c2, [w0, w1, w2, w3, w4, w5, w6], rfl, rfl⟩, hs1⟩)
    · (try simp only [decide_eq_true_eq, decide_eq_false_iff_not, Bool.not_eq_true', Bool.not_eq_false', Bool.not_true, Bool.not_false, Bool.or_eq_true, Bool.and_eq_true, Int.not_lt, Int.not_le] at ht32)
      rw [if_neg (by omega)] at he
      simp only [Option.some.injEq, Prod.mk.injEq] at he
      obtain ⟨rfl, rfl, rfl, rfl⟩ := he
      have hnn : ((node : Nat) : Int) - 128 = ((node - 128 : Nat) : Int) := by omega
      rw [hnn]
      refine at_skip ?_
      refine at_then ?_
      refine at_seq ?_
      refine at_region ?_
      refine st_p rfl rfl (p_move rfl) ?_
      refine st_p rfl rfl (p_move rfl) ?_
      refine st_p rfl rfl (p_move rfl) ?_
      refine st_p rfl rfl (p_move rfl) ?_
      refine st_p rfl rfl ((by first | exact p_nil rfl | exact p_nilf rfl)) ?_
      refine st_p rfl rfl ((by first | exact p_fa0 rfl o_101_2 | exact p_fa rfl o_101_2)) ?_
      refine st_q rfl rfl (q_ob 0 rfl rfl r_3 rfl) ?_
      refine st_p rfl rfl ((by first | exact p_nil rfl | exact p_nilf rfl)) ?_
      refine st_p rfl rfl ((by first | exact p_fa0 rfl o_101_2 | exact p_fa rfl o_101_2)) ?_
      refine st_l rfl rfl (l_ob 0 rfl rfl rfl rfl rfl s_3 (by simp)) ?_
      rintro _ _ ⟨rfl, rfl⟩
      refine at_hp (by (try simp only [List.take_zero, List.take_succ_cons, List.drop_zero, List.drop_succ_cons, List.drop_nil, List.length_cons, List.length_nil, Nat.zero_add, Nat.reduceAdd, List.set_cons_zero, List.set_cons_succ, List.nil_append, List.cons_append, List.append_nil, pick, List.filterMap_cons, List.filterMap_nil, List.getElem?_cons_zero, List.getElem?_cons_succ]); exact rfl) ?_
      refine st_p rfl rfl ((by first | exact p_nil rfl | exact p_nilf rfl)) ?_
      refine st_p rfl rfl ((by first | exact p_fa0 rfl o_101_3 | exact p_fa rfl o_101_3)) ?_
      refine st_l rfl rfl (l_ob 0 rfl rfl rfl rfl rfl s_3 (by simp)) ?_
      rintro _ _ ⟨rfl, rfl⟩
      refine at_hp (by (try simp only [List.take_zero, List.take_succ_cons, List.drop_zero, List.drop_succ_cons, List.drop_nil, List.length_cons, List.length_nil, Nat.zero_add, Nat.reduceAdd, List.set_cons_zero, List.set_cons_succ, List.nil_append, List.cons_append, List.append_nil, pick, List.filterMap_cons, List.filterMap_nil, List.getElem?_cons_zero, List.getElem?_cons_succ]); exact rfl) ?_
      refine at_nil ?_
      refine at_ks [0, 1, 4, 5, 6, 7, 8, 9, 10, 11, 22, 32] (by (try simp only [keep, lk, pd, enumE, Nat.reduceBEq, Nat.reduceAdd, cond_true, cond_false]); exact rfl) ?_
      refine at_then ?_
      refine at_seq ?_
      refine at_region ?_
      refine st_p rfl rfl (p_move rfl) ?_
      refine st_p rfl rfl (p_assign rfl) ?_
      refine st_p rfl rfl (p_assign rfl) ?_
      refine at_nil ?_
      refine at_ks [0, 1, 4, 5, 6, 7, 8, 9, 10, 11, 22, 32] (by (try simp only [keep, lk, pd, enumE, Nat.reduceBEq, Nat.reduceAdd, cond_true, cond_false]); exact rfl) ?_
      refine at_then ?_
      refine at_retc ?_
      exact fin_2 rfl rfl rfl (by
          exact ⟨rfl, _, HB1, rfl, ⟨g0, g1, g2, c0, c1, c2, [w0, w1, w2, w3, w4, w5, w6], rfl, rfl⟩, hs1⟩)

/-- A class' bits that are told one by one, each handed on to 'put'. -/
def toldH {σ : Type} (tb : Nat) (pf : FuncId) (pfirst : List Value) (HPp : σ → Hp → Prop) (x : List Int × σ) (H : Hp) : Prop := ∃ (A : Option Addr) (c : Nat) (vb : Value) (L : List Int) (HP : Hp), x.1.length ≤ c ∧ c ≤ maxLen ∧ L.length = 7 ∧
  (0 < x.1.length → ∃ g off cap, A = some ⟨g, off, none⟩ ∧ vb = .slice (some ⟨g, 0, none⟩) 7 cap ∧ off + x.1.length = 7 ∧ x.1 = L.drop off) ∧ HPp x.2 HP ∧
  H = .ob tb [.slice A x.1.length c, .func (.func pf) pfirst.toArray #[]] 111 :: .sl vb 3 1 7 (ints .i64 L) :: HP

theorem next_calls {σ : Type} (HPp : σ → Hp → Prop) (put : Put σ) (pf : FuncId) (pfirst : List Value) (hpf : callB Try.prog pf = true) (hput : ∀ s p b H F s', HPp s H → put s p b = some s' → SC Try.prog pf (pfirst ++ [N p, N b]).toArray H F (fun v H' => v = .tuple #[] ∧ HPp s' H')) (tb : Nat) (x x' : List Int × σ) (p b e : Int) (H : Hp) (F : Frm) (hH : toldH tb pf pfirst HPp x H) (hstep : toldStep put x p = some (b, e, x')) :
    SC Try.prog 54 #[.pointer (some ⟨tb, 0, none⟩), N p] H F (fun v H' => v = .tuple #[N b, N e] ∧ toldH tb pf pfirst HPp x' H') := by
  obtain ⟨bs, s⟩ := x
  cases bs with
  | nil => simp [toldStep] at hstep
  | cons b0 bs => ?_
  simp only [toldStep] at hstep
  obtain ⟨_, hstep⟩ := (Option.ite_none_right_eq_some).1 hstep
  split at hstep
  · cases hstep
  rename_i s1 hs1
  simp only [Option.some.injEq, Prod.mk.injEq] at hstep
  obtain ⟨rfl, rfl, rfl⟩ := hstep
  obtain ⟨A, c, vb, L, HP, hc, hcm, hL, hA, hP, rfl⟩ := hH
  obtain ⟨g, off, cap, rfl, rfl, ho, hd⟩ := hA (by simp)
  try simp only [List.length_cons] at hc
  try simp only [List.length_cons] at ho
  try simp only [List.length_cons]
  have hget : (ints .i64 L)[off + ((0 : Int)).toNat]? = some (N b0) := by
    rw [List.getElem?_map]
    have : L[off]? = some b0 := by
      have h := congrArg (fun l => l[0]?) hd
      simp only [List.getElem?_cons_zero, List.getElem?_drop, Nat.add_zero] at h
      exact h.symm
    simp [this]
  refine sc_in (args := [.pointer (some ⟨tb, 0, none⟩), N p]) Try.func54 rfl rfl (Nat.le_of_ble_eq_true rfl) ?_
  refine at_ks [0, 1, 4, 5, 6] (by (try simp only [keep, lk, pd, enumE, Nat.reduceBEq, Nat.reduceAdd, cond_true, cond_false]); exact rfl) ?_
  refine at_seq ?_
  refine at_region ?_
  refine st_p rfl rfl (p_assign rfl) ?_
  refine st_p rfl rfl (p_assign rfl) ?_
  refine at_nil ?_
  refine at_ks [0, 1, 4, 5, 6] (by (try simp only [keep, lk, pd, enumE, Nat.reduceBEq, Nat.reduceAdd, cond_true, cond_false]); exact rfl) ?_
  refine at_then ?_
  refine at_seq ?_
  refine at_region ?_
  refine st_p rfl rfl (p_move rfl) ?_
  refine st_p rfl rfl ((by first | exact p_nil rfl | exact p_nilf rfl)) ?_
  refine st_p rfl rfl ((by first | exact p_fa0 rfl o_111_0 | exact p_fa rfl o_111_0)) ?_
  refine st_q rfl rfl ((by first | exact q_ob 0 rfl rfl r_22 (by first | rfl | assumption) | exact q_ob 1 rfl rfl r_22 (by first | rfl | assumption) | exact q_ob 2 rfl rfl r_22 (by first | rfl | assumption) | exact q_ob 3 rfl rfl r_22 (by first | rfl | assumption) | exact q_ob 4 rfl rfl r_22 (by first | rfl | assumption) | exact q_ob 5 rfl rfl r_22 (by first | rfl | assumption) | exact q_sl 0 rfl rfl r_22 (by first | rfl | assumption) | exact q_sl 1 rfl rfl r_22 (by first | rfl | assumption) | exact q_sl 2 rfl rfl r_22 (by first | rfl | assumption) | exact q_sl 3 rfl rfl r_22 (by first | rfl | assumption) | exact q_sl 4 rfl rfl r_22 (by first | rfl | assumption) | exact q_sl 5 rfl rfl r_22 (by first | rfl | assumption) | exact q_fr rfl r_22 (by assumption))) ?_
  refine st_p rfl rfl (p_iaO1 rfl rfl z_22 (by decide) (by omega)) ?_
  refine st_q rfl rfl (q_sl 1 rfl rfl r_3 hget) ?_
  refine st_p rfl rfl (p_assign rfl) ?_
  refine at_nil ?_
  refine at_ks [0, 1, 4, 5, 6] (by (try simp only [keep, lk, pd, enumE, Nat.reduceBEq, Nat.reduceAdd, cond_true, cond_false]); exact rfl) ?_
  refine at_then ?_
  refine at_seq ?_
  refine at_region ?_
  refine st_p rfl rfl (p_move rfl) ?_
  refine st_p rfl rfl (p_move rfl) ?_
  refine st_p rfl rfl ((by first | exact p_nil rfl | exact p_nilf rfl)) ?_
  refine st_p rfl rfl ((by first | exact p_fa0 rfl o_111_0 | exact p_fa rfl o_111_0)) ?_
  refine st_q rfl rfl ((by first | exact q_ob 0 rfl rfl r_22 (by first | rfl | assumption) | exact q_ob 1 rfl rfl r_22 (by first | rfl | assumption) | exact q_ob 2 rfl rfl r_22 (by first | rfl | assumption) | exact q_ob 3 rfl rfl r_22 (by first | rfl | assumption) | exact q_ob 4 rfl rfl r_22 (by first | rfl | assumption) | exact q_ob 5 rfl rfl r_22 (by first | rfl | assumption) | exact q_sl 0 rfl rfl r_22 (by first | rfl | assumption) | exact q_sl 1 rfl rfl r_22 (by first | rfl | assumption) | exact q_sl 2 rfl rfl r_22 (by first | rfl | assumption) | exact q_sl 3 rfl rfl r_22 (by first | rfl | assumption) | exact q_sl 4 rfl rfl r_22 (by first | rfl | assumption) | exact q_sl 5 rfl rfl r_22 (by first | rfl | assumption) | exact q_fr rfl r_22 (by assumption))) ?_
  refine st_p rfl rfl (p_sliceL rfl rfl z_22 (by decide) (by omega)) ?_
  refine st_p rfl rfl ((by first | exact p_nil rfl | exact p_nilf rfl)) ?_
  refine st_p rfl rfl ((by first | exact p_fa0 rfl o_111_0 | exact p_fa rfl o_111_0)) ?_
  refine st_l rfl rfl ((by first | exact l_ob 0 rfl rfl rfl (by first | rfl | assumption) (by first | rfl | assumption) s_22 (by first | decide | omega | (simp only [List.length_cons, List.length_nil]; omega) | (simp; omega) | (simp; done)) | exact l_ob 1 rfl rfl rfl (by first | rfl | assumption) (by first | rfl | assumption) s_22 (by first | decide | omega | (simp only [List.length_cons, List.length_nil]; omega) | (simp; omega) | (simp; done)) | exact l_ob 2 rfl rfl rfl (by first | rfl | assumption) (by first | rfl | assumption) s_22 (by first | decide | omega | (simp only [List.length_cons, List.length_nil]; omega) | (simp; omega) | (simp; done)) | exact l_ob 3 rfl rfl rfl (by first | rfl | assumption) (by first | rfl | assumption) s_22 (by first | decide | omega | (simp only [List.length_cons, List.length_nil]; omega) | (simp; omega) | (simp; done)) | exact l_ob 4 rfl rfl rfl (by first | rfl | assumption) (by first | rfl | assumption) s_22 (by first | decide | omega | (simp only [List.length_cons, List.length_nil]; omega) | (simp; omega) | (simp; done)) | exact l_ob 5 rfl rfl rfl (by first | rfl | assumption) (by first | rfl | assumption) s_22 (by first | decide | omega | (simp only [List.length_cons, List.length_nil]; omega) | (simp; omega) | (simp; done)) | exact l_sl 0 rfl rfl rfl (by first | rfl | assumption) (by first | rfl | assumption) s_22 (by first | decide | omega | (simp only [List.length_cons, List.length_nil]; omega) | (simp; omega) | (simp; done)) | exact l_sl 1 rfl rfl rfl (by first | rfl | assumption) (by first | rfl | assumption) s_22 (by first | decide | omega | (simp only [List.length_cons, List.length_nil]; omega) | (simp; omega) | (simp; done)) | exact l_sl 2 rfl rfl rfl (by first | rfl | assumption) (by first | rfl | assumption) s_22 (by first | decide | omega | (simp only [List.length_cons, List.length_nil]; omega) | (simp; omega) | (simp; done)) | exact l_sl 3 rfl rfl rfl (by first | rfl | assumption) (by first | rfl | assumption) s_22 (by first | decide | omega | (simp only [List.length_cons, List.length_nil]; omega) | (simp; omega) | (simp; done)) | exact l_sl 4 rfl rfl rfl (by first | rfl | assumption) (by first | rfl | assumption) s_22 (by first | decide | omega | (simp only [List.length_cons, List.length_nil]; omega) | (simp; omega) | (simp; done)) | exact l_sl 5 rfl rfl rfl (by first | rfl | assumption) (by first | rfl | assumption) s_22 (by first | decide | omega | (simp only [List.length_cons, List.length_nil]; omega) | (simp; omega) | (simp; done)))) ?_
  rintro _ _ ⟨rfl, rfl⟩
  refine at_hp (by (try simp only [List.take_zero, List.take_succ_cons, List.drop_zero, List.drop_succ_cons, List.drop_nil, List.length_cons, List.length_nil, Nat.zero_add, Nat.reduceAdd, List.set_cons_zero, List.set_cons_succ, List.nil_append, List.cons_append, List.append_nil, pick, List.filterMap_cons, List.filterMap_nil, List.getElem?_cons_zero, List.getElem?_cons_succ]); exact rfl) ?_
  refine at_nil ?_
  refine at_ks [0, 1, 4, 5, 6] (by (try simp only [keep, lk, pd, enumE, Nat.reduceBEq, Nat.reduceAdd, cond_true, cond_false]); exact rfl) ?_
  refine at_then ?_
  refine at_seq ?_
  refine at_region ?_
  refine st_p rfl rfl (p_move rfl) ?_
  refine st_p rfl rfl ((by first | exact p_nil rfl | exact p_nilf rfl)) ?_
  refine st_p rfl rfl ((by first | exact p_fa0 rfl o_111_1 | exact p_fa rfl o_111_1)) ?_
  refine st_q rfl rfl ((by first | exact q_ob 0 rfl rfl r_66 (by first | rfl | assumption) | exact q_ob 1 rfl rfl r_66 (by first | rfl | assumption) | exact q_ob 2 rfl rfl r_66 (by first | rfl | assumption) | exact q_ob 3 rfl rfl r_66 (by first | rfl | assumption) | exact q_ob 4 rfl rfl r_66 (by first | rfl | assumption) | exact q_ob 5 rfl rfl r_66 (by first | rfl | assumption) | exact q_sl 0 rfl rfl r_66 (by first | rfl | assumption) | exact q_sl 1 rfl rfl r_66 (by first | rfl | assumption) | exact q_sl 2 rfl rfl r_66 (by first | rfl | assumption) | exact q_sl 3 rfl rfl r_66 (by first | rfl | assumption) | exact q_sl 4 rfl rfl r_66 (by first | rfl | assumption) | exact q_sl 5 rfl rfl r_66 (by first | rfl | assumption) | exact q_fr rfl r_66 (by assumption))) ?_
  refine st_p rfl rfl (p_move rfl) ?_
  refine st_p rfl rfl (p_move rfl) ?_
  refine st_l rfl rfl (l_callP (first := pfirst) (H1 := HP) (H2 := [_, _]) (List.perm_append_comm (l₁ := [_, _])) rfl hpf rfl (fun F1 hF1 hs2 => hput s p b0 HP F1 s1 hP hs1)) ?_
  rintro _ _ ⟨HP1, ⟨rfl, hP1⟩, rfl⟩
  refine at_hp (by (try simp only [List.take_zero, List.take_succ_cons, List.drop_zero, List.drop_succ_cons, List.drop_nil, List.length_cons, List.length_nil, Nat.zero_add, Nat.reduceAdd, List.set_cons_zero, List.set_cons_succ, List.nil_append, List.cons_append, List.append_nil, pick, List.filterMap_cons, List.filterMap_nil, List.getElem?_cons_zero, List.getElem?_cons_succ]); exact rfl) ?_
  refine at_perm List.perm_append_comm ?_
  refine at_hp (by (try simp only [List.take_zero, List.take_succ_cons, List.drop_zero, List.drop_succ_cons, List.drop_nil, List.length_cons, List.length_nil, Nat.zero_add, Nat.reduceAdd, List.set_cons_zero, List.set_cons_succ, List.nil_append, List.cons_append, List.append_nil, pick, List.filterMap_cons, List.filterMap_nil, List.getElem?_cons_zero, List.getElem?_cons_succ]); exact rfl) ?_
  refine at_nil ?_
  refine at_ks [0, 1, 4, 5, 6] (by (try simp only [keep, lk, pd, enumE, Nat.reduceBEq, Nat.reduceAdd, cond_true, cond_false]); exact rfl) ?_
  refine at_then ?_
  refine at_seq ?_
  refine at_region ?_
  refine st_p rfl rfl (p_move rfl) ?_
  refine st_p rfl rfl (p_assign rfl) ?_
  refine st_p rfl rfl (p_assign rfl) ?_
  refine at_nil ?_
  refine at_ks [0, 1, 4, 5, 6] (by (try simp only [keep, lk, pd, enumE, Nat.reduceBEq, Nat.reduceAdd, cond_true, cond_false]); exact rfl) ?_
  refine at_then ?_
  refine at_retc ?_
  exact fin_2 rfl rfl rfl (by
      refine ⟨rfl, (if c = (1 : Int).toNat then some ⟨g, off, none⟩ else Option.map (fun x : Addr => x.add ((1 : Int).toNat * 1)) (some ⟨g, off, none⟩)), c - 1, .slice (some ⟨g, 0, none⟩) 7 cap, L, HP1, by simp only; omega, by omega, hL, ?_, hP1, ?_⟩
      · intro h0
        simp only at h0
        refine ⟨g, off + 1, cap, ?_, rfl, by simp only; omega, ?_⟩
        · rw [if_neg (by simp; omega)]
          simp [add_at]
        · have h := congrArg (fun l => l.drop 1) hd
          simpa [List.drop_drop] using h
      · simp)

/-- Chances that are gathered. -/
def tracH (tb : Nat) (l : List Int) (H : Hp) : Prop := ∃ v, H = [.ob tb [v] 95, .sl v 3 1 l.length (ints .i64 l)]
def tracP : Put (List Int) := fun l p _ => if l.length < 1000000000 then some (l ++ [p]) else none

theorem add_calls (tb : Nat) (l l' : List Int) (p b : Int) (H : Hp) (F : Frm) (hH : tracH tb l H) (h : tracP l p b = some l') : SC Try.prog 49 #[.pointer (some ⟨tb, 0, none⟩), N p, N b] H F (fun v H' => v = .tuple #[] ∧ tracH tb l' H') := by
  obtain ⟨v, rfl⟩ := hH
  unfold tracP at h
  obtain ⟨hl, h⟩ := (Option.ite_none_right_eq_some).1 h
  simp only [Option.some.injEq] at h
  subst h
  refine sc_in (args := [.pointer (some ⟨tb, 0, none⟩), N p, N b]) Try.func49 rfl rfl (Nat.le_of_ble_eq_true rfl) ?_
  refine at_ks [0, 1] (by (try simp only [keep, lk, pd, enumE, Nat.reduceBEq, Nat.reduceAdd, cond_true, cond_false]); exact rfl) ?_
  refine at_region ?_
  refine st_p rfl rfl (p_move rfl) ?_
  refine st_p rfl rfl (p_move rfl) ?_
  refine st_p rfl rfl ((by first | exact p_nil rfl | exact p_nilf rfl)) ?_
  refine st_p rfl rfl ((by first | exact p_fa0 rfl o_95_0 | exact p_fa rfl o_95_0)) ?_
  refine st_q rfl rfl ((by first | exact q_ob 0 rfl rfl r_22 (by first | rfl | assumption) | exact q_ob 1 rfl rfl r_22 (by first | rfl | assumption) | exact q_ob 2 rfl rfl r_22 (by first | rfl | assumption) | exact q_ob 3 rfl rfl r_22 (by first | rfl | assumption) | exact q_ob 4 rfl rfl r_22 (by first | rfl | assumption) | exact q_ob 5 rfl rfl r_22 (by first | rfl | assumption) | exact q_sl 0 rfl rfl r_22 (by first | rfl | assumption) | exact q_sl 1 rfl rfl r_22 (by first | rfl | assumption) | exact q_sl 2 rfl rfl r_22 (by first | rfl | assumption) | exact q_sl 3 rfl rfl r_22 (by first | rfl | assumption) | exact q_sl 4 rfl rfl r_22 (by first | rfl | assumption) | exact q_sl 5 rfl rfl r_22 (by first | rfl | assumption) | exact q_fr rfl r_22 (by assumption))) ?_
  refine st_p rfl rfl (p_move rfl) ?_
  refine st_l rfl rfl (l_bsV [_] _ rfl e_22 (by decide) (by decide) rfl (by simp [Value.cells]) (by simp only [List.flatMap_cons, List.flatMap_nil, Value.cells, List.nil_append, List.cons_append, List.append_nil]; exact rfl)) ?_
  rintro _ _ ⟨b12, rfl, rfl⟩
  refine at_hp (by (try simp only [List.take_zero, List.take_succ_cons, List.drop_zero, List.drop_succ_cons, List.drop_nil, List.length_cons, List.length_nil, Nat.zero_add, Nat.reduceAdd, List.set_cons_zero, List.set_cons_succ, List.nil_append, List.cons_append, List.append_nil, pick, List.filterMap_cons, List.filterMap_nil, List.getElem?_cons_zero, List.getElem?_cons_succ]); exact rfl) ?_
  refine st_l rfl rfl ((by first | exact l_app 1 0 rfl rfl e_22 rfl (by decide) rfl rfl (by first | rfl | (simp; done)) (by simp [Value.oneCell']) (by decide) (by first | omega | (simp only [List.length_append, List.length_cons, List.length_nil]; omega)) (by first | decide | omega) | exact l_app 2 0 rfl rfl e_22 rfl (by decide) rfl rfl (by first | rfl | (simp; done)) (by simp [Value.oneCell']) (by decide) (by first | omega | (simp only [List.length_append, List.length_cons, List.length_nil]; omega)) (by first | decide | omega) | exact l_app 3 0 rfl rfl e_22 rfl (by decide) rfl rfl (by first | rfl | (simp; done)) (by simp [Value.oneCell']) (by decide) (by first | omega | (simp only [List.length_append, List.length_cons, List.length_nil]; omega)) (by first | decide | omega) | exact l_app 4 0 rfl rfl e_22 rfl (by decide) rfl rfl (by first | rfl | (simp; done)) (by simp [Value.oneCell']) (by decide) (by first | omega | (simp only [List.length_append, List.length_cons, List.length_nil]; omega)) (by first | decide | omega) | exact l_app 5 0 rfl rfl e_22 rfl (by decide) rfl rfl (by first | rfl | (simp; done)) (by simp [Value.oneCell']) (by decide) (by first | omega | (simp only [List.length_append, List.length_cons, List.length_nil]; omega)) (by first | decide | omega) | exact l_app 0 1 rfl rfl e_22 rfl (by decide) rfl rfl (by first | rfl | (simp; done)) (by simp [Value.oneCell']) (by decide) (by first | omega | (simp only [List.length_append, List.length_cons, List.length_nil]; omega)) (by first | decide | omega) | exact l_app 2 1 rfl rfl e_22 rfl (by decide) rfl rfl (by first | rfl | (simp; done)) (by simp [Value.oneCell']) (by decide) (by first | omega | (simp only [List.length_append, List.length_cons, List.length_nil]; omega)) (by first | decide | omega) | exact l_app 3 1 rfl rfl e_22 rfl (by decide) rfl rfl (by first | rfl | (simp; done)) (by simp [Value.oneCell']) (by decide) (by first | omega | (simp only [List.length_append, List.length_cons, List.length_nil]; omega)) (by first | decide | omega) | exact l_app 4 1 rfl rfl e_22 rfl (by decide) rfl rfl (by first | rfl | (simp; done)) (by simp [Value.oneCell']) (by decide) (by first | omega | (simp only [List.length_append, List.length_cons, List.length_nil]; omega)) (by first | decide | omega) | exact l_app 5 1 rfl rfl e_22 rfl (by decide) rfl rfl (by first | rfl | (simp; done)) (by simp [Value.oneCell']) (by decide) (by first | omega | (simp only [List.length_append, List.length_cons, List.length_nil]; omega)) (by first | decide | omega) | exact l_app 0 2 rfl rfl e_22 rfl (by decide) rfl rfl (by first | rfl | (simp; done)) (by simp [Value.oneCell']) (by decide) (by first | omega | (simp only [List.length_append, List.length_cons, List.length_nil]; omega)) (by first | decide | omega) | exact l_app 1 2 rfl rfl e_22 rfl (by decide) rfl rfl (by first | rfl | (simp; done)) (by simp [Value.oneCell']) (by decide) (by first | omega | (simp only [List.length_append, List.length_cons, List.length_nil]; omega)) (by first | decide | omega) | exact l_app 3 2 rfl rfl e_22 rfl (by decide) rfl rfl (by first | rfl | (simp; done)) (by simp [Value.oneCell']) (by decide) (by first | omega | (simp only [List.length_append, List.length_cons, List.length_nil]; omega)) (by first | decide | omega) | exact l_app 4 2 rfl rfl e_22 rfl (by decide) rfl rfl (by first | rfl | (simp; done)) (by simp [Value.oneCell']) (by decide) (by first | omega | (simp only [List.length_append, List.length_cons, List.length_nil]; omega)) (by first | decide | omega) | exact l_app 5 2 rfl rfl e_22 rfl (by decide) rfl rfl (by first | rfl | (simp; done)) (by simp [Value.oneCell']) (by decide) (by first | omega | (simp only [List.length_append, List.length_cons, List.length_nil]; omega)) (by first | decide | omega))) ?_
  rintro _ _ ⟨g13, c13, rfl, rfl⟩
  refine at_hp (by (try simp only [List.take_zero, List.take_succ_cons, List.drop_zero, List.drop_succ_cons, List.drop_nil, List.length_cons, List.length_nil, Nat.zero_add, Nat.reduceAdd, List.set_cons_zero, List.set_cons_succ, List.nil_append, List.cons_append, List.append_nil, pick, List.filterMap_cons, List.filterMap_nil, List.getElem?_cons_zero, List.getElem?_cons_succ]); exact rfl) ?_
  refine at_drop ?_
  refine st_p rfl rfl ((by first | exact p_nil rfl | exact p_nilf rfl)) ?_
  refine st_p rfl rfl ((by first | exact p_fa0 rfl o_95_0 | exact p_fa rfl o_95_0)) ?_
  refine st_l rfl rfl ((by first | exact l_ob 0 rfl rfl rfl (by first | rfl | assumption) (by first | rfl | assumption) s_22 (by first | decide | omega | (simp only [List.length_cons, List.length_nil]; omega) | (simp; omega) | (simp; done)) | exact l_ob 1 rfl rfl rfl (by first | rfl | assumption) (by first | rfl | assumption) s_22 (by first | decide | omega | (simp only [List.length_cons, List.length_nil]; omega) | (simp; omega) | (simp; done)) | exact l_ob 2 rfl rfl rfl (by first | rfl | assumption) (by first | rfl | assumption) s_22 (by first | decide | omega | (simp only [List.length_cons, List.length_nil]; omega) | (simp; omega) | (simp; done)) | exact l_ob 3 rfl rfl rfl (by first | rfl | assumption) (by first | rfl | assumption) s_22 (by first | decide | omega | (simp only [List.length_cons, List.length_nil]; omega) | (simp; omega) | (simp; done)) | exact l_ob 4 rfl rfl rfl (by first | rfl | assumption) (by first | rfl | assumption) s_22 (by first | decide | omega | (simp only [List.length_cons, List.length_nil]; omega) | (simp; omega) | (simp; done)) | exact l_ob 5 rfl rfl rfl (by first | rfl | assumption) (by first | rfl | assumption) s_22 (by first | decide | omega | (simp only [List.length_cons, List.length_nil]; omega) | (simp; omega) | (simp; done)) | exact l_sl 0 rfl rfl rfl (by first | rfl | assumption) (by first | rfl | assumption) s_22 (by first | decide | omega | (simp only [List.length_cons, List.length_nil]; omega) | (simp; omega) | (simp; done)) | exact l_sl 1 rfl rfl rfl (by first | rfl | assumption) (by first | rfl | assumption) s_22 (by first | decide | omega | (simp only [List.length_cons, List.length_nil]; omega) | (simp; omega) | (simp; done)) | exact l_sl 2 rfl rfl rfl (by first | rfl | assumption) (by first | rfl | assumption) s_22 (by first | decide | omega | (simp only [List.length_cons, List.length_nil]; omega) | (simp; omega) | (simp; done)) | exact l_sl 3 rfl rfl rfl (by first | rfl | assumption) (by first | rfl | assumption) s_22 (by first | decide | omega | (simp only [List.length_cons, List.length_nil]; omega) | (simp; omega) | (simp; done)) | exact l_sl 4 rfl rfl rfl (by first | rfl | assumption) (by first | rfl | assumption) s_22 (by first | decide | omega | (simp only [List.length_cons, List.length_nil]; omega) | (simp; omega) | (simp; done)) | exact l_sl 5 rfl rfl rfl (by first | rfl | assumption) (by first | rfl | assumption) s_22 (by first | decide | omega | (simp only [List.length_cons, List.length_nil]; omega) | (simp; omega) | (simp; done)))) ?_
  rintro _ _ ⟨rfl, rfl⟩
  refine at_hp (by (try simp only [List.take_zero, List.take_succ_cons, List.drop_zero, List.drop_succ_cons, List.drop_nil, List.length_cons, List.length_nil, Nat.zero_add, Nat.reduceAdd, List.set_cons_zero, List.set_cons_succ, List.nil_append, List.cons_append, List.append_nil, pick, List.filterMap_cons, List.filterMap_nil, List.getElem?_cons_zero, List.getElem?_cons_succ]); exact rfl) ?_
  refine at_nil ?_
  refine at_ks [0, 1] (by (try simp only [keep, lk, pd, enumE, Nat.reduceBEq, Nat.reduceAdd, cond_true, cond_false]); exact rfl) ?_
  exact fin_n rfl (by
      exact ⟨rfl, _, by simp [ints]; rfl⟩)

end Go.Proofs.Ytbpbhjnkmonlbaa