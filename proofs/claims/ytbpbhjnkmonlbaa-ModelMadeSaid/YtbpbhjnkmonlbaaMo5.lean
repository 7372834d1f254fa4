/- Traces, bytes and parts by the model: walks. No condition. -/
import Derived.Test.YtbpbhjnkmonlbaaMu
namespace Go.Proofs.Ytbpbhjnkmonlbaa
open Go.RowKit Sl
set_option linter.unusedVariables false
set_option linter.unusedSimpArgs false
set_option maxRecDepth 10000

theorem trace_calls (A : Option Addr) (n ca : Nat) (cs : List Int) (r : List Int) (F : Frm) (hn : cs.length = n) (h6 : n ≤ 1000000000) (hx : FV F A (ints .i64 cs)) (h : traceGo cs ms0 [] = some r) :
    SC Try.prog 16 #[.slice A n ca] [] F (fun u H => H = [.sl u 3 1 r.length (ints .i64 r)]) := by
  refine sc_in (args := [.slice A n ca]) Try.func16 rfl rfl (Nat.le_of_ble_eq_true rfl) ?_
  refine at_ks [0, 2, 3, 4, 6, 10, 11, 12, 13, 21] (by (try simp only [keep, lk, pd, enumE, Nat.reduceBEq, Nat.reduceAdd, cond_true, cond_false]); exact rfl) ?_
  refine at_seq ?_
  refine at_region ?_
  refine st_p rfl rfl (p_assign rfl) ?_
  refine at_nil ?_
  refine at_ks [0, 2, 3, 4, 6, 10, 11, 12, 13, 21] (by (try simp only [keep, lk, pd, enumE, Nat.reduceBEq, Nat.reduceAdd, cond_true, cond_false]); exact rfl) ?_
  refine at_then ?_
  refine at_seq ?_
  refine at_region ?_
  refine st_l rfl rfl (l_callP (first := []) (H1 := []) (H2 := _) (List.Perm.refl _) rfl c_23 rfl (fun F1 hF1 hs1 => made_calls F1)) ?_
  rintro _ _ ⟨HM, ⟨mb, rfl, hM⟩, rfl⟩
  refine at_hp (by (try simp only [List.take_zero, List.take_succ_cons, List.drop_zero, List.drop_succ_cons, List.drop_nil, List.length_cons, List.length_nil, Nat.zero_add, Nat.reduceAdd, List.set_cons_zero, List.set_cons_succ, List.nil_append, List.cons_append, List.append_nil, pick, List.filterMap_cons, List.filterMap_nil, List.getElem?_cons_zero, List.getElem?_cons_succ]); exact rfl) ?_
  refine st_p rfl rfl (p_build (vs := []) (cs := #[.slice none 0 0]) rfl (fun _ => by kernel_rfl)) ?_
  refine st_l rfl rfl (l_box [.slice none 0 0] rfl rfl) ?_
  rintro _ _ ⟨b9, rfl, rfl⟩
  refine at_hp (by (try simp only [List.take_zero, List.take_succ_cons, List.drop_zero, List.drop_succ_cons, List.drop_nil, List.length_cons, List.length_nil, Nat.zero_add, Nat.reduceAdd, List.set_cons_zero, List.set_cons_succ, List.nil_append, List.cons_append, List.append_nil, pick, List.filterMap_cons, List.filterMap_nil, List.getElem?_cons_zero, List.getElem?_cons_succ]); exact rfl) ?_
  refine st_p rfl rfl (p_assign rfl) ?_
  refine st_p rfl rfl (p_assign rfl) ?_
  refine at_nil ?_
  refine at_ks [0, 2, 3, 4, 6, 10, 11, 12, 13, 21] (by (try simp only [keep, lk, pd, enumE, Nat.reduceBEq, Nat.reduceAdd, cond_true, cond_false]); exact rfl) ?_
  refine at_then ?_
  refine at_seq ?_
  refine at_seq ?_
  refine at_region ?_
  refine st_p rfl rfl (p_move rfl) ?_
  refine st_p rfl rfl (p_len rfl m_22) ?_
  refine st_p rfl rfl (p_move rfl) ?_
  refine at_nil ?_
  refine at_ks [0, 2, 3, 4, 6, 10, 11, 12, 13, 21] (by (try simp only [keep, lk, pd, enumE, Nat.reduceBEq, Nat.reduceAdd, cond_true, cond_false]); exact rfl) ?_
  refine at_then ?_
  refine at_block ?_
  refine at_ks [3, 4, 10, 11, 12] (by (try simp only [keep, lk, pd, enumE, Nat.reduceBEq, Nat.reduceAdd, cond_true, cond_false]); exact rfl) ?_
  refine at_nilsl 3 1 ?_
  refine at_perm (perm_two _ _ _) ?_
  refine at_loop (fun k E H => ∃ (i : Nat) (m1 : Ms) (l1 : List Int) (HM1 HT1 : Hp), E = [(3, .pointer (some ⟨mb, 0, none⟩)), (4, .pointer (some ⟨b9, 0, none⟩)), (10, .slice A n ca), (11, N (n : Nat)), (12, N (i : Int))] ∧ H = HM1 ++ HT1 ∧ modH mb m1 HM1 ∧ tracH b9 l1 HT1 ∧ m1.ok ∧ i ≤ n ∧ k + i = n + 1 ∧ traceGo (cs.drop i) m1 l1 = some r) (n + 1) (⟨0, ms0, [], HM, _, rfl, rfl, hM, ⟨_, rfl⟩, ms0_ok, by omega, by omega, by rw [List.drop_zero]; exact h⟩) ?_
  rintro k _ _ ⟨i, m1, l1, HM1, HT1, rfl, rfl, hM1, hT1, hm1, hi, hk, he⟩
  refine at_seq ?_
  refine at_region ?_
  refine st_p rfl rfl (p_lss rfl rfl) ?_
  refine at_nil ?_
  refine at_ks [0, 2, 3, 4, 6, 10, 11, 12, 13, 21] (by (try simp only [keep, lk, pd, enumE, Nat.reduceBEq, Nat.reduceAdd, cond_true, cond_false]); exact rfl) ?_
  refine at_then ?_
  refine at_seq ?_
  refine at_cond rfl (fun ht13 => ?_) (fun ht13 => ?_)
  · (try simp only [decide_eq_true_eq, decide_eq_false_iff_not, Bool.not_eq_true', Bool.not_eq_false', Bool.not_true, Bool.not_false, Bool.or_eq_true, Bool.and_eq_true, Int.not_lt, Int.not_le] at ht13)
    obtain ⟨ba, oa, rfl, hga⟩ := hx.int (i := (i : Int)) (by omega) (by omega)
    rw [drop_gi (by omega), traceGo] at he
    refine at_skip ?_
    refine at_then ?_
    refine at_seq ?_
    refine at_block ?_
    refine at_seq ?_
    refine at_region ?_
    refine st_p rfl rfl ((by first | exact p_ia1 rfl rfl z_22 (by first | decide | omega) (by first | decide | omega) | exact p_iaN rfl rfl z_22 (by first | decide | omega) (by first | decide | omega) | exact p_iaO1 rfl rfl z_22 (by first | decide | omega) (by first | decide | omega) | exact p_iaO rfl rfl z_22 (by first | decide | omega) (by first | decide | omega))) ?_
    refine st_q rfl rfl ((by first | exact q_ob 0 rfl rfl r_3 (by first | rfl | assumption) | exact q_ob 1 rfl rfl r_3 (by first | rfl | assumption) | exact q_ob 2 rfl rfl r_3 (by first | rfl | assumption) | exact q_ob 3 rfl rfl r_3 (by first | rfl | assumption) | exact q_ob 4 rfl rfl r_3 (by first | rfl | assumption) | exact q_ob 5 rfl rfl r_3 (by first | rfl | assumption) | exact q_sl 0 rfl rfl r_3 (by first | rfl | assumption) | exact q_sl 1 rfl rfl r_3 (by first | rfl | assumption) | exact q_sl 2 rfl rfl r_3 (by first | rfl | assumption) | exact q_sl 3 rfl rfl r_3 (by first | rfl | assumption) | exact q_sl 4 rfl rfl r_3 (by first | rfl | assumption) | exact q_sl 5 rfl rfl r_3 (by first | rfl | assumption) | exact q_fr rfl r_3 (by assumption))) ?_
    refine st_p rfl rfl (p_assign rfl) ?_
    refine at_nil ?_
    refine at_ks [0, 2, 3, 4, 6, 10, 11, 12, 13, 21] (by (try simp only [keep, lk, pd, enumE, Nat.reduceBEq, Nat.reduceAdd, cond_true, cond_false]); exact rfl) ?_
    refine at_then ?_
    refine at_seq ?_
    refine at_seq ?_
    refine at_region ?_
    refine st_p rfl rfl (p_move rfl) ?_
    refine st_p rfl rfl (p_lss rfl rfl) ?_
    refine st_p rfl rfl (p_move rfl) ?_
    refine at_split 18 rfl (fun ht18 => ?_) (fun ht18 => ?_)
    · (try simp only [decide_eq_true_eq, decide_eq_false_iff_not, Bool.not_eq_true', Bool.not_eq_false', Bool.not_true, Bool.not_false, Bool.or_eq_true, Bool.and_eq_true, Int.not_lt, Int.not_le] at ht18)
      rw [if_neg (by omega)] at he
      simp only [Option.some.injEq] at he
      subst he
      refine sg_no rfl rfl ?_
      refine sg_no rfl rfl ?_
      refine st_p rfl rfl ((by first | exact p_pick_t rfl rfl | exact p_pick_f rfl rfl)) ?_
      refine at_nil ?_
      refine at_ks [0, 2, 3, 4, 6, 10, 11, 12, 13, 21] (by (try simp only [keep, lk, pd, enumE, Nat.reduceBEq, Nat.reduceAdd, cond_true, cond_false]); exact rfl) ?_
      refine at_then ?_
      refine at_cond_t rfl ?_
      try (rw [if_neg (by omega)] at he
           simp only [Option.some.injEq] at he
           subst he)
      refine at_seq ?_
      refine at_region ?_
      refine st_p rfl rfl (p_assign rfl) ?_
      refine at_nil ?_
      refine at_ks [0, 2, 3, 4, 6, 10, 11, 12, 13, 21] (by (try simp only [keep, lk, pd, enumE, Nat.reduceBEq, Nat.reduceAdd, cond_true, cond_false]); exact rfl) ?_
      refine at_then ?_
      refine at_retc ?_
      refine at_then_r ?_
      refine at_inb_r ?_
      refine at_then_r ?_
      refine at_then_r ?_
      refine at_inb_r ?_
      refine at_then_r ?_
      refine at_re [] (by decide) ?_
      refine at_nilsl 3 1 ?_
      exact fin_1 rfl rfl (by
          rfl)
    · (try simp only [decide_eq_true_eq, decide_eq_false_iff_not, Bool.not_eq_true', Bool.not_eq_false', Bool.not_true, Bool.not_false, Bool.or_eq_true, Bool.and_eq_true, Int.not_lt, Int.not_le] at ht18)
      refine sg_p rfl rfl (p_move rfl) ?_
      refine sg_p rfl rfl (p_geq rfl rfl) ?_
      refine st_p rfl rfl ((by first | exact p_pick_t rfl rfl | exact p_pick_f rfl rfl)) ?_
      refine at_nil ?_
      refine at_ks [0, 2, 3, 4, 6, 10, 11, 12, 13, 21] (by (try simp only [keep, lk, pd, enumE, Nat.reduceBEq, Nat.reduceAdd, cond_true, cond_false]); exact rfl) ?_
      refine at_then ?_
      refine at_cond rfl (fun ht21 => ?_) (fun ht21 => ?_)
      · (try simp only [decide_eq_true_eq, decide_eq_false_iff_not, Bool.not_eq_true', Bool.not_eq_false', Bool.not_true, Bool.not_false, Bool.or_eq_true, Bool.and_eq_true, Int.not_lt, Int.not_le] at ht21)
        try (rw [if_neg (by omega)] at he
             simp only [Option.some.injEq] at he
             subst he)
        refine at_seq ?_
        refine at_region ?_
        refine st_p rfl rfl (p_assign rfl) ?_
        refine at_nil ?_
        refine at_ks [0, 2, 3, 4, 6, 10, 11, 12, 13, 21] (by (try simp only [keep, lk, pd, enumE, Nat.reduceBEq, Nat.reduceAdd, cond_true, cond_false]); exact rfl) ?_
        refine at_then ?_
        refine at_retc ?_
        refine at_then_r ?_
        refine at_inb_r ?_
        refine at_then_r ?_
        refine at_then_r ?_
        refine at_inb_r ?_
        refine at_then_r ?_
        refine at_re [] (by decide) ?_
        refine at_nilsl 3 1 ?_
        exact fin_1 rfl rfl (by
            rfl)
      · (try simp only [decide_eq_true_eq, decide_eq_false_iff_not, Bool.not_eq_true', Bool.not_eq_false', Bool.not_true, Bool.not_false, Bool.or_eq_true, Bool.and_eq_true, Int.not_lt, Int.not_le] at ht21)
        rw [if_pos ⟨by omega, by omega⟩] at he
        obtain ⟨c, hcn⟩ : ∃ c : Nat, gi cs i = (c : Int) := ⟨(gi cs i).toNat, by omega⟩
        rw [hcn, Int.toNat_natCast] at he
        rw [hcn]
        obtain ⟨⟨m2, l2⟩, hf⟩ : ∃ r, forthS tracP m1 c l1 = some r := by
          cases h : forthS tracP m1 c l1 with
          | none => rw [h] at he; cases he
          | some r => exact ⟨r, rfl⟩
        rw [hf] at he
        simp only at he
        refine at_skip ?_
        refine at_then ?_
        refine at_region ?_
        refine st_p rfl rfl (p_move rfl) ?_
        refine st_p rfl rfl (p_move rfl) ?_
        refine st_p rfl rfl (p_move rfl) ?_
        refine st_p rfl rfl (p_fn1 rfl) ?_
        refine st_l rfl rfl (l_callP (first := []) (H1 := HM1 ++ HT1) (H2 := []) (by rw [List.append_nil]) rfl c_26 rfl (fun F1 hF1 hs1 => forth_calls (tracH b9) tracP 49 [.pointer (some ⟨b9, 0, none⟩)] c_49 (fun s p b H F s' hH h => add_calls b9 s s' p b H F hH h) mb HM1 HT1 m1 m2 c l1 l2 F1 hM1 hm1 hT1 (by omega) hf)) ?_
        rintro _ _ ⟨_, ⟨rfl, HM2, HT2, rfl, hM2, hT2⟩, rfl⟩
        refine at_hp (by (try simp only [List.take_zero, List.take_succ_cons, List.drop_zero, List.drop_succ_cons, List.drop_nil, List.length_cons, List.length_nil, Nat.zero_add, Nat.reduceAdd, List.set_cons_zero, List.set_cons_succ, List.nil_append, List.cons_append, List.append_nil, pick, List.filterMap_cons, List.filterMap_nil, List.getElem?_cons_zero, List.getElem?_cons_succ]); exact rfl) ?_
        refine at_nil ?_
        refine at_ks [0, 2, 3, 4, 6, 10, 11, 12, 13, 21] (by (try simp only [keep, lk, pd, enumE, Nat.reduceBEq, Nat.reduceAdd, cond_true, cond_false]); exact rfl) ?_
        refine at_inb ?_
        refine at_then ?_
        refine at_region ?_
        refine st_p rfl rfl (p_add rfl rfl (by first | exact nw64 (by omega) | exact nwu64 (by omega) | exact nwu8 (by omega) | exact nwu16 (by omega) | exact wu64 _ | exact wu8 _ | exact wi64 _ | rfl)) ?_
        refine st_p rfl rfl (p_move rfl) ?_
        refine at_nil ?_
        refine at_ks [0, 2, 3, 4, 6, 10, 11, 12, 13, 21] (by (try simp only [keep, lk, pd, enumE, Nat.reduceBEq, Nat.reduceAdd, cond_true, cond_false]); exact rfl) ?_
        refine at_ks [3, 4, 10, 11, 12] (by (try simp only [keep, lk, pd, enumE, Nat.reduceBEq, Nat.reduceAdd, cond_true, cond_false]); exact rfl) ?_
        refine at_back (k - 1) (by omega) ⟨i + 1, m2, l2, HM2, HT2, rfl, rfl, hM2, hT2, forthS_ok hm1 (by omega) hf, by omega, by omega, he⟩
  · (try simp only [decide_eq_true_eq, decide_eq_false_iff_not, Bool.not_eq_true', Bool.not_eq_false', Bool.not_true, Bool.not_false, Bool.or_eq_true, Bool.and_eq_true, Int.not_lt, Int.not_le] at ht13)
    obtain rfl : n = i := by omega
    obtain ⟨v1, rfl⟩ := hT1
    rw [List.drop_eq_nil_of_le (by omega), traceGo] at he
    simp only [Option.some.injEq] at he
    subst he
    refine at_perm List.perm_append_comm ?_
    refine at_hp (by (try simp only [List.take_zero, List.take_succ_cons, List.drop_zero, List.drop_succ_cons, List.drop_nil, List.length_cons, List.length_nil, Nat.zero_add, Nat.reduceAdd, List.set_cons_zero, List.set_cons_succ, List.nil_append, List.cons_append, List.append_nil, pick, List.filterMap_cons, List.filterMap_nil, List.getElem?_cons_zero, List.getElem?_cons_succ]); exact rfl) ?_
    refine at_exit ?_
    refine at_then_x ?_
    refine at_then_x ?_
    refine at_inb_exit ?_
    refine at_then ?_
    refine at_seq ?_
    refine at_region ?_
    refine st_p rfl rfl (p_move rfl) ?_
    refine st_p rfl rfl ((by first | exact p_nil rfl | exact p_nilf rfl)) ?_
    refine st_p rfl rfl ((by first | exact p_fa0 rfl o_95_0 | exact p_fa rfl o_95_0)) ?_
    refine st_q rfl rfl ((by first | exact q_ob 0 rfl rfl r_22 (by first | rfl | assumption) | exact q_ob 1 rfl rfl r_22 (by first | rfl | assumption) | exact q_ob 2 rfl rfl r_22 (by first | rfl | assumption) | exact q_ob 3 rfl rfl r_22 (by first | rfl | assumption) | exact q_ob 4 rfl rfl r_22 (by first | rfl | assumption) | exact q_ob 5 rfl rfl r_22 (by first | rfl | assumption) | exact q_sl 0 rfl rfl r_22 (by first | rfl | assumption) | exact q_sl 1 rfl rfl r_22 (by first | rfl | assumption) | exact q_sl 2 rfl rfl r_22 (by first | rfl | assumption) | exact q_sl 3 rfl rfl r_22 (by first | rfl | assumption) | exact q_sl 4 rfl rfl r_22 (by first | rfl | assumption) | exact q_sl 5 rfl rfl r_22 (by first | rfl | assumption) | exact q_fr rfl r_22 (by assumption))) ?_
    refine st_p rfl rfl (p_assign rfl) ?_
    refine at_nil ?_
    refine at_ks [0, 2, 3, 4, 6, 10, 11, 12, 13, 21] (by (try simp only [keep, lk, pd, enumE, Nat.reduceBEq, Nat.reduceAdd, cond_true, cond_false]); exact rfl) ?_
    refine at_then ?_
    refine at_retc ?_
    refine at_re [1] (by decide) ?_
    exact fin_1 rfl rfl (by
        rfl)

theorem put_calls (A : Option Addr) (n ca : Nat) (ps : List (Int × Int)) (res : List Int × Int) (F : Frm) (hn : ps.length = n) (h6 : n ≤ 1000000000) (hr : ∀ p ∈ ps, 0 ≤ p.2 ∧ p.2 < 18446744073709551616) (hx : FV F A (pcells ps)) (h : putGo ps ms0 cd0 = some res) :
    SC Try.prog 11 #[.slice A n ca] [] F (fun u H => u = .tuple #[.string (strOfNums res.1), N res.2] ∧ H = []) := by
  refine sc_in (args := [.slice A n ca]) Try.func11 rfl rfl (Nat.le_of_ble_eq_true rfl) ?_
  refine at_ks [0, 2, 3, 4, 5, 7, 9, 12, 13, 14, 15, 24] (by (try simp only [keep, lk, pd, enumE, Nat.reduceBEq, Nat.reduceAdd, cond_true, cond_false]); exact rfl) ?_
  refine at_seq ?_
  refine at_region ?_
  refine st_p rfl rfl (p_assign rfl) ?_
  refine st_p rfl rfl (p_assign rfl) ?_
  refine at_nil ?_
  refine at_ks [0, 2, 3, 4, 5, 7, 9, 12, 13, 14, 15, 24] (by (try simp only [keep, lk, pd, enumE, Nat.reduceBEq, Nat.reduceAdd, cond_true, cond_false]); exact rfl) ?_
  refine at_then ?_
  refine at_seq ?_
  refine at_region ?_
  refine st_l rfl rfl (l_callP (first := []) (H1 := []) (H2 := _) (List.Perm.refl _) rfl c_23 rfl (fun F1 hF1 hs1 => made_calls F1)) ?_
  rintro _ _ ⟨HM, ⟨mb, rfl, hM⟩, rfl⟩
  refine at_hp (by (try simp only [List.take_zero, List.take_succ_cons, List.drop_zero, List.drop_succ_cons, List.drop_nil, List.length_cons, List.length_nil, Nat.zero_add, Nat.reduceAdd, List.set_cons_zero, List.set_cons_succ, List.nil_append, List.cons_append, List.append_nil, pick, List.filterMap_cons, List.filterMap_nil, List.getElem?_cons_zero, List.getElem?_cons_succ]); exact rfl) ?_
  refine st_l rfl rfl (l_callP (first := []) (H1 := []) (H2 := _) (List.Perm.refl _) rfl c_24 rfl (fun F1 hF1 hs1 => new_calls F1)) ?_
  rintro _ _ ⟨_, ⟨eb, dv, rfl, rfl⟩, rfl⟩
  refine at_hp (by (try simp only [List.take_zero, List.take_succ_cons, List.drop_zero, List.drop_succ_cons, List.drop_nil, List.length_cons, List.length_nil, Nat.zero_add, Nat.reduceAdd, List.set_cons_zero, List.set_cons_succ, List.nil_append, List.cons_append, List.append_nil, pick, List.filterMap_cons, List.filterMap_nil, List.getElem?_cons_zero, List.getElem?_cons_succ]); exact rfl) ?_
  refine st_p rfl rfl (p_assign rfl) ?_
  refine st_p rfl rfl (p_assign rfl) ?_
  refine at_nil ?_
  refine at_ks [0, 2, 3, 4, 5, 7, 9, 12, 13, 14, 15, 24] (by (try simp only [keep, lk, pd, enumE, Nat.reduceBEq, Nat.reduceAdd, cond_true, cond_false]); exact rfl) ?_
  refine at_then ?_
  refine at_seq ?_
  refine at_seq ?_
  refine at_region ?_
  refine st_p rfl rfl (p_move rfl) ?_
  refine st_p rfl rfl (p_len rfl m_23) ?_
  refine st_p rfl rfl (p_move rfl) ?_
  refine at_nil ?_
  refine at_ks [0, 2, 3, 4, 5, 7, 9, 12, 13, 14, 15, 24] (by (try simp only [keep, lk, pd, enumE, Nat.reduceBEq, Nat.reduceAdd, cond_true, cond_false]); exact rfl) ?_
  refine at_then ?_
  refine at_block ?_
  refine at_ks [4, 5, 12, 13, 14] (by (try simp only [keep, lk, pd, enumE, Nat.reduceBEq, Nat.reduceAdd, cond_true, cond_false]); exact rfl) ?_
  refine at_perm List.perm_append_comm ?_
  refine at_loop (fun k E H => ∃ (i : Nat) (m1 : Ms) (c1 : Cd) (HM1 HE1 : Hp), E = [(4, .pointer (some ⟨mb, 0, none⟩)), (5, .pointer (some ⟨eb, 0, none⟩)), (12, .slice A n ca), (13, N (n : Nat)), (14, N (i : Int))] ∧ H = HM1 ++ HE1 ∧ modH mb m1 HM1 ∧ encPH eb c1 HE1 ∧ m1.ok ∧ i ≤ n ∧ k + i = n + 1 ∧ putGo (ps.drop i) m1 c1 = some res) (n + 1) (⟨0, ms0, cd0, HM, _, rfl, rfl, hM, ⟨cd0_ok, dv, rfl⟩, ms0_ok, by omega, by omega, by rw [List.drop_zero]; exact h⟩) ?_
  rintro k _ _ ⟨i, m1, c1, HM1, HE1, rfl, rfl, hM1, hE1, hm1, hi, hk, he⟩
  refine at_seq ?_
  refine at_region ?_
  refine st_p rfl rfl (p_lss rfl rfl) ?_
  refine at_nil ?_
  refine at_ks [0, 2, 3, 4, 5, 7, 9, 12, 13, 14, 15, 24] (by (try simp only [keep, lk, pd, enumE, Nat.reduceBEq, Nat.reduceAdd, cond_true, cond_false]); exact rfl) ?_
  refine at_then ?_
  refine at_seq ?_
  refine at_cond rfl (fun ht15 => ?_) (fun ht15 => ?_)
  · (try simp only [decide_eq_true_eq, decide_eq_false_iff_not, Bool.not_eq_true', Bool.not_eq_false', Bool.not_true, Bool.not_false, Bool.or_eq_true, Bool.and_eq_true, Int.not_lt, Int.not_le] at ht15)
    have hlt : i < ps.length := by omega
    obtain ⟨⟨cl, r⟩, hpi⟩ : ∃ q, ps[i]? = some q := ⟨_, List.getElem?_eq_getElem hlt⟩
    have hrr := hr _ (List.mem_of_getElem? hpi)
    simp only at hrr
    obtain ⟨ba, oa, rfl, hga⟩ := Go.Proofs.Ytbpbhjnkmonlbaa.FV.part hx hpi
    rw [List.drop_eq_getElem_cons hlt, (List.getElem?_eq_some_iff.1 hpi).2, putGo] at he
    refine at_skip ?_
    refine at_then ?_
    refine at_seq ?_
    refine at_block ?_
    refine at_seq ?_
    refine at_region ?_
    refine st_p rfl rfl ((by first | exact p_ia1 rfl rfl z_23 (by first | decide | omega) (by first | decide | omega) | exact p_iaN rfl rfl z_23 (by first | decide | omega) (by first | decide | omega) | exact p_iaO1 rfl rfl z_23 (by first | decide | omega) (by first | decide | omega) | exact p_iaO rfl rfl z_23 (by first | decide | omega) (by first | decide | omega))) ?_
    refine st_q rfl rfl (q_frN (us := [N cl, U r]) rfl r_54 s_54 rfl hga) ?_
    refine st_l rfl rfl (l_alloc _ y_54) ?_
    rintro _ _ ⟨b7, rfl, rfl⟩
    refine at_hp (by (try simp only [List.take_zero, List.take_succ_cons, List.drop_zero, List.drop_succ_cons, List.drop_nil, List.length_cons, List.length_nil, Nat.zero_add, Nat.reduceAdd, List.set_cons_zero, List.set_cons_succ, List.nil_append, List.cons_append, List.append_nil, pick, List.filterMap_cons, List.filterMap_nil, List.getElem?_cons_zero, List.getElem?_cons_succ]); exact rfl) ?_
    refine st_l rfl rfl (l_obN 0 rfl rfl rfl (by simp [Value.oneCell']) s_54 (by simp)) ?_
    rintro _ _ ⟨rfl, rfl⟩
    refine at_hp (by (try simp only [List.take_zero, List.take_succ_cons, List.drop_zero, List.drop_succ_cons, List.drop_nil, List.length_cons, List.length_nil, Nat.zero_add, Nat.reduceAdd, List.set_cons_zero, List.set_cons_succ, List.nil_append, List.cons_append, List.append_nil, pick, List.filterMap_cons, List.filterMap_nil, List.getElem?_cons_zero, List.getElem?_cons_succ]); exact rfl) ?_
    refine at_nil ?_
    refine at_ks [0, 2, 3, 4, 5, 7, 9, 12, 13, 14, 15, 24] (by (try simp only [keep, lk, pd, enumE, Nat.reduceBEq, Nat.reduceAdd, cond_true, cond_false]); exact rfl) ?_
    refine at_then ?_
    refine at_seq ?_
    refine at_seq ?_
    refine at_region ?_
    refine st_q rfl rfl (q_obN (us := [N cl, U r]) 0 rfl rfl r_54 s_54 rfl rfl) ?_
    refine st_l rfl rfl (l_callP (first := []) (H1 := []) (H2 := _) (List.Perm.refl _) rfl c_25 rfl (fun F1 hF1 hs1 => join_calls cl r hrr.1 hrr.2 F1)) ?_
    rintro _ _ ⟨_, ⟨⟨x, rfl⟩, rfl⟩, rfl⟩
    refine at_hp (by (try simp only [List.take_zero, List.take_succ_cons, List.drop_zero, List.drop_succ_cons, List.drop_nil, List.length_cons, List.length_nil, Nat.zero_add, Nat.reduceAdd, List.set_cons_zero, List.set_cons_succ, List.nil_append, List.cons_append, List.append_nil, pick, List.filterMap_cons, List.filterMap_nil, List.getElem?_cons_zero, List.getElem?_cons_succ]); exact rfl) ?_
    refine st_p rfl rfl (p_move rfl) ?_
    refine st_p rfl rfl (p_ext rfl rfl) ?_
    refine st_p rfl rfl (p_ext rfl rfl) ?_
    refine st_p rfl rfl (p_assign rfl) ?_
    refine st_p rfl rfl (p_assign rfl) ?_
    refine at_nil ?_
    refine at_ks [0, 2, 3, 4, 5, 7, 9, 12, 13, 14, 15, 24] (by (try simp only [keep, lk, pd, enumE, Nat.reduceBEq, Nat.reduceAdd, cond_true, cond_false]); exact rfl) ?_
    refine at_then ?_
    refine at_seq ?_
    refine at_region ?_
    refine st_p rfl rfl (p_move rfl) ?_
    refine st_p rfl rfl (p_not rfl) ?_
    refine at_nil ?_
    refine at_ks [0, 2, 3, 4, 5, 7, 9, 12, 13, 14, 15, 24] (by (try simp only [keep, lk, pd, enumE, Nat.reduceBEq, Nat.reduceAdd, cond_true, cond_false]); exact rfl) ?_
    refine at_then ?_
    refine at_cond rfl (fun ht24 => ?_) (fun ht24 => ?_)
    · (try simp only [decide_eq_true_eq, decide_eq_false_iff_not, Bool.not_eq_true', Bool.not_eq_false', Bool.not_true, Bool.not_false, Bool.or_eq_true, Bool.and_eq_true, Int.not_lt, Int.not_le] at ht24)
      rw [ht24] at he
      simp only [Bool.false_eq_true, if_false, Option.some.injEq] at he
      subst he
      refine at_seq ?_
      refine at_region ?_
      refine st_p rfl rfl (p_assign rfl) ?_
      refine st_p rfl rfl (p_assign rfl) ?_
      refine at_nil ?_
      refine at_ks [0, 2, 3, 4, 5, 7, 9, 12, 13, 14, 15, 24] (by (try simp only [keep, lk, pd, enumE, Nat.reduceBEq, Nat.reduceAdd, cond_true, cond_false]); exact rfl) ?_
      refine at_then ?_
      refine at_retc ?_
      refine at_then_r ?_
      refine at_inb_r ?_
      refine at_then_r ?_
      refine at_then_r ?_
      refine at_inb_r ?_
      refine at_then_r ?_
      refine at_re [] (by decide) ?_
      exact fin_2 rfl rfl rfl (by
          exact ⟨rfl, rfl⟩)
    · (try simp only [decide_eq_true_eq, decide_eq_false_iff_not, Bool.not_eq_true', Bool.not_eq_false', Bool.not_true, Bool.not_false, Bool.or_eq_true, Bool.and_eq_true, Int.not_lt, Int.not_le] at ht24)
      rw [ht24] at he
      simp only [if_true] at he
      have hmv : (cl = 0 ∧ r = 0) ∨ (1 ≤ cl ∧ cl ≤ 64 ∧ r < 2 ^ (cl - 1).toNat) := by unfold mayv at ht24; simpa using ht24
      obtain ⟨c, rfl⟩ : ∃ c : Nat, cl = (c : Int) := ⟨cl.toNat, by omega⟩
      obtain ⟨v, rfl⟩ : ∃ v : Nat, r = (v : Int) := ⟨r.toNat, by omega⟩
      simp only [Int.toNat_natCast] at he
      obtain ⟨⟨m2, c2⟩, hf⟩ : ∃ q, forthS encP m1 c c1 = some q := by
        cases h : forthS encP m1 c c1 with
        | none => rw [h] at he; cases he
        | some r => exact ⟨r, rfl⟩
      rw [hf] at he
      simp only at he
      obtain ⟨hk2, he⟩ := (Option.ite_none_right_eq_some).1 he
      refine at_skip ?_
      refine at_then ?_
      refine at_seq ?_
      refine at_region ?_
      refine st_p rfl rfl (p_move rfl) ?_
      refine st_p rfl rfl ((by first | exact p_fa0 rfl o_54_0 | exact p_fa rfl o_54_0)) ?_
      refine st_q rfl rfl ((by first | exact q_ob 0 rfl rfl r_3 (by first | rfl | assumption) | exact q_ob 1 rfl rfl r_3 (by first | rfl | assumption) | exact q_ob 2 rfl rfl r_3 (by first | rfl | assumption) | exact q_ob 3 rfl rfl r_3 (by first | rfl | assumption) | exact q_ob 4 rfl rfl r_3 (by first | rfl | assumption) | exact q_ob 5 rfl rfl r_3 (by first | rfl | assumption) | exact q_sl 0 rfl rfl r_3 (by first | rfl | assumption) | exact q_sl 1 rfl rfl r_3 (by first | rfl | assumption) | exact q_sl 2 rfl rfl r_3 (by first | rfl | assumption) | exact q_sl 3 rfl rfl r_3 (by first | rfl | assumption) | exact q_sl 4 rfl rfl r_3 (by first | rfl | assumption) | exact q_sl 5 rfl rfl r_3 (by first | rfl | assumption) | exact q_fr rfl r_3 (by assumption))) ?_
      refine st_p rfl rfl (p_move rfl) ?_
      refine st_p rfl rfl (p_fn1 rfl) ?_
      refine st_l rfl rfl (l_callP (first := []) (H1 := HM1 ++ HE1) (H2 := [_]) (List.perm_append_comm (l₁ := [_])) rfl c_26 rfl (fun F1 hF1 hs1 => forth_calls (encPH eb) encP 27 [.pointer (some ⟨eb, 0, none⟩)] c_27 (fun s p b H F s' hH h => encPut eb s s' p b H F hH h) mb HM1 HE1 m1 m2 c c1 c2 F1 hM1 hm1 hE1 (by omega) hf)) ?_
      rintro _ _ ⟨_, ⟨rfl, HM2, HE2, rfl, hM2, ⟨ho2, dv2, rfl⟩⟩, rfl⟩
      refine at_hp (by (try simp only [List.take_zero, List.take_succ_cons, List.drop_zero, List.drop_succ_cons, List.drop_nil, List.length_cons, List.length_nil, Nat.zero_add, Nat.reduceAdd, List.set_cons_zero, List.set_cons_succ, List.nil_append, List.cons_append, List.append_nil, pick, List.filterMap_cons, List.filterMap_nil, List.getElem?_cons_zero, List.getElem?_cons_succ]); exact rfl) ?_
      refine at_perm List.perm_append_comm ?_
      refine at_hp (by (try simp only [List.take_zero, List.take_succ_cons, List.drop_zero, List.drop_succ_cons, List.drop_nil, List.length_cons, List.length_nil, Nat.zero_add, Nat.reduceAdd, List.set_cons_zero, List.set_cons_succ, List.nil_append, List.cons_append, List.append_nil, pick, List.filterMap_cons, List.filterMap_nil, List.getElem?_cons_zero, List.getElem?_cons_succ]); exact rfl) ?_
      refine at_nil ?_
      refine at_ks [0, 2, 3, 4, 5, 7, 9, 12, 13, 14, 15, 24] (by (try simp only [keep, lk, pd, enumE, Nat.reduceBEq, Nat.reduceAdd, cond_true, cond_false]); exact rfl) ?_
      refine at_then ?_
      refine at_region ?_
      refine st_p rfl rfl (p_move rfl) ?_
      refine st_p rfl rfl ((by first | exact p_fa0 rfl o_54_1 | exact p_fa rfl o_54_1)) ?_
      refine st_q rfl rfl ((by first | exact q_ob 0 rfl rfl r_52 (by first | rfl | assumption) | exact q_ob 1 rfl rfl r_52 (by first | rfl | assumption) | exact q_ob 2 rfl rfl r_52 (by first | rfl | assumption) | exact q_ob 3 rfl rfl r_52 (by first | rfl | assumption) | exact q_ob 4 rfl rfl r_52 (by first | rfl | assumption) | exact q_ob 5 rfl rfl r_52 (by first | rfl | assumption) | exact q_sl 0 rfl rfl r_52 (by first | rfl | assumption) | exact q_sl 1 rfl rfl r_52 (by first | rfl | assumption) | exact q_sl 2 rfl rfl r_52 (by first | rfl | assumption) | exact q_sl 3 rfl rfl r_52 (by first | rfl | assumption) | exact q_sl 4 rfl rfl r_52 (by first | rfl | assumption) | exact q_sl 5 rfl rfl r_52 (by first | rfl | assumption) | exact q_fr rfl r_52 (by assumption))) ?_
      refine st_p rfl rfl ((by first | exact p_fa0 rfl o_54_0 | exact p_fa rfl o_54_0)) ?_
      refine st_q rfl rfl ((by first | exact q_ob 0 rfl rfl r_3 (by first | rfl | assumption) | exact q_ob 1 rfl rfl r_3 (by first | rfl | assumption) | exact q_ob 2 rfl rfl r_3 (by first | rfl | assumption) | exact q_ob 3 rfl rfl r_3 (by first | rfl | assumption) | exact q_ob 4 rfl rfl r_3 (by first | rfl | assumption) | exact q_ob 5 rfl rfl r_3 (by first | rfl | assumption) | exact q_sl 0 rfl rfl r_3 (by first | rfl | assumption) | exact q_sl 1 rfl rfl r_3 (by first | rfl | assumption) | exact q_sl 2 rfl rfl r_3 (by first | rfl | assumption) | exact q_sl 3 rfl rfl r_3 (by first | rfl | assumption) | exact q_sl 4 rfl rfl r_3 (by first | rfl | assumption) | exact q_sl 5 rfl rfl r_3 (by first | rfl | assumption) | exact q_fr rfl r_3 (by assumption))) ?_
      refine st_p rfl rfl (p_sub rfl rfl (by first | exact nw64 (by omega) | exact nwu64 (by omega) | exact nwu8 (by omega) | exact nwu16 (by omega) | exact wu64 _ | exact wu8 _ | exact wi64 _ | rfl)) ?_
      refine st_l rfl rfl (l_callP (first := []) (H1 := encH eb dv2 c2) (H2 := _ :: HM2) (List.perm_append_comm (l₁ := _ :: HM2)) rfl c_28 rfl (fun F1 hF1 hs1 => encDirect_calls eb dv2 c2 v ((c : Int) - 1) ho2 (by omega) (by omega) F1)) ?_
      rintro _ _ ⟨_, ⟨rfl, dv3, rfl⟩, rfl⟩
      refine at_hp (by (try simp only [List.take_zero, List.take_succ_cons, List.drop_zero, List.drop_succ_cons, List.drop_nil, List.length_cons, List.length_nil, Nat.zero_add, Nat.reduceAdd, List.set_cons_zero, List.set_cons_succ, List.nil_append, List.cons_append, List.append_nil, pick, List.filterMap_cons, List.filterMap_nil, List.getElem?_cons_zero, List.getElem?_cons_succ]); exact rfl) ?_
      refine at_perm List.perm_append_comm ?_
      refine at_hp (by (try simp only [List.take_zero, List.take_succ_cons, List.drop_zero, List.drop_succ_cons, List.drop_nil, List.length_cons, List.length_nil, Nat.zero_add, Nat.reduceAdd, List.set_cons_zero, List.set_cons_succ, List.nil_append, List.cons_append, List.append_nil, pick, List.filterMap_cons, List.filterMap_nil, List.getElem?_cons_zero, List.getElem?_cons_succ]); exact rfl) ?_
      refine at_drop ?_
      refine at_nil ?_
      refine at_ks [0, 2, 3, 4, 5, 7, 9, 12, 13, 14, 15, 24] (by (try simp only [keep, lk, pd, enumE, Nat.reduceBEq, Nat.reduceAdd, cond_true, cond_false]); exact rfl) ?_
      refine at_inb ?_
      refine at_then ?_
      refine at_region ?_
      refine st_p rfl rfl (p_add rfl rfl (by first | exact nw64 (by omega) | exact nwu64 (by omega) | exact nwu8 (by omega) | exact nwu16 (by omega) | exact wu64 _ | exact wu8 _ | exact wi64 _ | rfl)) ?_
      refine st_p rfl rfl (p_move rfl) ?_
      refine at_nil ?_
      refine at_ks [0, 2, 3, 4, 5, 7, 9, 12, 13, 14, 15, 24] (by (try simp only [keep, lk, pd, enumE, Nat.reduceBEq, Nat.reduceAdd, cond_true, cond_false]); exact rfl) ?_
      refine at_ks [4, 5, 12, 13, 14] (by (try simp only [keep, lk, pd, enumE, Nat.reduceBEq, Nat.reduceAdd, cond_true, cond_false]); exact rfl) ?_
      refine at_back (k - 1) (by omega) ⟨i + 1, m2, dirC c2 v (dirN ((c : Int) - 1)), HM2, _, rfl, rfl, hM2, ⟨ho2.dir _ _, dv3, rfl⟩, forthS_ok hm1 (by omega) hf, by omega, by omega, he⟩
  · (try simp only [decide_eq_true_eq, decide_eq_false_iff_not, Bool.not_eq_true', Bool.not_eq_false', Bool.not_true, Bool.not_false, Bool.or_eq_true, Bool.and_eq_true, Int.not_lt, Int.not_le] at ht15)
    obtain rfl : n = i := by omega
    rw [List.drop_eq_nil_of_le (by omega), putGo] at he
    obtain ⟨hk9, he⟩ := (Option.ite_none_right_eq_some).1 he
    simp only [Option.some.injEq] at he
    subst he
    obtain ⟨ho1, dv1, rfl⟩ := hE1
    refine at_exit ?_
    refine at_then_x ?_
    refine at_then_x ?_
    refine at_inb_exit ?_
    refine at_then ?_
    refine at_seq ?_
    refine at_region ?_
    refine st_p rfl rfl (p_move rfl) ?_
    refine st_l rfl rfl (l_callP (first := []) (H1 := encH eb dv1 c1) (H2 := HM1) List.perm_append_comm rfl c_29 rfl (fun F1 hF1 hs1 => encBytes_calls eb dv1 c1 ho1.k5 (by omega) F1)) ?_
    rintro _ _ ⟨_, ⟨rfl, rfl⟩, rfl⟩
    refine at_hp (by (try simp only [List.take_zero, List.take_succ_cons, List.drop_zero, List.drop_succ_cons, List.drop_nil, List.length_cons, List.length_nil, Nat.zero_add, Nat.reduceAdd, List.set_cons_zero, List.set_cons_succ, List.nil_append, List.cons_append, List.append_nil, pick, List.filterMap_cons, List.filterMap_nil, List.getElem?_cons_zero, List.getElem?_cons_succ]); exact rfl) ?_
    refine st_p rfl rfl (p_assign rfl) ?_
    refine st_p rfl rfl (p_assign rfl) ?_
    refine at_nil ?_
    refine at_ks [0, 2, 3, 4, 5, 7, 9, 12, 13, 14, 15, 24] (by (try simp only [keep, lk, pd, enumE, Nat.reduceBEq, Nat.reduceAdd, cond_true, cond_false]); exact rfl) ?_
    refine at_then ?_
    refine at_retc ?_
    refine at_re [] (by decide) ?_
    exact fin_2 rfl rfl rfl (by
        exact ⟨rfl, rfl⟩)

end Go.Proofs.Ytbpbhjnkmonlbaa