/- What the statements lean on: walks. No condition. -/
import Derived.Test.YtbpbhjnkmonlbaaAw
namespace Go.Proofs.Ytbpbhjnkmonlbaa
open Go.RowKit Sl
set_option linter.unusedVariables false
set_option linter.unusedSimpArgs false
set_option maxRecDepth 10000
theorem take_next {l m : List Int} {i : Nat} (h : l.take i = m.take i) (hl : i < l.length) (hm : i < m.length) (he : gi l i = gi m i) : l.take (i + 1) = m.take (i + 1) := by
  have e1 := gi_get (xs := l) (i := (i : Int)) (by omega) (by omega)
  have e2 := gi_get (xs := m) (i := (i : Int)) (by omega) (by omega)
  rw [Int.toNat_natCast] at e1 e2
  rw [List.take_add_one, List.take_add_one, h, e1, e2, he]
theorem gi_ne {l m : List Int} {i : Nat} (he : gi l i ≠ gi m i) : l ≠ m := fun h => he (by rw [h])

theorem sameInts_calls (A B : Option Addr) (n m ca cb : Nat) (xs ys : List Int) (F : Frm) (hn : xs.length = n) (hm : ys.length = m) (h6 : n ≤ 1000000000000) (hx : FV F A (ints .i64 xs)) (hy : FV F B (ints .i64 ys)) :
    SC Try.prog 15 #[.slice A n ca, .slice B m cb] [] F (fun u H => u = .bool (decide (xs = ys)) ∧ H = []) := by
  refine sc_in (args := [.slice A n ca, .slice B m cb]) Try.func15 rfl rfl (Nat.le_of_ble_eq_true rfl) ?_
  refine at_ks [0, 1, 4, 5, 10, 14, 25] (by (try simp only [keep, lk, pd, enumE, Nat.reduceBEq, Nat.reduceAdd, cond_true, cond_false]); exact rfl) ?_
  refine at_seq ?_
  refine at_region ?_
  refine st_p rfl rfl (p_assign rfl) ?_
  refine at_nil ?_
  refine at_ks [0, 1, 4, 5, 10, 14, 25] (by (try simp only [keep, lk, pd, enumE, Nat.reduceBEq, Nat.reduceAdd, cond_true, cond_false]); exact rfl) ?_
  refine at_then ?_
  refine at_seq ?_
  refine at_seq ?_
  refine at_region ?_
  refine st_p rfl rfl (p_move rfl) ?_
  refine st_p rfl rfl (p_len rfl m_22) ?_
  refine st_p rfl rfl (p_move rfl) ?_
  refine st_p rfl rfl (p_len rfl m_22) ?_
  refine st_p rfl rfl (p_neq rfl rfl) ?_
  refine at_nil ?_
  refine at_ks [0, 1, 4, 5, 10, 14, 25] (by (try simp only [keep, lk, pd, enumE, Nat.reduceBEq, Nat.reduceAdd, cond_true, cond_false]); exact rfl) ?_
  refine at_then ?_
  refine at_cond rfl (fun ht10 => ?_) (fun ht10 => ?_)
  · (try simp only [decide_eq_true_eq, decide_eq_false_iff_not, Bool.not_eq_true', Bool.not_eq_false', Bool.not_true, Bool.not_false, Bool.or_eq_true, Bool.and_eq_true, Int.not_lt, Int.not_le] at ht10)
    refine at_seq ?_
    refine at_region ?_
    refine st_p rfl rfl (p_assign rfl) ?_
    refine at_nil ?_
    refine at_ks [0, 1, 4, 5, 10, 14, 25] (by (try simp only [keep, lk, pd, enumE, Nat.reduceBEq, Nat.reduceAdd, cond_true, cond_false]); exact rfl) ?_
    refine at_then ?_
    refine at_retc ?_
    refine at_then_r ?_
    exact fin_1 rfl rfl (by
        exact ⟨congrArg Value.bool (decide_eq_false (fun h => by rw [h] at hn; omega)).symm, rfl⟩)
  · (try simp only [decide_eq_true_eq, decide_eq_false_iff_not, Bool.not_eq_true', Bool.not_eq_false', Bool.not_true, Bool.not_false, Bool.or_eq_true, Bool.and_eq_true, Int.not_lt, Int.not_le] at ht10)
    have hnm : n = m := by omega
    refine at_skip ?_
    refine at_then ?_
    refine at_seq ?_
    refine at_seq ?_
    refine at_region ?_
    refine st_p rfl rfl (p_assign rfl) ?_
    refine at_nil ?_
    refine at_ks [0, 1, 4, 5, 10, 14, 25] (by (try simp only [keep, lk, pd, enumE, Nat.reduceBEq, Nat.reduceAdd, cond_true, cond_false]); exact rfl) ?_
    refine at_then ?_
    refine at_block ?_
    refine at_ks [0, 1, 5] (by (try simp only [keep, lk, pd, enumE, Nat.reduceBEq, Nat.reduceAdd, cond_true, cond_false]); exact rfl) ?_
    refine at_loop (fun k E H => ∃ i : Nat, E = [(0, .slice A n ca), (1, .slice B m cb), (5, N (i : Int))] ∧ H = [] ∧ i ≤ n ∧ k + i = n + 1 ∧ xs.take i = ys.take i) (n + 1) (⟨0, rfl, rfl, by omega, by omega, rfl⟩) ?_
    rintro k _ _ ⟨i, rfl, rfl, hi, hk, he⟩
    refine at_seq ?_
    refine at_seq ?_
    refine at_region ?_
    refine st_p rfl rfl (p_move rfl) ?_
    refine st_p rfl rfl (p_move rfl) ?_
    refine st_p rfl rfl (p_len rfl m_22) ?_
    refine st_p rfl rfl (p_lss rfl rfl) ?_
    refine at_nil ?_
    refine at_ks [0, 1, 4, 5, 10, 14, 25] (by (try simp only [keep, lk, pd, enumE, Nat.reduceBEq, Nat.reduceAdd, cond_true, cond_false]); exact rfl) ?_
    refine at_then ?_
    refine at_cond rfl (fun ht14 => ?_) (fun ht14 => ?_)
    · (try simp only [decide_eq_true_eq, decide_eq_false_iff_not, Bool.not_eq_true', Bool.not_eq_false', Bool.not_true, Bool.not_false, Bool.or_eq_true, Bool.and_eq_true, Int.not_lt, Int.not_le] at ht14)
      obtain ⟨ba, oa, rfl, hga⟩ := hx.int (i := (i : Int)) (by omega) (by omega)
      obtain ⟨bb, ob, rfl, hgb⟩ := hy.int (i := (i : Int)) (by omega) (by omega)
      refine at_skip ?_
      refine at_then ?_
      refine at_seq ?_
      refine at_block ?_
      refine at_seq ?_
      refine at_drawH [0, 1, 2, 3, 4, 5, 6, 7, 8] [0, 0, 3, 7, 0, 0, 48, 112, 255] [3, 7] [] mixd (by kernel_rfl) ?_
      refine rd_p rfl rfl rfl rfl rfl (p_move rfl) ?_
      refine rd_p rfl rfl rfl rfl rfl (p_move rfl) ?_
      refine rd_p rfl rfl rfl rfl rfl ((by first | exact p_ia1 rfl rfl z_22 (by first | decide | omega) (by first | decide | omega) | exact p_iaN rfl rfl z_22 (by first | decide | omega) (by first | decide | omega) | exact p_iaO1 rfl rfl z_22 (by first | decide | omega) (by first | decide | omega) | exact p_iaO rfl rfl z_22 (by first | decide | omega) (by first | decide | omega))) ?_
      refine rd_q rfl rfl rfl rfl rfl ((by first | exact q_ob 0 rfl rfl r_3 (by first | rfl | assumption) | exact q_ob 1 rfl rfl r_3 (by first | rfl | assumption) | exact q_ob 2 rfl rfl r_3 (by first | rfl | assumption) | exact q_ob 3 rfl rfl r_3 (by first | rfl | assumption) | exact q_ob 4 rfl rfl r_3 (by first | rfl | assumption) | exact q_ob 5 rfl rfl r_3 (by first | rfl | assumption) | exact q_sl 0 rfl rfl r_3 (by first | rfl | assumption) | exact q_sl 1 rfl rfl r_3 (by first | rfl | assumption) | exact q_sl 2 rfl rfl r_3 (by first | rfl | assumption) | exact q_sl 3 rfl rfl r_3 (by first | rfl | assumption) | exact q_sl 4 rfl rfl r_3 (by first | rfl | assumption) | exact q_sl 5 rfl rfl r_3 (by first | rfl | assumption) | exact q_fr rfl r_3 (by assumption))) (fun _ h => h) ?_
      refine rd_p rfl rfl rfl rfl rfl (p_move rfl) ?_
      refine rd_p rfl rfl rfl rfl rfl (p_move rfl) ?_
      refine rd_p rfl rfl rfl rfl rfl ((by first | exact p_ia1 rfl rfl z_22 (by first | decide | omega) (by first | decide | omega) | exact p_iaN rfl rfl z_22 (by first | decide | omega) (by first | decide | omega) | exact p_iaO1 rfl rfl z_22 (by first | decide | omega) (by first | decide | omega) | exact p_iaO rfl rfl z_22 (by first | decide | omega) (by first | decide | omega))) ?_
      refine rd_q rfl rfl rfl rfl rfl ((by first | exact q_ob 0 rfl rfl r_3 (by first | rfl | assumption) | exact q_ob 1 rfl rfl r_3 (by first | rfl | assumption) | exact q_ob 2 rfl rfl r_3 (by first | rfl | assumption) | exact q_ob 3 rfl rfl r_3 (by first | rfl | assumption) | exact q_ob 4 rfl rfl r_3 (by first | rfl | assumption) | exact q_ob 5 rfl rfl r_3 (by first | rfl | assumption) | exact q_sl 0 rfl rfl r_3 (by first | rfl | assumption) | exact q_sl 1 rfl rfl r_3 (by first | rfl | assumption) | exact q_sl 2 rfl rfl r_3 (by first | rfl | assumption) | exact q_sl 3 rfl rfl r_3 (by first | rfl | assumption) | exact q_sl 4 rfl rfl r_3 (by first | rfl | assumption) | exact q_sl 5 rfl rfl r_3 (by first | rfl | assumption) | exact q_fr rfl r_3 (by assumption))) (fun _ h => h) ?_
      refine rd_p rfl rfl rfl rfl rfl (p_neq rfl rfl) ?_
      refine rd_nil ?_
      refine at_ks [0, 1, 4, 5, 10, 14, 25] (by (try simp only [keep, lk, pd, enumE, Nat.reduceBEq, Nat.reduceAdd, cond_true, cond_false]); exact rfl) ?_
      refine at_then ?_
      refine at_cond rfl (fun ht25 => ?_) (fun ht25 => ?_)
      · (try simp only [decide_eq_true_eq, decide_eq_false_iff_not, Bool.not_eq_true', Bool.not_eq_false', Bool.not_true, Bool.not_false, Bool.or_eq_true, Bool.and_eq_true, Int.not_lt, Int.not_le] at ht25)
        refine at_seq ?_
        refine at_region ?_
        refine st_p rfl rfl (p_assign rfl) ?_
        refine at_nil ?_
        refine at_ks [0, 1, 4, 5, 10, 14, 25] (by (try simp only [keep, lk, pd, enumE, Nat.reduceBEq, Nat.reduceAdd, cond_true, cond_false]); exact rfl) ?_
        refine at_then ?_
        refine at_retc ?_
        refine at_inb_r ?_
        refine at_then_r ?_
        refine at_then_r ?_
        refine at_inb_r ?_
        refine at_then_r ?_
        exact fin_1 rfl rfl (by
            exact ⟨congrArg Value.bool (decide_eq_false (gi_ne (by omega))).symm, rfl⟩)
      · (try simp only [decide_eq_true_eq, decide_eq_false_iff_not, Bool.not_eq_true', Bool.not_eq_false', Bool.not_true, Bool.not_false, Bool.or_eq_true, Bool.and_eq_true, Int.not_lt, Int.not_le] at ht25)
        refine at_skip ?_
        refine at_inb ?_
        refine at_then ?_
        refine at_region ?_
        refine st_p rfl rfl (p_move rfl) ?_
        refine st_p rfl rfl (p_add rfl rfl (by first | exact nw64 (by omega) | exact nwu64 (by omega) | exact nwu8 (by omega) | exact nwu16 (by omega) | exact wu64 _ | exact wu8 _ | exact wi64 _ | rfl)) ?_
        refine st_p rfl rfl (p_assign rfl) ?_
        refine at_nil ?_
        refine at_ks [0, 1, 4, 5, 10, 14, 25] (by (try simp only [keep, lk, pd, enumE, Nat.reduceBEq, Nat.reduceAdd, cond_true, cond_false]); exact rfl) ?_
        refine at_ks [0, 1, 5] (by (try simp only [keep, lk, pd, enumE, Nat.reduceBEq, Nat.reduceAdd, cond_true, cond_false]); exact rfl) ?_
        refine at_back (k - 1) (by omega) ⟨i + 1, rfl, rfl, by omega, by omega, take_next he (by omega) (by omega) (by omega)⟩
    · (try simp only [decide_eq_true_eq, decide_eq_false_iff_not, Bool.not_eq_true', Bool.not_eq_false', Bool.not_true, Bool.not_false, Bool.or_eq_true, Bool.and_eq_true, Int.not_lt, Int.not_le] at ht14)
      obtain rfl : n = i := by omega
      rw [List.take_of_length_le (by omega), List.take_of_length_le (by omega)] at he
      refine at_exit ?_
      refine at_then_x ?_
      refine at_then_x ?_
      refine at_inb_exit ?_
      refine at_then ?_
      refine at_seq ?_
      refine at_region ?_
      refine st_p rfl rfl (p_assign rfl) ?_
      refine at_nil ?_
      refine at_ks [0, 1, 4, 5, 10, 14, 25] (by (try simp only [keep, lk, pd, enumE, Nat.reduceBEq, Nat.reduceAdd, cond_true, cond_false]); exact rfl) ?_
      refine at_then ?_
      refine at_retc ?_
      exact fin_1 rfl rfl (by
          exact ⟨congrArg Value.bool (decide_eq_true he).symm, rfl⟩)

theorem fits_one {a b : Int} : (.agg #[N a, U b] : Value).cells = #[N a, U b] := rfl
theorem awake_calls (F : Frm) : SC Try.prog 10 #[] [] F (fun u H => u = .bool true ∧ H = []) := by
  refine sc_in (args := []) Try.func10 rfl rfl (Nat.le_of_ble_eq_true rfl) ?_
  refine at_ks [0, 1, 2, 3, 4, 5] (by (try simp only [keep, lk, pd, enumE, Nat.reduceBEq, Nat.reduceAdd, cond_true, cond_false]); exact rfl) ?_
  refine at_seq ?_
  refine at_region ?_
  refine st_p rfl rfl (p_assign rfl) ?_
  refine at_nil ?_
  refine at_ks [0, 1, 2, 3, 4, 5] (by (try simp only [keep, lk, pd, enumE, Nat.reduceBEq, Nat.reduceAdd, cond_true, cond_false]); exact rfl) ?_
  refine at_then ?_
  refine at_seq ?_
  refine at_region ?_
  refine st_l rfl rfl (l_bsV [_] _ rfl e_22 (by decide) (by decide) rfl (by simp [Value.cells]) (by simp only [List.flatMap_cons, List.flatMap_nil, Value.cells, List.nil_append, List.cons_append, List.append_nil]; exact rfl)) ?_
  rintro _ _ ⟨b6, rfl, rfl⟩
  refine at_hp (by (try simp only [List.take_zero, List.take_succ_cons, List.drop_zero, List.drop_succ_cons, List.drop_nil, List.length_cons, List.length_nil, Nat.zero_add, Nat.reduceAdd, List.set_cons_zero, List.set_cons_succ, List.nil_append, List.cons_append, List.append_nil, pick, List.filterMap_cons, List.filterMap_nil, List.getElem?_cons_zero, List.getElem?_cons_succ]); exact rfl) ?_
  refine st_l rfl rfl (l_callP (first := []) (H1 := []) (H2 := _) (List.Perm.refl _) rfl c_16 rfl (fun F1 hF1 hs1 => (trace_calls _ 1 _ [5] _ F1 rfl (by decide) (fv_slice (hs1 _ (List.mem_of_getElem? (i := 0) rfl))) aw_trace).shape)) ?_
  rintro _ _ ⟨_, ⟨At, ct, rfl, _, hAt, rfl⟩, rfl⟩
  refine at_hp (by (try simp only [List.take_zero, List.take_succ_cons, List.drop_zero, List.drop_succ_cons, List.drop_nil, List.length_cons, List.length_nil, Nat.zero_add, Nat.reduceAdd, List.set_cons_zero, List.set_cons_succ, List.nil_append, List.cons_append, List.append_nil, pick, List.filterMap_cons, List.filterMap_nil, List.getElem?_cons_zero, List.getElem?_cons_succ]); exact rfl) ?_
  refine st_p rfl rfl (p_assign rfl) ?_
  refine at_nil ?_
  refine at_ks [0, 1, 2, 3, 4, 5] (by (try simp only [keep, lk, pd, enumE, Nat.reduceBEq, Nat.reduceAdd, cond_true, cond_false]); exact rfl) ?_
  refine at_then ?_
  refine at_seq ?_
  refine at_region ?_
  refine st_p rfl rfl (p_build (cs := #[N 2, U 1]) rfl (fun _ => by kernel_rfl)) ?_
  refine st_l rfl rfl (l_bsV [.agg #[N 2, U 1]] [N 2, U 1] rfl e_23 (by decide) (by decide) rfl (by simp [Value.cells]) (by simp [Value.cells])) ?_
  rintro _ _ ⟨b10, rfl, rfl⟩
  refine at_hp (by (try simp only [List.take_zero, List.take_succ_cons, List.drop_zero, List.drop_succ_cons, List.drop_nil, List.length_cons, List.length_nil, Nat.zero_add, Nat.reduceAdd, List.set_cons_zero, List.set_cons_succ, List.nil_append, List.cons_append, List.append_nil, pick, List.filterMap_cons, List.filterMap_nil, List.getElem?_cons_zero, List.getElem?_cons_succ]); exact rfl) ?_
  refine st_l rfl rfl (l_callP (first := []) (H1 := []) (H2 := _) (List.Perm.refl _) rfl c_11 rfl (fun F1 hF1 hs1 => put_calls _ 1 _ [(2, 1)] _ F1 rfl (by decide) (by simp) (fv_slice (hs1 _ (List.mem_of_getElem? (i := 0) rfl))) aw_put)) ?_
  rintro _ _ ⟨_, ⟨rfl, rfl⟩, rfl⟩
  refine at_hp (by (try simp only [List.take_zero, List.take_succ_cons, List.drop_zero, List.drop_succ_cons, List.drop_nil, List.length_cons, List.length_nil, Nat.zero_add, Nat.reduceAdd, List.set_cons_zero, List.set_cons_succ, List.nil_append, List.cons_append, List.append_nil, pick, List.filterMap_cons, List.filterMap_nil, List.getElem?_cons_zero, List.getElem?_cons_succ]); exact rfl) ?_
  refine st_p rfl rfl (p_move rfl) ?_
  refine st_p rfl rfl (p_ext rfl rfl) ?_
  refine st_p rfl rfl (p_ext rfl rfl) ?_
  refine st_p rfl rfl (p_assign rfl) ?_
  refine st_p rfl rfl (p_assign rfl) ?_
  refine at_nil ?_
  refine at_ks [0, 1, 2, 3, 4, 5] (by (try simp only [keep, lk, pd, enumE, Nat.reduceBEq, Nat.reduceAdd, cond_true, cond_false]); exact rfl) ?_
  refine at_then ?_
  refine at_seq ?_
  refine at_region ?_
  refine st_p rfl rfl (p_move rfl) ?_
  refine st_l rfl rfl (l_callP (first := []) (H1 := []) (H2 := _) (List.Perm.refl _) rfl c_13 rfl (fun F1 hF1 hs1 => get_calls _ 1 _ F1 aw_get.1)) ?_
  rintro _ _ ⟨_, ⟨vg, rfl, rfl⟩, rfl⟩
  refine at_hp (by (try simp only [List.take_zero, List.take_succ_cons, List.drop_zero, List.drop_succ_cons, List.drop_nil, List.length_cons, List.length_nil, Nat.zero_add, Nat.reduceAdd, List.set_cons_zero, List.set_cons_succ, List.nil_append, List.cons_append, List.append_nil, pick, List.filterMap_cons, List.filterMap_nil, List.getElem?_cons_zero, List.getElem?_cons_succ]); exact rfl) ?_
  refine st_p rfl rfl (p_move rfl) ?_
  refine st_p rfl rfl (p_ext rfl rfl) ?_
  refine st_p rfl rfl (p_ext rfl rfl) ?_
  refine st_p rfl rfl (p_assign rfl) ?_
  refine st_p rfl rfl (p_assign rfl) ?_
  refine at_nil ?_
  refine at_ks [0, 1, 2, 3, 4, 5] (by (try simp only [keep, lk, pd, enumE, Nat.reduceBEq, Nat.reduceAdd, cond_true, cond_false]); exact rfl) ?_
  refine at_then ?_
  refine at_seq ?_
  refine at_shapeM 0 rfl fun A cp hv hcp hcm hA => ?_
  obtain ⟨g, rfl⟩ := hA (by decide)
  subst hv
  refine at_region ?_
  refine st_p rfl rfl (p_move rfl) ?_
  refine st_l rfl rfl (l_bsV [_, _, _, _, _, _, _] _ rfl e_22 (by decide) (by decide) rfl (by simp [Value.cells]) (by simp only [List.flatMap_cons, List.flatMap_nil, Value.cells, List.nil_append, List.cons_append, List.append_nil]; exact rfl)) ?_
  rintro _ _ ⟨b20, rfl, rfl⟩
  refine at_hp (by (try simp only [List.take_zero, List.take_succ_cons, List.drop_zero, List.drop_succ_cons, List.drop_nil, List.length_cons, List.length_nil, Nat.zero_add, Nat.reduceAdd, List.set_cons_zero, List.set_cons_succ, List.nil_append, List.cons_append, List.append_nil, pick, List.filterMap_cons, List.filterMap_nil, List.getElem?_cons_zero, List.getElem?_cons_succ]); exact rfl) ?_
  refine st_q rfl rfl (q_call (first := []) rfl c_15 rfl (fun F1 hF1 hs1 => sameInts_calls _ _ 7 7 _ _ [2048, 2048, 2048, 2048, 2048, 2048, 2048] [2048, 2048, 2048, 2048, 2048, 2048, 2048] F1 rfl rfl (by decide) (fv_slice (hs1 _ (List.mem_of_getElem? (i := 3) rfl))) (fv_slice (hs1 _ (List.mem_of_getElem? (i := 0) rfl))))) ?_
  refine st_p rfl rfl (p_move rfl) ?_
  refine sg_p rfl rfl (p_move rfl) ?_
  refine sg_q rfl rfl (q_call (first := []) rfl c_18 rfl (fun F1 hF1 hs1 => err_calls _ F1)) ?_
  refine sg_p rfl rfl (p_move rfl) ?_
  refine sg_q rfl rfl (q_call (first := []) rfl c_18 rfl (fun F1 hF1 hs1 => err_calls _ F1)) ?_
  refine sg_p rfl rfl (p_add rfl rfl (by first | exact nw64 (by omega) | exact nwu64 (by omega) | exact nwu8 (by omega) | exact nwu16 (by omega) | exact wu64 _ | exact wu8 _ | exact wi64 _ | rfl)) ?_
  refine sg_p rfl rfl (p_isT (p_eql rfl rfl) (by rw [aw_get.2]; decide)) ?_
  refine st_p rfl rfl ((by first | exact p_pick_t rfl rfl | exact p_pick_f rfl rfl)) ?_
  refine st_p rfl rfl (p_move rfl) ?_
  refine sg_p rfl rfl (p_move rfl) ?_
  refine sg_p rfl rfl (p_len rfl m_23) ?_
  refine sg_p rfl rfl (p_isT (p_eql rfl rfl) (by decide)) ?_
  refine st_p rfl rfl ((by first | exact p_pick_t rfl rfl | exact p_pick_f rfl rfl)) ?_
  refine st_p rfl rfl (p_move rfl) ?_
  refine sg_p rfl rfl (p_move rfl) ?_
  refine sg_p rfl rfl ((by first | exact p_ia1 rfl rfl z_23 (by first | decide | omega) (by first | decide | omega) | exact p_iaN rfl rfl z_23 (by first | decide | omega) (by first | decide | omega) | exact p_iaO1 rfl rfl z_23 (by first | decide | omega) (by first | decide | omega) | exact p_iaO rfl rfl z_23 (by first | decide | omega) (by first | decide | omega))) ?_
  refine sg_q rfl rfl (q_slN (us := [N 2, U 1]) 1 rfl rfl r_54 s_54 rfl rfl) ?_
  refine sg_p rfl rfl (p_build (cs := #[N 2, U 1]) rfl (fun _ => by kernel_rfl)) ?_
  refine sg_p rfl rfl (p_isT (p_eqP rfl rfl pB Try.underlying3 Try.underlying52) (by decide)) ?_
  refine st_p rfl rfl ((by first | exact p_pick_t rfl rfl | exact p_pick_f rfl rfl)) ?_
  refine st_p rfl rfl (p_assign rfl) ?_
  refine at_nil ?_
  refine at_ks [0, 1, 2, 3, 4, 5] (by (try simp only [keep, lk, pd, enumE, Nat.reduceBEq, Nat.reduceAdd, cond_true, cond_false]); exact rfl) ?_
  refine at_then ?_
  refine at_retc ?_
  refine at_re [] (by decide) ?_
  exact fin_1 rfl rfl (by
      exact ⟨rfl, rfl⟩)

end Go.Proofs.Ytbpbhjnkmonlbaa