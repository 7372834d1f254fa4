/- What is no part, and what may not be asked, is told so: the walk. No condition. -/
import Derived.Test.YtbpbhjnkmonlbaaRf
namespace Go.Proofs.Ytbpbhjnkmonlbaa
open Go.RowKit Sl
set_option linter.unusedVariables false
set_option linter.unusedSimpArgs false
set_option maxRecDepth 10000
theorem made_u8 (q : Nat) : (madeCells #[.int .u8 0] (q * 1)).toList = ints .u8 (List.replicate q 0) := by
  rw [Nat.mul_one]
  exact (made_rep 1 q (.int .u8 0) (by decide)).trans (by simp [ints])

theorem refuses_calls (cl n sh : Int) (h0 : -9223372036854775808 ≤ cl) (h1 : cl ≤ 9223372036854775807) (h2 : 0 ≤ sh) (h3 : sh ≤ 255) (F : Frm) : SC Try.prog 7 #[N cl, N n, .int .u8 sh] [] F (fun u H => u = .bool true ∧ H = []) := by
  obtain ⟨q, hq⟩ : ∃ q : Nat, sh.tmod 5 = (q : Int) := ⟨(sh.tmod 5).toNat, by rw [Int.tmod_eq_emod_of_nonneg h2]; omega⟩
  have hq5 : q < 5 := by rw [Int.tmod_eq_emod_of_nonneg h2] at hq; omega
  refine sc_in (args := [N cl, N n, .int .u8 sh]) Try.func7 rfl rfl (Nat.le_of_ble_eq_true rfl) ?_
  refine at_ks [0, 1, 2, 6, 7, 8, 9, 11, 13, 15, 17, 18, 19, 21, 28] (by (try simp only [keep, lk, pd, enumE, Nat.reduceBEq, Nat.reduceAdd, cond_true, cond_false]); exact rfl) ?_
  refine at_seq ?_
  refine at_region ?_
  refine st_p rfl rfl (p_assign rfl) ?_
  refine at_nil ?_
  refine at_ks [0, 1, 2, 6, 7, 8, 9, 11, 13, 15, 17, 18, 19, 21, 28] (by (try simp only [keep, lk, pd, enumE, Nat.reduceBEq, Nat.reduceAdd, cond_true, cond_false]); exact rfl) ?_
  refine at_then ?_
  refine at_seq ?_
  refine at_region ?_
  refine st_p rfl rfl (p_move rfl) ?_
  refine st_p rfl rfl (p_assign rfl) ?_
  refine at_nil ?_
  refine at_ks [0, 1, 2, 6, 7, 8, 9, 11, 13, 15, 17, 18, 19, 21, 28] (by (try simp only [keep, lk, pd, enumE, Nat.reduceBEq, Nat.reduceAdd, cond_true, cond_false]); exact rfl) ?_
  refine at_then ?_
  refine at_seq ?_
  refine at_ks [1, 2, 7, 28] (by (try simp only [keep, lk, pd, enumE, Nat.reduceBEq, Nat.reduceAdd, cond_true, cond_false]); exact rfl) ?_
  refine at_mid (fun E H => ∃ k : Int, E = [(1, N n), (2, .int .u8 sh), (7, N k)] ∧ H = [] ∧ (k < 0 ∨ 65 ≤ k)) ?_ ?_
  · skip
    refine at_seq ?_
    refine at_ks [1, 2, 7, 28] (by (try simp only [keep, lk, pd, enumE, Nat.reduceBEq, Nat.reduceAdd, cond_true, cond_false]); exact rfl) ?_
    refine at_mid (fun E H => ∃ b : Bool, E = [(1, N n), (2, .int .u8 sh), (7, N cl), (28, .bool b)] ∧ H = [] ∧ (b = true ↔ (0 ≤ cl ∧ cl < 65))) ?_ ?_
    · skip
      refine at_region ?_
      refine st_p rfl rfl (p_move rfl) ?_
      refine st_p rfl rfl (p_geq rfl rfl) ?_
      refine st_p rfl rfl (p_move rfl) ?_
      refine at_split 25 rfl (fun ht25 => ?_) (fun ht25 => ?_)
      · (try simp only [decide_eq_true_eq, decide_eq_false_iff_not, Bool.not_eq_true', Bool.not_eq_false', Bool.not_true, Bool.not_false, Bool.or_eq_true, Bool.and_eq_true, Int.not_lt, Int.not_le] at ht25)
        refine sg_p rfl rfl (p_move rfl) ?_
        refine sg_p rfl rfl (p_lss rfl rfl) ?_
        refine st_p rfl rfl ((by first | exact p_pick_t rfl rfl | exact p_pick_f rfl rfl)) ?_
        refine at_nil ?_
        refine at_ks [0, 1, 2, 6, 7, 8, 9, 11, 13, 15, 17, 18, 19, 21, 28] (by (try simp only [keep, lk, pd, enumE, Nat.reduceBEq, Nat.reduceAdd, cond_true, cond_false]); exact rfl) ?_
        refine at_then ?_
        refine at_ks [1, 2, 7, 28] (by (try simp only [keep, lk, pd, enumE, Nat.reduceBEq, Nat.reduceAdd, cond_true, cond_false]); exact rfl) ?_
        refine at_meet (⟨_, rfl, rfl, by simp; omega⟩)
      · (try simp only [decide_eq_true_eq, decide_eq_false_iff_not, Bool.not_eq_true', Bool.not_eq_false', Bool.not_true, Bool.not_false, Bool.or_eq_true, Bool.and_eq_true, Int.not_lt, Int.not_le] at ht25)
        refine sg_no rfl rfl ?_
        refine sg_no rfl rfl ?_
        refine st_p rfl rfl ((by first | exact p_pick_t rfl rfl | exact p_pick_f rfl rfl)) ?_
        refine at_nil ?_
        refine at_ks [0, 1, 2, 6, 7, 8, 9, 11, 13, 15, 17, 18, 19, 21, 28] (by (try simp only [keep, lk, pd, enumE, Nat.reduceBEq, Nat.reduceAdd, cond_true, cond_false]); exact rfl) ?_
        refine at_then ?_
        refine at_ks [1, 2, 7, 28] (by (try simp only [keep, lk, pd, enumE, Nat.reduceBEq, Nat.reduceAdd, cond_true, cond_false]); exact rfl) ?_
        refine at_meet (⟨_, rfl, rfl, by simp; omega⟩)
    rintro _ _ ⟨b28, rfl, rfl, hb28⟩
    refine at_cond rfl (fun ht28 => ?_) (fun ht28 => ?_)
    · (try simp only [decide_eq_true_eq, decide_eq_false_iff_not, Bool.not_eq_true', Bool.not_eq_false', Bool.not_true, Bool.not_false, Bool.or_eq_true, Bool.and_eq_true, Int.not_lt, Int.not_le] at ht28)
      have hk := hb28.1 ht28
      refine at_region ?_
      refine st_p rfl rfl (p_move rfl) ?_
      refine st_p rfl rfl (p_add rfl rfl (by first | exact nw64 (by omega) | exact nwu64 (by omega) | exact nwu8 (by omega) | exact nwu16 (by omega) | exact wu64 _ | exact wu8 _ | exact wi64 _ | rfl)) ?_
      refine st_p rfl rfl (p_assign rfl) ?_
      refine at_nil ?_
      refine at_ks [0, 1, 2, 6, 7, 8, 9, 11, 13, 15, 17, 18, 19, 21, 28] (by (try simp only [keep, lk, pd, enumE, Nat.reduceBEq, Nat.reduceAdd, cond_true, cond_false]); exact rfl) ?_
      refine at_then ?_
      refine at_ks [1, 2, 7] (by (try simp only [keep, lk, pd, enumE, Nat.reduceBEq, Nat.reduceAdd, cond_true, cond_false]); exact rfl) ?_
      refine at_meet (⟨65 + cl, rfl, rfl, by omega⟩)
    · (try simp only [decide_eq_true_eq, decide_eq_false_iff_not, Bool.not_eq_true', Bool.not_eq_false', Bool.not_true, Bool.not_false, Bool.or_eq_true, Bool.and_eq_true, Int.not_lt, Int.not_le] at ht28)
      have hk : ¬ (0 ≤ cl ∧ cl < 65) := fun h => by rw [hb28.2 h] at ht28; cases ht28
      refine at_skip ?_
      refine at_then ?_
      refine at_ks [1, 2, 7] (by (try simp only [keep, lk, pd, enumE, Nat.reduceBEq, Nat.reduceAdd, cond_true, cond_false]); exact rfl) ?_
      refine at_meet (⟨cl, rfl, rfl, by omega⟩)
  rintro _ _ ⟨k, rfl, rfl, hk⟩
  refine at_seq ?_
  refine at_region ?_
  refine st_p rfl rfl (p_build (vs := []) (cs := #[N 0, U 0]) rfl (fun _ => by kernel_rfl)) ?_
  refine st_p rfl rfl (p_move rfl) ?_
  refine st_p rfl rfl (p_build (cs := #[N k, U 0]) rfl (fun _ => by kernel_rfl)) ?_
  refine st_l rfl rfl (l_bsV [.agg #[N 0, U 0], .agg #[N k, U 0]] [N 0, U 0, N k, U 0] rfl e_23 (by decide) (by decide) rfl (by simp [Value.cells]) (by simp [Value.cells])) ?_
  rintro _ _ ⟨b35, rfl, rfl⟩
  refine at_hp (by (try simp only [List.take_zero, List.take_succ_cons, List.drop_zero, List.drop_succ_cons, List.drop_nil, List.length_cons, List.length_nil, Nat.zero_add, Nat.reduceAdd, List.set_cons_zero, List.set_cons_succ, List.nil_append, List.cons_append, List.append_nil, pick, List.filterMap_cons, List.filterMap_nil, List.getElem?_cons_zero, List.getElem?_cons_succ]); exact rfl) ?_
  refine st_l rfl rfl (l_callP (first := []) (H1 := []) (H2 := _) (List.Perm.refl _) rfl c_11 rfl (fun F1 hF1 hs1 => put_calls _ 2 _ [(0, 0), (k, 0)] _ F1 rfl (by decide) (by simp) (fv_slice (hs1 _ (List.mem_of_getElem? (i := 0) rfl))) (rf_put hk))) ?_
  rintro _ _ ⟨_, ⟨rfl, rfl⟩, rfl⟩
  refine at_hp (by (try simp only [List.take_zero, List.take_succ_cons, List.drop_zero, List.drop_succ_cons, List.drop_nil, List.length_cons, List.length_nil, Nat.zero_add, Nat.reduceAdd, List.set_cons_zero, List.set_cons_succ, List.nil_append, List.cons_append, List.append_nil, pick, List.filterMap_cons, List.filterMap_nil, List.getElem?_cons_zero, List.getElem?_cons_succ]); exact rfl) ?_
  refine st_p rfl rfl (p_move rfl) ?_
  refine st_p rfl rfl (p_ext rfl rfl) ?_
  refine st_p rfl rfl (p_ext rfl rfl) ?_
  refine st_p rfl rfl (p_assign rfl) ?_
  refine st_p rfl rfl (p_assign rfl) ?_
  refine at_nil ?_
  refine at_ks [0, 1, 2, 6, 7, 8, 9, 11, 13, 15, 17, 18, 19, 21, 28] (by (try simp only [keep, lk, pd, enumE, Nat.reduceBEq, Nat.reduceAdd, cond_true, cond_false]); exact rfl) ?_
  refine at_then ?_
  refine at_seq ?_
  refine at_region ?_
  refine st_p rfl rfl (p_build (cs := #[N 1, U 1]) rfl (fun _ => by kernel_rfl)) ?_
  refine st_l rfl rfl (l_bsV [.agg #[N 1, U 1]] [N 1, U 1] rfl e_23 (by decide) (by decide) rfl (by simp [Value.cells]) (by simp [Value.cells])) ?_
  rintro _ _ ⟨b41, rfl, rfl⟩
  refine at_hp (by (try simp only [List.take_zero, List.take_succ_cons, List.drop_zero, List.drop_succ_cons, List.drop_nil, List.length_cons, List.length_nil, Nat.zero_add, Nat.reduceAdd, List.set_cons_zero, List.set_cons_succ, List.nil_append, List.cons_append, List.append_nil, pick, List.filterMap_cons, List.filterMap_nil, List.getElem?_cons_zero, List.getElem?_cons_succ]); exact rfl) ?_
  refine st_l rfl rfl (l_callP (first := []) (H1 := []) (H2 := _) (List.Perm.refl _) rfl c_11 rfl (fun F1 hF1 hs1 => put_calls _ 1 _ [(1, 1)] _ F1 rfl (by decide) (by simp) (fv_slice (hs1 _ (List.mem_of_getElem? (i := 0) rfl))) rf_one)) ?_
  rintro _ _ ⟨_, ⟨rfl, rfl⟩, rfl⟩
  refine at_hp (by (try simp only [List.take_zero, List.take_succ_cons, List.drop_zero, List.drop_succ_cons, List.drop_nil, List.length_cons, List.length_nil, Nat.zero_add, Nat.reduceAdd, List.set_cons_zero, List.set_cons_succ, List.nil_append, List.cons_append, List.append_nil, pick, List.filterMap_cons, List.filterMap_nil, List.getElem?_cons_zero, List.getElem?_cons_succ]); exact rfl) ?_
  refine st_p rfl rfl (p_move rfl) ?_
  refine st_p rfl rfl (p_ext rfl rfl) ?_
  refine st_p rfl rfl (p_ext rfl rfl) ?_
  refine st_p rfl rfl (p_assign rfl) ?_
  refine st_p rfl rfl (p_assign rfl) ?_
  refine at_nil ?_
  refine at_ks [0, 1, 2, 6, 7, 8, 9, 11, 13, 15, 17, 18, 19, 21, 28] (by (try simp only [keep, lk, pd, enumE, Nat.reduceBEq, Nat.reduceAdd, cond_true, cond_false]); exact rfl) ?_
  refine at_then ?_
  refine at_seq ?_
  refine at_region ?_
  refine st_p rfl rfl (p_move rfl) ?_
  refine st_p rfl rfl (p_min (r := mn n (-1)) rfl rfl rfl) ?_
  refine st_l rfl rfl (l_callP (first := []) (H1 := []) (H2 := _) (List.Perm.refl _) rfl c_13 rfl (fun F1 hF1 hs1 => get_calls _ _ _ F1 (rf_less (by left; unfold mn; omega)))) ?_
  rintro _ _ ⟨_, ⟨va, rfl, rfl⟩, rfl⟩
  refine at_hp (by (try simp only [List.take_zero, List.take_succ_cons, List.drop_zero, List.drop_succ_cons, List.drop_nil, List.length_cons, List.length_nil, Nat.zero_add, Nat.reduceAdd, List.set_cons_zero, List.set_cons_succ, List.nil_append, List.cons_append, List.append_nil, pick, List.filterMap_cons, List.filterMap_nil, List.getElem?_cons_zero, List.getElem?_cons_succ]); exact rfl) ?_
  refine st_p rfl rfl (p_move rfl) ?_
  refine st_p rfl rfl (p_ext rfl rfl) ?_
  refine st_p rfl rfl (p_ext rfl rfl) ?_
  refine st_p rfl rfl (p_assign rfl) ?_
  refine st_p rfl rfl (p_assign rfl) ?_
  refine at_nil ?_
  refine at_ks [0, 1, 2, 6, 7, 8, 9, 11, 13, 15, 17, 18, 19, 21, 28] (by (try simp only [keep, lk, pd, enumE, Nat.reduceBEq, Nat.reduceAdd, cond_true, cond_false]); exact rfl) ?_
  refine at_then ?_
  refine at_seq ?_
  refine at_region ?_
  refine st_p rfl rfl (p_move rfl) ?_
  refine st_p rfl rfl (p_max (r := mx n 4097) rfl rfl rfl) ?_
  refine st_l rfl rfl (l_callP (first := []) (H1 := []) (H2 := _) (List.Perm.refl _) rfl c_13 rfl (fun F1 hF1 hs1 => get_calls _ _ _ F1 (rf_less (by right; unfold mx; omega)))) ?_
  rintro _ _ ⟨_, ⟨vb, rfl, rfl⟩, rfl⟩
  refine at_hp (by (try simp only [List.take_zero, List.take_succ_cons, List.drop_zero, List.drop_succ_cons, List.drop_nil, List.length_cons, List.length_nil, Nat.zero_add, Nat.reduceAdd, List.set_cons_zero, List.set_cons_succ, List.nil_append, List.cons_append, List.append_nil, pick, List.filterMap_cons, List.filterMap_nil, List.getElem?_cons_zero, List.getElem?_cons_succ]); exact rfl) ?_
  refine st_p rfl rfl (p_move rfl) ?_
  refine st_p rfl rfl (p_ext rfl rfl) ?_
  refine st_p rfl rfl (p_ext rfl rfl) ?_
  refine st_p rfl rfl (p_assign rfl) ?_
  refine st_p rfl rfl (p_assign rfl) ?_
  refine at_nil ?_
  refine at_ks [0, 1, 2, 6, 7, 8, 9, 11, 13, 15, 17, 18, 19, 21, 28] (by (try simp only [keep, lk, pd, enumE, Nat.reduceBEq, Nat.reduceAdd, cond_true, cond_false]); exact rfl) ?_
  refine at_then ?_
  refine at_seq ?_
  refine at_region ?_
  refine st_p rfl rfl (p_move rfl) ?_
  refine st_p rfl rfl (p_conv rfl Try.underlying5 Try.underlying3 (by first | exact nw64 (by omega) | exact nwu64 (by omega) | exact nwu8 (by omega) | exact nwu16 (by omega) | exact wu64 _ | exact wu8 _ | exact wi64 _ | rfl)) ?_
  refine st_p rfl rfl (p_rem (r := (q : Int)) rfl rfl (by decide) hq) ?_
  refine st_l rfl rfl (l_make (m := q) e_46 rfl rfl (by omega) (by simp only [maxLen]; omega)) ?_
  rintro _ _ ⟨b61, rfl, rfl⟩
  rw [made_u8]
  refine at_hp (by (try simp only [List.take_zero, List.take_succ_cons, List.drop_zero, List.drop_succ_cons, List.drop_nil, List.length_cons, List.length_nil, Nat.zero_add, Nat.reduceAdd, List.set_cons_zero, List.set_cons_succ, List.nil_append, List.cons_append, List.append_nil, pick, List.filterMap_cons, List.filterMap_nil, List.getElem?_cons_zero, List.getElem?_cons_succ]); exact rfl) ?_
  refine st_q rfl rfl ((by first | exact q_str 0 rfl rfl Try.underlying46 Try.underlying5 Try.underlying9 | exact q_str 1 rfl rfl Try.underlying46 Try.underlying5 Try.underlying9 | exact q_str 2 rfl rfl Try.underlying46 Try.underlying5 Try.underlying9 | exact q_str 3 rfl rfl Try.underlying46 Try.underlying5 Try.underlying9 | exact q_str 4 rfl rfl Try.underlying46 Try.underlying5 Try.underlying9 | exact q_str 5 rfl rfl Try.underlying46 Try.underlying5 Try.underlying9 | exact q_str 6 rfl rfl Try.underlying46 Try.underlying5 Try.underlying9)) ?_
  refine st_l rfl rfl (l_callP (first := []) (H1 := []) (H2 := _) (List.Perm.refl _) rfl c_13 rfl (fun F1 hF1 hs1 => get_calls _ _ _ F1 (rf_short q hq5))) ?_
  rintro _ _ ⟨_, ⟨vc, rfl, rfl⟩, rfl⟩
  refine at_hp (by (try simp only [List.take_zero, List.take_succ_cons, List.drop_zero, List.drop_succ_cons, List.drop_nil, List.length_cons, List.length_nil, Nat.zero_add, Nat.reduceAdd, List.set_cons_zero, List.set_cons_succ, List.nil_append, List.cons_append, List.append_nil, pick, List.filterMap_cons, List.filterMap_nil, List.getElem?_cons_zero, List.getElem?_cons_succ]); exact rfl) ?_
  refine st_p rfl rfl (p_move rfl) ?_
  refine st_p rfl rfl (p_ext rfl rfl) ?_
  refine st_p rfl rfl (p_ext rfl rfl) ?_
  refine st_p rfl rfl (p_assign rfl) ?_
  refine st_p rfl rfl (p_assign rfl) ?_
  refine at_nil ?_
  refine at_ks [0, 1, 2, 6, 7, 8, 9, 11, 13, 15, 17, 18, 19, 21, 28] (by (try simp only [keep, lk, pd, enumE, Nat.reduceBEq, Nat.reduceAdd, cond_true, cond_false]); exact rfl) ?_
  refine at_then ?_
  refine at_seq ?_
  refine at_region ?_
  refine st_l rfl rfl (l_callP (first := []) (H1 := []) (H2 := _) (List.Perm.refl _) rfl c_13 rfl (fun F1 hF1 hs1 => get_calls _ _ _ F1 rf_five)) ?_
  rintro _ _ ⟨_, ⟨vd, rfl, rfl⟩, rfl⟩
  refine at_hp (by (try simp only [List.take_zero, List.take_succ_cons, List.drop_zero, List.drop_succ_cons, List.drop_nil, List.length_cons, List.length_nil, Nat.zero_add, Nat.reduceAdd, List.set_cons_zero, List.set_cons_succ, List.nil_append, List.cons_append, List.append_nil, pick, List.filterMap_cons, List.filterMap_nil, List.getElem?_cons_zero, List.getElem?_cons_succ]); exact rfl) ?_
  refine st_p rfl rfl (p_move rfl) ?_
  refine st_p rfl rfl (p_ext rfl rfl) ?_
  refine st_p rfl rfl (p_ext rfl rfl) ?_
  refine st_p rfl rfl (p_assign rfl) ?_
  refine st_p rfl rfl (p_assign rfl) ?_
  refine at_nil ?_
  refine at_ks [0, 1, 2, 6, 7, 8, 9, 11, 13, 15, 17, 18, 19, 21, 28] (by (try simp only [keep, lk, pd, enumE, Nat.reduceBEq, Nat.reduceAdd, cond_true, cond_false]); exact rfl) ?_
  refine at_then ?_
  refine at_seq ?_
  refine at_region ?_
  refine st_l rfl rfl (l_callP (first := []) (H1 := []) (H2 := _) (List.Perm.refl _) rfl c_13 rfl (fun F1 hF1 hs1 => get_calls _ _ _ F1 rf_six)) ?_
  rintro _ _ ⟨_, ⟨ve, rfl, rfl⟩, rfl⟩
  refine at_hp (by (try simp only [List.take_zero, List.take_succ_cons, List.drop_zero, List.drop_succ_cons, List.drop_nil, List.length_cons, List.length_nil, Nat.zero_add, Nat.reduceAdd, List.set_cons_zero, List.set_cons_succ, List.nil_append, List.cons_append, List.append_nil, pick, List.filterMap_cons, List.filterMap_nil, List.getElem?_cons_zero, List.getElem?_cons_succ]); exact rfl) ?_
  refine st_p rfl rfl (p_move rfl) ?_
  refine st_p rfl rfl (p_ext rfl rfl) ?_
  refine st_p rfl rfl (p_ext rfl rfl) ?_
  refine st_p rfl rfl (p_assign rfl) ?_
  refine st_p rfl rfl (p_assign rfl) ?_
  refine at_nil ?_
  refine at_ks [0, 1, 2, 6, 7, 8, 9, 11, 13, 15, 17, 18, 19, 21, 28] (by (try simp only [keep, lk, pd, enumE, Nat.reduceBEq, Nat.reduceAdd, cond_true, cond_false]); exact rfl) ?_
  refine at_then ?_
  refine at_seq ?_
  refine at_shapeM 1 rfl fun A cp hv _ _ _ => ?_
  subst hv
  refine at_region ?_
  refine st_p rfl rfl (p_move rfl) ?_
  refine st_p rfl rfl (p_isT (p_eqs rfl rfl) (by decide)) ?_
  refine st_p rfl rfl (p_move rfl) ?_
  refine sg_p rfl rfl (p_move rfl) ?_
  refine sg_q rfl rfl (q_call (first := []) rfl c_18 rfl (fun F1 hF1 hs1 => err_calls _ F1)) ?_
  refine sg_p rfl rfl (p_isT (p_eql rfl rfl) (by decide)) ?_
  refine st_p rfl rfl ((by first | exact p_pick_t rfl rfl | exact p_pick_f rfl rfl)) ?_
  refine st_p rfl rfl (p_move rfl) ?_
  refine sg_p rfl rfl (p_move rfl) ?_
  refine sg_q rfl rfl (q_call (first := []) rfl c_18 rfl (fun F1 hF1 hs1 => err_calls _ F1)) ?_
  refine sg_p rfl rfl (p_isT (p_eql rfl rfl) (by decide)) ?_
  refine st_p rfl rfl ((by first | exact p_pick_t rfl rfl | exact p_pick_f rfl rfl)) ?_
  refine st_p rfl rfl (p_move rfl) ?_
  refine sg_p rfl rfl (p_move rfl) ?_
  refine sg_q rfl rfl (q_call (first := []) rfl c_18 rfl (fun F1 hF1 hs1 => err_calls _ F1)) ?_
  refine sg_p rfl rfl (p_isT (p_eql rfl rfl) (by decide)) ?_
  refine st_p rfl rfl ((by first | exact p_pick_t rfl rfl | exact p_pick_f rfl rfl)) ?_
  refine st_p rfl rfl (p_move rfl) ?_
  refine sg_p rfl rfl (p_move rfl) ?_
  refine sg_q rfl rfl (q_call (first := []) rfl c_18 rfl (fun F1 hF1 hs1 => err_calls _ F1)) ?_
  refine sg_p rfl rfl (p_isT (p_eql rfl rfl) (by decide)) ?_
  refine st_p rfl rfl ((by first | exact p_pick_t rfl rfl | exact p_pick_f rfl rfl)) ?_
  refine st_p rfl rfl (p_move rfl) ?_
  refine sg_p rfl rfl (p_move rfl) ?_
  refine sg_q rfl rfl (q_call (first := []) rfl c_18 rfl (fun F1 hF1 hs1 => err_calls _ F1)) ?_
  refine sg_p rfl rfl (p_isT (p_eql rfl rfl) (by decide)) ?_
  refine st_p rfl rfl ((by first | exact p_pick_t rfl rfl | exact p_pick_f rfl rfl)) ?_
  refine st_p rfl rfl (p_move rfl) ?_
  refine sg_p rfl rfl (p_move rfl) ?_
  refine sg_q rfl rfl (q_call (first := []) rfl c_18 rfl (fun F1 hF1 hs1 => err_calls _ F1)) ?_
  refine sg_p rfl rfl (p_isT (p_eql rfl rfl) (by decide)) ?_
  refine st_p rfl rfl ((by first | exact p_pick_t rfl rfl | exact p_pick_f rfl rfl)) ?_
  refine st_p rfl rfl (p_move rfl) ?_
  refine sg_p rfl rfl (p_move rfl) ?_
  refine sg_p rfl rfl (p_len rfl m_23) ?_
  refine sg_p rfl rfl (p_isT (p_eql rfl rfl) (by decide)) ?_
  refine st_p rfl rfl ((by first | exact p_pick_t rfl rfl | exact p_pick_f rfl rfl)) ?_
  refine st_p rfl rfl (p_move rfl) ?_
  refine sg_p rfl rfl (p_move rfl) ?_
  refine sg_q rfl rfl (q_call (first := []) rfl c_18 rfl (fun F1 hF1 hs1 => err_calls _ F1)) ?_
  refine sg_p rfl rfl (p_isT (p_eql rfl rfl) (by decide)) ?_
  refine st_p rfl rfl ((by first | exact p_pick_t rfl rfl | exact p_pick_f rfl rfl)) ?_
  refine st_p rfl rfl (p_move rfl) ?_
  refine sg_q rfl rfl (q_call (first := []) rfl c_10 rfl (fun F1 hF1 hs1 => awake_calls F1)) ?_
  refine st_p rfl rfl ((by first | exact p_pick_t rfl rfl | exact p_pick_f rfl rfl)) ?_
  refine st_p rfl rfl (p_assign rfl) ?_
  refine at_nil ?_
  refine at_ks [0, 1, 2, 6, 7, 8, 9, 11, 13, 15, 17, 18, 19, 21, 28] (by (try simp only [keep, lk, pd, enumE, Nat.reduceBEq, Nat.reduceAdd, cond_true, cond_false]); exact rfl) ?_
  refine at_then ?_
  refine at_retc ?_
  refine at_re [] (by decide) ?_
  exact fin_1 rfl rfl (by
      exact ⟨rfl, rfl⟩)

end Go.Proofs.Ytbpbhjnkmonlbaa