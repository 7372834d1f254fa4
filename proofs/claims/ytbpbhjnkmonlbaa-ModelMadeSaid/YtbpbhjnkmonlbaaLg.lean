/- The mixer, and the nodes of a class: walks. No condition. -/
import Derived.Test.YtbpbhjnkmonlbaaLf
namespace Go.Proofs.Ytbpbhjnkmonlbaa
open Go.RowKit Sl
set_option linter.unusedVariables false
set_option linter.unusedSimpArgs false
set_option maxRecDepth 10000
theorem shr16 (x : Int) : x.fdiv (2 ^ min (16 : Int).toNat IntKind.i64.bits) = x / 65536 := by
  simp [IntKind.bits, Int.fdiv_eq_ediv_of_nonneg]
theorem shr10 (x : Int) : x.fdiv (2 ^ min (10 : Int).toNat IntKind.i64.bits) = x / 1024 := by
  simp [IntKind.bits, Int.fdiv_eq_ediv_of_nonneg]
theorem shrN (x i : Int) (h : i ≤ 64) : x.fdiv (2 ^ min i.toNat IntKind.i64.bits) = x / 2 ^ i.toNat := by
  rw [show min i.toNat IntKind.i64.bits = i.toNat from by simp [IntKind.bits]; omega, Int.fdiv_eq_ediv_of_nonneg _ (Int.pow_nonneg (by decide))]
theorem and1 {x : Int} (h0 : 0 ≤ x) (h : x < 9223372036854775808) : IntKind.i64.wrap ↑((x % 2 ^ IntKind.i64.bits).toNat &&& ((1 : Int) % 2 ^ IntKind.i64.bits).toNat) = x % 2 := by
  have e1 : (x % 2 ^ IntKind.i64.bits).toNat = x.toNat := by simp [IntKind.bits]; omega
  have e2 : ((1 : Int) % 2 ^ IntKind.i64.bits).toNat = 1 := by simp [IntKind.bits]
  rw [e1, e2, Nat.and_one_is_mod, nw64 (by omega)]
  omega

theorem mix_calls (A B : Option Addr) (n ca cb : Nat) (ws xs : List Int) (F : Frm) (hn : ws.length = n) (hm : xs.length = n) (h6 : n ≤ 1000000) (hx : FV F A (ints .i64 ws)) (hy : FV F B (ints .i64 xs)) : SC Try.prog 80 #[.slice A n ca, .slice B n cb] [] F (fun u H => u = N (mixv ws xs) ∧ H = []) := by
  refine sc_in (args := [.slice A n ca, .slice B n cb]) Try.func80 rfl rfl (Nat.le_of_ble_eq_true rfl) ?_
  refine at_ks [0, 1, 4, 5, 6, 11, 12, 13] (by (try simp only [keep, lk, pd, enumE, Nat.reduceBEq, Nat.reduceAdd, cond_true, cond_false]); exact rfl) ?_
  refine at_seq ?_
  refine at_region ?_
  refine st_p rfl rfl (p_assign rfl) ?_
  refine at_nil ?_
  refine at_ks [0, 1, 4, 5, 6, 11, 12, 13] (by (try simp only [keep, lk, pd, enumE, Nat.reduceBEq, Nat.reduceAdd, cond_true, cond_false]); exact rfl) ?_
  refine at_then ?_
  refine at_seq ?_
  refine at_region ?_
  refine st_p rfl rfl (p_assign rfl) ?_
  refine at_nil ?_
  refine at_ks [0, 1, 4, 5, 6, 11, 12, 13] (by (try simp only [keep, lk, pd, enumE, Nat.reduceBEq, Nat.reduceAdd, cond_true, cond_false]); exact rfl) ?_
  refine at_then ?_
  refine at_seq ?_
  refine at_seq ?_
  refine at_region ?_
  refine st_p rfl rfl (p_move rfl) ?_
  refine st_p rfl rfl (p_len rfl m_22) ?_
  refine st_p rfl rfl (p_move rfl) ?_
  refine st_p rfl rfl (p_len rfl m_22) ?_
  refine st_p rfl rfl (p_min (r := (n : Int)) rfl rfl (by split <;> rfl)) ?_
  refine st_p rfl rfl (p_move rfl) ?_
  refine at_nil ?_
  refine at_ks [0, 1, 4, 5, 6, 11, 12, 13] (by (try simp only [keep, lk, pd, enumE, Nat.reduceBEq, Nat.reduceAdd, cond_true, cond_false]); exact rfl) ?_
  refine at_then ?_
  refine at_block ?_
  refine at_ks [0, 1, 5, 11, 12] (by (try simp only [keep, lk, pd, enumE, Nat.reduceBEq, Nat.reduceAdd, cond_true, cond_false]); exact rfl) ?_
  refine at_loop (fun k E H => ∃ i : Nat, E = [(0, .slice A n ca), (1, .slice B n cb), (5, N (mxs ws xs i)), (11, N (n : Int)), (12, N (i : Int))] ∧ H = [] ∧ i ≤ n ∧ k + i = n + 1) (n + 1) (⟨0, rfl, rfl, by omega, by omega⟩) ?_
  rintro k _ _ ⟨i, rfl, rfl, hin, hk⟩
  refine at_seq ?_
  refine at_region ?_
  refine st_p rfl rfl (p_lss rfl rfl) ?_
  refine at_nil ?_
  refine at_ks [0, 1, 4, 5, 6, 11, 12, 13] (by (try simp only [keep, lk, pd, enumE, Nat.reduceBEq, Nat.reduceAdd, cond_true, cond_false]); exact rfl) ?_
  refine at_then ?_
  refine at_seq ?_
  refine at_cond rfl (fun ht13 => ?_) (fun ht13 => ?_)
  · (try simp only [decide_eq_true_eq, decide_eq_false_iff_not, Bool.not_eq_true', Bool.not_eq_false', Bool.not_true, Bool.not_false, Bool.or_eq_true, Bool.and_eq_true, Int.not_lt, Int.not_le] at ht13)
    obtain ⟨ba, oa, rfl, hga⟩ := hx.int (i := (i : Int)) (by omega) (by omega)
    obtain ⟨bb, ob, rfl, hgb⟩ := hy.int (i := (i : Int)) (by omega) (by omega)
    have hb := mxs_in ws xs i
    have hb' := mxs_in ws xs (i + 1)
    have hm := mul_in (cl_in (m := 1048576) (by decide) (gi ws i)) (cl_in (m := 2047) (by decide) (gi xs i))
    have e0 : (1048576 : Int) * 2047 = 2146435072 := by decide
    rw [e0] at hm
    refine at_skip ?_
    refine at_then ?_
    refine at_seq ?_
    refine at_block ?_
    refine at_seq ?_
    refine at_region ?_
    refine st_p rfl rfl (p_move rfl) ?_
    refine st_p rfl rfl (p_assign rfl) ?_
    refine at_nil ?_
    refine at_ks [0, 1, 4, 5, 6, 11, 12, 13] (by (try simp only [keep, lk, pd, enumE, Nat.reduceBEq, Nat.reduceAdd, cond_true, cond_false]); exact rfl) ?_
    refine at_then ?_
    refine at_drawH [0, 1, 2, 3, 4, 5, 6, 7, 8, 9, 10, 11, 12, 13] [0, 0, 0, 6, 14, 30, 0, 0, 192, 448, 1022, 2046, 4095, 8191] [4, 5, 9, 10] [] mixd (by kernel_rfl) ?_
    refine rd_p rfl rfl rfl rfl rfl (p_move rfl) ?_
    refine rd_p rfl rfl rfl rfl rfl (p_move rfl) ?_
    refine rd_p rfl rfl rfl rfl rfl (p_move rfl) ?_
    refine rd_p rfl rfl rfl rfl rfl ((by first | exact p_ia1 rfl rfl z_22 (by first | decide | omega) (by first | decide | omega) | exact p_iaN rfl rfl z_22 (by first | decide | omega) (by first | decide | omega) | exact p_iaO1 rfl rfl z_22 (by first | decide | omega) (by first | decide | omega) | exact p_iaO rfl rfl z_22 (by first | decide | omega) (by first | decide | omega))) ?_
    refine rd_q rfl rfl rfl rfl rfl ((by first | exact q_ob 0 rfl rfl r_3 (by first | rfl | assumption) | exact q_ob 1 rfl rfl r_3 (by first | rfl | assumption) | exact q_ob 2 rfl rfl r_3 (by first | rfl | assumption) | exact q_ob 3 rfl rfl r_3 (by first | rfl | assumption) | exact q_ob 4 rfl rfl r_3 (by first | rfl | assumption) | exact q_ob 5 rfl rfl r_3 (by first | rfl | assumption) | exact q_sl 0 rfl rfl r_3 (by first | rfl | assumption) | exact q_sl 1 rfl rfl r_3 (by first | rfl | assumption) | exact q_sl 2 rfl rfl r_3 (by first | rfl | assumption) | exact q_sl 3 rfl rfl r_3 (by first | rfl | assumption) | exact q_sl 4 rfl rfl r_3 (by first | rfl | assumption) | exact q_sl 5 rfl rfl r_3 (by first | rfl | assumption) | exact q_fr rfl r_3 (by assumption))) (fun _ h => h) ?_
    refine rd_q rfl rfl rfl rfl rfl (q_call (first := []) rfl c_84 rfl (fun F1 hF1 hs1 => weight_calls _ F1)) (fun _ h => h) ?_
    refine rd_p rfl rfl rfl rfl rfl (p_move rfl) ?_
    refine rd_p rfl rfl rfl rfl rfl (p_move rfl) ?_
    refine rd_p rfl rfl rfl rfl rfl ((by first | exact p_ia1 rfl rfl z_22 (by first | decide | omega) (by first | decide | omega) | exact p_iaN rfl rfl z_22 (by first | decide | omega) (by first | decide | omega) | exact p_iaO1 rfl rfl z_22 (by first | decide | omega) (by first | decide | omega) | exact p_iaO rfl rfl z_22 (by first | decide | omega) (by first | decide | omega))) ?_
    refine rd_q rfl rfl rfl rfl rfl ((by first | exact q_ob 0 rfl rfl r_3 (by first | rfl | assumption) | exact q_ob 1 rfl rfl r_3 (by first | rfl | assumption) | exact q_ob 2 rfl rfl r_3 (by first | rfl | assumption) | exact q_ob 3 rfl rfl r_3 (by first | rfl | assumption) | exact q_ob 4 rfl rfl r_3 (by first | rfl | assumption) | exact q_ob 5 rfl rfl r_3 (by first | rfl | assumption) | exact q_sl 0 rfl rfl r_3 (by first | rfl | assumption) | exact q_sl 1 rfl rfl r_3 (by first | rfl | assumption) | exact q_sl 2 rfl rfl r_3 (by first | rfl | assumption) | exact q_sl 3 rfl rfl r_3 (by first | rfl | assumption) | exact q_sl 4 rfl rfl r_3 (by first | rfl | assumption) | exact q_sl 5 rfl rfl r_3 (by first | rfl | assumption) | exact q_fr rfl r_3 (by assumption))) (fun _ h => h) ?_
    refine rd_q rfl rfl rfl rfl rfl (q_call (first := []) rfl c_85 rfl (fun F1 hF1 hs1 => input_calls _ F1)) (fun _ h => h) ?_
    refine rd_p rfl rfl rfl rfl rfl (p_mul rfl rfl (by first | exact nw64 (by omega) | exact nwu64 (by omega) | exact nwu8 (by omega) | exact nwu16 (by omega) | exact wu64 _ | exact wu8 _ | exact wi64 _ | rfl)) ?_
    refine rd_p rfl rfl rfl rfl rfl (p_add rfl rfl (by first | exact nw64 (by omega) | exact nwu64 (by omega) | exact nwu8 (by omega) | exact nwu16 (by omega) | exact wu64 _ | exact wu8 _ | exact wi64 _ | rfl)) ?_
    refine rd_p rfl rfl rfl rfl rfl (p_assign rfl) ?_
    refine rd_nil ?_
    refine at_ks [0, 1, 4, 5, 6, 11, 12, 13] (by (try simp only [keep, lk, pd, enumE, Nat.reduceBEq, Nat.reduceAdd, cond_true, cond_false]); exact rfl) ?_
    refine at_inb ?_
    refine at_then ?_
    refine at_region ?_
    refine st_p rfl rfl (p_add rfl rfl (by first | exact nw64 (by omega) | exact nwu64 (by omega) | exact nwu8 (by omega) | exact nwu16 (by omega) | exact wu64 _ | exact wu8 _ | exact wi64 _ | rfl)) ?_
    refine st_p rfl rfl (p_move rfl) ?_
    refine at_nil ?_
    refine at_ks [0, 1, 4, 5, 6, 11, 12, 13] (by (try simp only [keep, lk, pd, enumE, Nat.reduceBEq, Nat.reduceAdd, cond_true, cond_false]); exact rfl) ?_
    refine at_ks [0, 1, 5, 11, 12] (by (try simp only [keep, lk, pd, enumE, Nat.reduceBEq, Nat.reduceAdd, cond_true, cond_false]); exact rfl) ?_
    refine at_back (k - 1) (by omega) ⟨i + 1, rfl, rfl, by omega, by omega⟩
  · (try simp only [decide_eq_true_eq, decide_eq_false_iff_not, Bool.not_eq_true', Bool.not_eq_false', Bool.not_true, Bool.not_false, Bool.or_eq_true, Bool.and_eq_true, Int.not_lt, Int.not_le] at ht13)
    obtain rfl : n = i := by omega
    refine at_exit ?_
    refine at_then_x ?_
    refine at_then_x ?_
    refine at_inb_exit ?_
    refine at_then ?_
    refine at_seq ?_
    refine at_region ?_
    refine st_p rfl rfl (p_move rfl) ?_
    refine st_p rfl rfl (p_shr rfl rfl (by decide) (shr16 _)) ?_
    refine st_q rfl rfl (q_call (first := []) rfl c_85 rfl (fun F1 hF1 hs1 => input_calls _ F1)) ?_
    refine st_q rfl rfl (q_call (first := []) rfl c_83 rfl (fun F1 hF1 hs1 => squash_calls _ F1)) ?_
    refine st_p rfl rfl (p_assign rfl) ?_
    refine at_nil ?_
    refine at_ks [0, 1, 4, 5, 6, 11, 12, 13] (by (try simp only [keep, lk, pd, enumE, Nat.reduceBEq, Nat.reduceAdd, cond_true, cond_false]); exact rfl) ?_
    refine at_then ?_
    refine at_retc ?_
    exact fin_1 rfl rfl (by
        exact ⟨by rw [sqv_cl]; unfold mixv; rw [hn, hm, Nat.min_self], rfl⟩)

theorem rmix_calls (A B : Option Addr) (n ca cb : Nat) (ws xs : List Int) (F : Frm) (hn : ws.length = n) (hm : xs.length = n) (h6 : n ≤ 1000000) (hx : FV F A (ints .i64 ws)) (hy : FV F B (ints .i64 xs)) : SC Try.prog 59 #[.slice A n ca, .slice B n cb] [] F (fun u H => u = N (mixv ws xs) ∧ H = []) := by
  refine sc_in (args := [.slice A n ca, .slice B n cb]) Try.func59 rfl rfl (Nat.le_of_ble_eq_true rfl) ?_
  refine at_ks [0, 1, 4, 5, 6, 16] (by (try simp only [keep, lk, pd, enumE, Nat.reduceBEq, Nat.reduceAdd, cond_true, cond_false]); exact rfl) ?_
  refine at_seq ?_
  refine at_region ?_
  refine st_p rfl rfl (p_assign rfl) ?_
  refine at_nil ?_
  refine at_ks [0, 1, 4, 5, 6, 16] (by (try simp only [keep, lk, pd, enumE, Nat.reduceBEq, Nat.reduceAdd, cond_true, cond_false]); exact rfl) ?_
  refine at_then ?_
  refine at_seq ?_
  refine at_region ?_
  refine st_p rfl rfl (p_assign rfl) ?_
  refine at_nil ?_
  refine at_ks [0, 1, 4, 5, 6, 16] (by (try simp only [keep, lk, pd, enumE, Nat.reduceBEq, Nat.reduceAdd, cond_true, cond_false]); exact rfl) ?_
  refine at_then ?_
  refine at_seq ?_
  refine at_seq ?_
  refine at_region ?_
  refine st_p rfl rfl (p_assign rfl) ?_
  refine at_nil ?_
  refine at_ks [0, 1, 4, 5, 6, 16] (by (try simp only [keep, lk, pd, enumE, Nat.reduceBEq, Nat.reduceAdd, cond_true, cond_false]); exact rfl) ?_
  refine at_then ?_
  refine at_block ?_
  refine at_ks [0, 1, 5, 6] (by (try simp only [keep, lk, pd, enumE, Nat.reduceBEq, Nat.reduceAdd, cond_true, cond_false]); exact rfl) ?_
  refine at_loop (fun k E H => ∃ i : Nat, E = [(0, .slice A n ca), (1, .slice B n cb), (5, N (mxs ws xs i)), (6, N (i : Int))] ∧ H = [] ∧ i ≤ n ∧ k + i = n + 1) (n + 1) (⟨0, rfl, rfl, by omega, by omega⟩) ?_
  rintro k _ _ ⟨i, rfl, rfl, hin, hk⟩
  refine at_seq ?_
  refine at_seq ?_
  refine at_region ?_
  refine st_p rfl rfl (p_move rfl) ?_
  refine st_p rfl rfl (p_move rfl) ?_
  refine st_p rfl rfl (p_len rfl m_22) ?_
  refine st_p rfl rfl (p_lss rfl rfl) ?_
  refine st_p rfl rfl (p_move rfl) ?_
  refine at_split 11 rfl (fun ht11 => ?_) (fun ht11 => ?_)
  · (try simp only [decide_eq_true_eq, decide_eq_false_iff_not, Bool.not_eq_true', Bool.not_eq_false', Bool.not_true, Bool.not_false, Bool.or_eq_true, Bool.and_eq_true, Int.not_lt, Int.not_le] at ht11)
    refine sg_p rfl rfl (p_move rfl) ?_
    refine sg_p rfl rfl (p_move rfl) ?_
    refine sg_p rfl rfl (p_len rfl m_22) ?_
    refine sg_p rfl rfl (p_lss rfl rfl) ?_
    refine st_p rfl rfl ((by first | exact p_pick_t rfl rfl | exact p_pick_f rfl rfl)) ?_
    refine at_nil ?_
    refine at_ks [0, 1, 4, 5, 6, 16] (by (try simp only [keep, lk, pd, enumE, Nat.reduceBEq, Nat.reduceAdd, cond_true, cond_false]); exact rfl) ?_
    refine at_then ?_
    refine at_cond rfl (fun ht16 => ?_) (fun ht16 => ?_)
    · (try simp only [decide_eq_true_eq, decide_eq_false_iff_not, Bool.not_eq_true', Bool.not_eq_false', Bool.not_true, Bool.not_false, Bool.or_eq_true, Bool.and_eq_true, Int.not_lt, Int.not_le] at ht16)
      obtain ⟨ba, oa, rfl, hga⟩ := hx.int (i := (i : Int)) (by omega) (by omega)
      obtain ⟨bb, ob, rfl, hgb⟩ := hy.int (i := (i : Int)) (by omega) (by omega)
      have hb := mxs_in ws xs i
      have hb' := mxs_in ws xs (i + 1)
      have hm := mul_in (cl_in (m := 1048576) (by decide) (gi ws i)) (cl_in (m := 2047) (by decide) (gi xs i))
      have e0 : (1048576 : Int) * 2047 = 2146435072 := by decide
      rw [e0] at hm
      refine at_skip ?_
      refine at_then ?_
      refine at_seq ?_
      refine at_block ?_
      refine at_drawH [0, 1, 2, 3, 4, 5, 6, 7, 8, 9, 10, 11, 12, 13] [0, 0, 0, 6, 14, 30, 0, 0, 192, 448, 1022, 2046, 4095, 8191] [4, 5, 9, 10] [] mixd (by kernel_rfl) ?_
      refine rd_p rfl rfl rfl rfl rfl (p_move rfl) ?_
      refine rd_p rfl rfl rfl rfl rfl (p_move rfl) ?_
      refine rd_p rfl rfl rfl rfl rfl (p_move rfl) ?_
      refine rd_p rfl rfl rfl rfl rfl ((by first | exact p_ia1 rfl rfl z_22 (by first | decide | omega) (by first | decide | omega) | exact p_iaN rfl rfl z_22 (by first | decide | omega) (by first | decide | omega) | exact p_iaO1 rfl rfl z_22 (by first | decide | omega) (by first | decide | omega) | exact p_iaO rfl rfl z_22 (by first | decide | omega) (by first | decide | omega))) ?_
      refine rd_q rfl rfl rfl rfl rfl ((by first | exact q_ob 0 rfl rfl r_3 (by first | rfl | assumption) | exact q_ob 1 rfl rfl r_3 (by first | rfl | assumption) | exact q_ob 2 rfl rfl r_3 (by first | rfl | assumption) | exact q_ob 3 rfl rfl r_3 (by first | rfl | assumption) | exact q_ob 4 rfl rfl r_3 (by first | rfl | assumption) | exact q_ob 5 rfl rfl r_3 (by first | rfl | assumption) | exact q_sl 0 rfl rfl r_3 (by first | rfl | assumption) | exact q_sl 1 rfl rfl r_3 (by first | rfl | assumption) | exact q_sl 2 rfl rfl r_3 (by first | rfl | assumption) | exact q_sl 3 rfl rfl r_3 (by first | rfl | assumption) | exact q_sl 4 rfl rfl r_3 (by first | rfl | assumption) | exact q_sl 5 rfl rfl r_3 (by first | rfl | assumption) | exact q_fr rfl r_3 (by assumption))) (fun _ h => h) ?_
      refine rd_q rfl rfl rfl rfl rfl (q_call (first := []) rfl c_75 rfl (fun F1 hF1 hs1 => rcut_calls _ _ F1 (by decide) (by decide))) (fun _ h => h) ?_
      refine rd_p rfl rfl rfl rfl rfl (p_move rfl) ?_
      refine rd_p rfl rfl rfl rfl rfl (p_move rfl) ?_
      refine rd_p rfl rfl rfl rfl rfl ((by first | exact p_ia1 rfl rfl z_22 (by first | decide | omega) (by first | decide | omega) | exact p_iaN rfl rfl z_22 (by first | decide | omega) (by first | decide | omega) | exact p_iaO1 rfl rfl z_22 (by first | decide | omega) (by first | decide | omega) | exact p_iaO rfl rfl z_22 (by first | decide | omega) (by first | decide | omega))) ?_
      refine rd_q rfl rfl rfl rfl rfl ((by first | exact q_ob 0 rfl rfl r_3 (by first | rfl | assumption) | exact q_ob 1 rfl rfl r_3 (by first | rfl | assumption) | exact q_ob 2 rfl rfl r_3 (by first | rfl | assumption) | exact q_ob 3 rfl rfl r_3 (by first | rfl | assumption) | exact q_ob 4 rfl rfl r_3 (by first | rfl | assumption) | exact q_ob 5 rfl rfl r_3 (by first | rfl | assumption) | exact q_sl 0 rfl rfl r_3 (by first | rfl | assumption) | exact q_sl 1 rfl rfl r_3 (by first | rfl | assumption) | exact q_sl 2 rfl rfl r_3 (by first | rfl | assumption) | exact q_sl 3 rfl rfl r_3 (by first | rfl | assumption) | exact q_sl 4 rfl rfl r_3 (by first | rfl | assumption) | exact q_sl 5 rfl rfl r_3 (by first | rfl | assumption) | exact q_fr rfl r_3 (by assumption))) (fun _ h => h) ?_
      refine rd_q rfl rfl rfl rfl rfl (q_call (first := []) rfl c_75 rfl (fun F1 hF1 hs1 => rcut_calls _ _ F1 (by decide) (by decide))) (fun _ h => h) ?_
      refine rd_p rfl rfl rfl rfl rfl (p_mul rfl rfl (by first | exact nw64 (by omega) | exact nwu64 (by omega) | exact nwu8 (by omega) | exact nwu16 (by omega) | exact wu64 _ | exact wu8 _ | exact wi64 _ | rfl)) ?_
      refine rd_p rfl rfl rfl rfl rfl (p_add rfl rfl (by first | exact nw64 (by omega) | exact nwu64 (by omega) | exact nwu8 (by omega) | exact nwu16 (by omega) | exact wu64 _ | exact wu8 _ | exact wi64 _ | rfl)) ?_
      refine rd_p rfl rfl rfl rfl rfl (p_assign rfl) ?_
      refine rd_nil ?_
      refine at_ks [0, 1, 4, 5, 6, 16] (by (try simp only [keep, lk, pd, enumE, Nat.reduceBEq, Nat.reduceAdd, cond_true, cond_false]); exact rfl) ?_
      refine at_inb ?_
      refine at_then ?_
      refine at_region ?_
      refine st_p rfl rfl (p_move rfl) ?_
      refine st_p rfl rfl (p_add rfl rfl (by first | exact nw64 (by omega) | exact nwu64 (by omega) | exact nwu8 (by omega) | exact nwu16 (by omega) | exact wu64 _ | exact wu8 _ | exact wi64 _ | rfl)) ?_
      refine st_p rfl rfl (p_assign rfl) ?_
      refine at_nil ?_
      refine at_ks [0, 1, 4, 5, 6, 16] (by (try simp only [keep, lk, pd, enumE, Nat.reduceBEq, Nat.reduceAdd, cond_true, cond_false]); exact rfl) ?_
      refine at_ks [0, 1, 5, 6] (by (try simp only [keep, lk, pd, enumE, Nat.reduceBEq, Nat.reduceAdd, cond_true, cond_false]); exact rfl) ?_
      refine at_back (k - 1) (by omega) ⟨i + 1, rfl, rfl, by omega, by omega⟩
    · (try simp only [decide_eq_true_eq, decide_eq_false_iff_not, Bool.not_eq_true', Bool.not_eq_false', Bool.not_true, Bool.not_false, Bool.or_eq_true, Bool.and_eq_true, Int.not_lt, Int.not_le] at ht16)
      obtain rfl : n = i := by omega
      refine at_exit ?_
      refine at_then_x ?_
      refine at_then_x ?_
      refine at_inb_exit ?_
      refine at_then ?_
      refine at_seq ?_
      refine at_region ?_
      refine st_p rfl rfl (p_move rfl) ?_
      refine st_p rfl rfl (p_shr rfl rfl (by decide) (shr16 _)) ?_
      refine st_q rfl rfl (q_call (first := []) rfl c_75 rfl (fun F1 hF1 hs1 => rcut_calls _ _ F1 (by decide) (by decide))) ?_
      refine st_q rfl rfl (q_call (first := []) rfl c_76 rfl (fun F1 hF1 hs1 => rsquash_calls _ F1)) ?_
      refine st_p rfl rfl (p_assign rfl) ?_
      refine at_nil ?_
      refine at_ks [0, 1, 4, 5, 6, 16] (by (try simp only [keep, lk, pd, enumE, Nat.reduceBEq, Nat.reduceAdd, cond_true, cond_false]); exact rfl) ?_
      refine at_then ?_
      refine at_retc ?_
      exact fin_1 rfl rfl (by
          exact ⟨by rw [sqv_cl]; unfold mixv; rw [hn, hm, Nat.min_self], rfl⟩)
  · (try simp only [decide_eq_true_eq, decide_eq_false_iff_not, Bool.not_eq_true', Bool.not_eq_false', Bool.not_true, Bool.not_false, Bool.or_eq_true, Bool.and_eq_true, Int.not_lt, Int.not_le] at ht11)
    refine sg_no rfl rfl ?_
    refine sg_no rfl rfl ?_
    refine sg_no rfl rfl ?_
    refine sg_no rfl rfl ?_
    refine st_p rfl rfl ((by first | exact p_pick_t rfl rfl | exact p_pick_f rfl rfl)) ?_
    refine at_nil ?_
    refine at_ks [0, 1, 4, 5, 6, 16] (by (try simp only [keep, lk, pd, enumE, Nat.reduceBEq, Nat.reduceAdd, cond_true, cond_false]); exact rfl) ?_
    refine at_then ?_
    refine at_cond_f rfl ?_
    obtain rfl : n = i := by omega
    refine at_exit ?_
    refine at_then_x ?_
    refine at_then_x ?_
    refine at_inb_exit ?_
    refine at_then ?_
    refine at_seq ?_
    refine at_region ?_
    refine st_p rfl rfl (p_move rfl) ?_
    refine st_p rfl rfl (p_shr rfl rfl (by decide) (shr16 _)) ?_
    refine st_q rfl rfl (q_call (first := []) rfl c_75 rfl (fun F1 hF1 hs1 => rcut_calls _ _ F1 (by decide) (by decide))) ?_
    refine st_q rfl rfl (q_call (first := []) rfl c_76 rfl (fun F1 hF1 hs1 => rsquash_calls _ F1)) ?_
    refine st_p rfl rfl (p_assign rfl) ?_
    refine at_nil ?_
    refine at_ks [0, 1, 4, 5, 6, 16] (by (try simp only [keep, lk, pd, enumE, Nat.reduceBEq, Nat.reduceAdd, cond_true, cond_false]); exact rfl) ?_
    refine at_then ?_
    refine at_retc ?_
    exact fin_1 rfl rfl (by
        exact ⟨by rw [sqv_cl]; unfold mixv; rw [hn, hm, Nat.min_self], rfl⟩)

theorem train_calls (A B : Option Addr) (n ca cb : Nat) (ws xs : List Int) (p b : Int) (F : Frm) (hn : ws.length = n) (hm : xs.length = n) (h6 : n ≤ 1000000) (hx : FV F A (ints .i64 ws)) (hy : FV F B (ints .i64 xs)) : SC Try.prog 81 #[.slice A n ca, .slice B n cb, N p, N b] [] F (fun u H => H = [.sl u 3 1 n (ints .i64 (trainv ws xs p b))]) := by
  refine sc_in (args := [.slice A n ca, .slice B n cb, N p, N b]) Try.func81 rfl rfl (Nat.le_of_ble_eq_true rfl) ?_
  refine at_ks [0, 1, 2, 3, 8, 9, 10, 11, 12, 13, 19, 22, 23, 24, 25, 34] (by (try simp only [keep, lk, pd, enumE, Nat.reduceBEq, Nat.reduceAdd, cond_true, cond_false]); exact rfl) ?_
  refine at_seq ?_
  refine at_region ?_
  refine st_p rfl rfl (p_assign rfl) ?_
  refine at_nil ?_
  refine at_ks [0, 1, 2, 3, 8, 9, 10, 11, 12, 13, 19, 22, 23, 24, 25, 34] (by (try simp only [keep, lk, pd, enumE, Nat.reduceBEq, Nat.reduceAdd, cond_true, cond_false]); exact rfl) ?_
  refine at_then ?_
  refine at_seq ?_
  refine at_region ?_
  refine st_p rfl rfl (p_move rfl) ?_
  refine st_p rfl rfl (p_min rfl rfl (by first | assumption | rfl)) ?_
  refine st_p rfl rfl (p_max (r := mx 0 (mn p 4096)) rfl rfl rfl) ?_
  have h1 : 0 ≤ mx 0 (mn p 4096) ∧ mx 0 (mn p 4096) ≤ 4096 := by unfold mx mn; omega
  refine st_p rfl rfl (p_neg rfl (by first | exact (congrArg _ (Int.zero_sub _)).trans (nw64 (by omega)) | exact wi64 _ | rfl)) ?_
  refine st_p rfl rfl (p_assign rfl) ?_
  refine at_nil ?_
  refine at_ks [0, 1, 2, 3, 8, 9, 10, 11, 12, 13, 19, 22, 23, 24, 25, 34] (by (try simp only [keep, lk, pd, enumE, Nat.reduceBEq, Nat.reduceAdd, cond_true, cond_false]); exact rfl) ?_
  refine at_then ?_
  refine at_seq ?_
  refine at_seq ?_
  refine at_region ?_
  refine st_p rfl rfl (p_move rfl) ?_
  refine st_p rfl rfl (p_neq rfl rfl) ?_
  refine at_nil ?_
  refine at_ks [0, 1, 2, 3, 8, 9, 10, 11, 12, 13, 19, 22, 23, 24, 25, 34] (by (try simp only [keep, lk, pd, enumE, Nat.reduceBEq, Nat.reduceAdd, cond_true, cond_false]); exact rfl) ?_
  refine at_then ?_
  refine at_cond rfl (fun ht19 => ?_) (fun ht19 => ?_)
  · (try simp only [decide_eq_true_eq, decide_eq_false_iff_not, Bool.not_eq_true', Bool.not_eq_false', Bool.not_true, Bool.not_false, Bool.or_eq_true, Bool.and_eq_true, Int.not_lt, Int.not_le] at ht19)
    have hl : lackv p b = -mx 0 (mn p 4096) + 4096 := if_neg ht19
    refine at_region ?_
    refine st_p rfl rfl (p_move rfl) ?_
    refine st_p rfl rfl (p_add rfl rfl (by first | exact nw64 (by omega) | exact nwu64 (by omega) | exact nwu8 (by omega) | exact nwu16 (by omega) | exact wu64 _ | exact wu8 _ | exact wi64 _ | rfl)) ?_
    refine st_p rfl rfl (p_assign rfl) ?_
    refine at_nil ?_
    refine at_ks [0, 1, 2, 3, 8, 9, 10, 11, 12, 13, 19, 22, 23, 24, 25, 34] (by (try simp only [keep, lk, pd, enumE, Nat.reduceBEq, Nat.reduceAdd, cond_true, cond_false]); exact rfl) ?_
    refine at_then ?_
    refine at_seq ?_
    refine at_region ?_
    refine st_p rfl rfl (p_assign rfl) ?_
    refine at_nil ?_
    refine at_ks [0, 1, 2, 3, 8, 9, 10, 11, 12, 13, 19, 22, 23, 24, 25, 34] (by (try simp only [keep, lk, pd, enumE, Nat.reduceBEq, Nat.reduceAdd, cond_true, cond_false]); exact rfl) ?_
    refine at_then ?_
    refine at_seq ?_
    refine at_seq ?_
    refine at_region ?_
    refine st_p rfl rfl (p_move rfl) ?_
    refine st_p rfl rfl (p_len rfl m_22) ?_
    refine st_p rfl rfl (p_move rfl) ?_
    refine at_nil ?_
    refine at_ks [0, 1, 2, 3, 8, 9, 10, 11, 12, 13, 19, 22, 23, 24, 25, 34] (by (try simp only [keep, lk, pd, enumE, Nat.reduceBEq, Nat.reduceAdd, cond_true, cond_false]); exact rfl) ?_
    refine at_then ?_
    refine at_block ?_
    refine at_ks [0, 1, 9, 10, 22, 23, 24] (by (try simp only [keep, lk, pd, enumE, Nat.reduceBEq, Nat.reduceAdd, cond_true, cond_false]); exact rfl) ?_
    refine at_nilsl 3 1 ?_
    rw [← hl]
    refine at_loop (fun k E H => ∃ (i : Nat) (v : Value), E = [(0, .slice A n ca), (1, .slice B n cb), (9, N (lackv p b)), (10, v), (22, .slice A n ca), (23, N (n : Int)), (24, N (i : Int))] ∧ H = [.sl v 3 1 i (ints .i64 (trv (lackv p b) ws xs i))] ∧ i ≤ n ∧ k + i = n + 1) (n + 1) (⟨0, _, rfl, rfl, by omega, by omega⟩) ?_
    rintro k _ _ ⟨i, v, rfl, rfl, hin, hk⟩
    refine at_seq ?_
    refine at_region ?_
    refine st_p rfl rfl (p_lss rfl rfl) ?_
    refine at_nil ?_
    refine at_ks [0, 1, 2, 3, 8, 9, 10, 11, 12, 13, 19, 22, 23, 24, 25, 34] (by (try simp only [keep, lk, pd, enumE, Nat.reduceBEq, Nat.reduceAdd, cond_true, cond_false]); exact rfl) ?_
    refine at_then ?_
    refine at_seq ?_
    refine at_cond rfl (fun ht25 => ?_) (fun ht25 => ?_)
    · (try simp only [decide_eq_true_eq, decide_eq_false_iff_not, Bool.not_eq_true', Bool.not_eq_false', Bool.not_true, Bool.not_false, Bool.or_eq_true, Bool.and_eq_true, Int.not_lt, Int.not_le] at ht25)
      obtain ⟨ba, oa, rfl, hga⟩ := hx.int (i := (i : Int)) (by omega) (by omega)
      obtain ⟨bb, ob, rfl, hgb⟩ := hy.int (i := (i : Int)) (by omega) (by omega)
      have hm := mul_in (cl_in (m := 2047) (by decide) (gi xs i)) (lackv_in p b)
      have e0 : (2047 : Int) * 4096 = 8384512 := by decide
      rw [e0] at hm
      have hw := cl_in (m := 1048576) (by decide) (gi ws i)
      refine at_skip ?_
      refine at_then ?_
      refine at_seq ?_
      refine at_block ?_
      refine at_seq ?_
      refine at_region ?_
      refine st_p rfl rfl (p_move rfl) ?_
      refine st_p rfl rfl ((by first | exact p_ia1 rfl rfl z_22 (by first | decide | omega) (by first | decide | omega) | exact p_iaN rfl rfl z_22 (by first | decide | omega) (by first | decide | omega) | exact p_iaO1 rfl rfl z_22 (by first | decide | omega) (by first | decide | omega) | exact p_iaO rfl rfl z_22 (by first | decide | omega) (by first | decide | omega))) ?_
      refine st_q rfl rfl ((by first | exact q_ob 0 rfl rfl r_3 (by first | rfl | assumption) | exact q_ob 1 rfl rfl r_3 (by first | rfl | assumption) | exact q_ob 2 rfl rfl r_3 (by first | rfl | assumption) | exact q_ob 3 rfl rfl r_3 (by first | rfl | assumption) | exact q_ob 4 rfl rfl r_3 (by first | rfl | assumption) | exact q_ob 5 rfl rfl r_3 (by first | rfl | assumption) | exact q_sl 0 rfl rfl r_3 (by first | rfl | assumption) | exact q_sl 1 rfl rfl r_3 (by first | rfl | assumption) | exact q_sl 2 rfl rfl r_3 (by first | rfl | assumption) | exact q_sl 3 rfl rfl r_3 (by first | rfl | assumption) | exact q_sl 4 rfl rfl r_3 (by first | rfl | assumption) | exact q_sl 5 rfl rfl r_3 (by first | rfl | assumption) | exact q_fr rfl r_3 (by assumption))) ?_
      refine st_p rfl rfl (p_assign rfl) ?_
      refine st_p rfl rfl (p_assign rfl) ?_
      refine at_nil ?_
      refine at_ks [0, 1, 2, 3, 8, 9, 10, 11, 12, 13, 19, 22, 23, 24, 25, 34] (by (try simp only [keep, lk, pd, enumE, Nat.reduceBEq, Nat.reduceAdd, cond_true, cond_false]); exact rfl) ?_
      refine at_then ?_
      refine at_seq ?_
      refine at_region ?_
      refine st_p rfl rfl (p_move rfl) ?_
      refine st_q rfl rfl (q_call (first := []) rfl c_84 rfl (fun F1 hF1 hs1 => weight_calls _ F1)) ?_
      refine st_p rfl rfl (p_assign rfl) ?_
      refine at_nil ?_
      refine at_ks [0, 1, 2, 3, 8, 9, 10, 11, 12, 13, 19, 22, 23, 24, 25, 34] (by (try simp only [keep, lk, pd, enumE, Nat.reduceBEq, Nat.reduceAdd, cond_true, cond_false]); exact rfl) ?_
      refine at_then ?_
      refine at_seq ?_
      refine at_seq ?_
      refine at_region ?_
      refine st_p rfl rfl (p_move rfl) ?_
      refine st_p rfl rfl (p_move rfl) ?_
      refine st_p rfl rfl (p_len rfl m_22) ?_
      refine st_p rfl rfl (p_lss rfl rfl) ?_
      refine at_nil ?_
      refine at_ks [0, 1, 2, 3, 8, 9, 10, 11, 12, 13, 19, 22, 23, 24, 25, 34] (by (try simp only [keep, lk, pd, enumE, Nat.reduceBEq, Nat.reduceAdd, cond_true, cond_false]); exact rfl) ?_
      refine at_then ?_
      refine at_cond rfl (fun ht34 => ?_) (fun ht34 => ?_)
      · (try simp only [decide_eq_true_eq, decide_eq_false_iff_not, Bool.not_eq_true', Bool.not_eq_false', Bool.not_true, Bool.not_false, Bool.or_eq_true, Bool.and_eq_true, Int.not_lt, Int.not_le] at ht34)
        refine at_region ?_
        refine st_p rfl rfl (p_move rfl) ?_
        refine st_p rfl rfl (p_move rfl) ?_
        refine st_p rfl rfl (p_move rfl) ?_
        refine st_p rfl rfl ((by first | exact p_ia1 rfl rfl z_22 (by first | decide | omega) (by first | decide | omega) | exact p_iaN rfl rfl z_22 (by first | decide | omega) (by first | decide | omega) | exact p_iaO1 rfl rfl z_22 (by first | decide | omega) (by first | decide | omega) | exact p_iaO rfl rfl z_22 (by first | decide | omega) (by first | decide | omega))) ?_
        refine st_q rfl rfl ((by first | exact q_ob 0 rfl rfl r_3 (by first | rfl | assumption) | exact q_ob 1 rfl rfl r_3 (by first | rfl | assumption) | exact q_ob 2 rfl rfl r_3 (by first | rfl | assumption) | exact q_ob 3 rfl rfl r_3 (by first | rfl | assumption) | exact q_ob 4 rfl rfl r_3 (by first | rfl | assumption) | exact q_ob 5 rfl rfl r_3 (by first | rfl | assumption) | exact q_sl 0 rfl rfl r_3 (by first | rfl | assumption) | exact q_sl 1 rfl rfl r_3 (by first | rfl | assumption) | exact q_sl 2 rfl rfl r_3 (by first | rfl | assumption) | exact q_sl 3 rfl rfl r_3 (by first | rfl | assumption) | exact q_sl 4 rfl rfl r_3 (by first | rfl | assumption) | exact q_sl 5 rfl rfl r_3 (by first | rfl | assumption) | exact q_fr rfl r_3 (by assumption))) ?_
        refine st_q rfl rfl (q_call (first := []) rfl c_85 rfl (fun F1 hF1 hs1 => input_calls _ F1)) ?_
        refine st_p rfl rfl (p_move rfl) ?_
        refine st_p rfl rfl (p_mul rfl rfl (by first | exact nw64 (by omega) | exact nwu64 (by omega) | exact nwu8 (by omega) | exact nwu16 (by omega) | exact wu64 _ | exact wu8 _ | exact wi64 _ | rfl)) ?_
        refine st_p rfl rfl (p_shr rfl rfl (by decide) (shr10 _)) ?_
        refine st_p rfl rfl (p_add rfl rfl (by first | exact nw64 (by omega) | exact nwu64 (by omega) | exact nwu8 (by omega) | exact nwu16 (by omega) | exact wu64 _ | exact wu8 _ | exact wi64 _ | rfl)) ?_
        refine st_q rfl rfl (q_call (first := []) rfl c_84 rfl (fun F1 hF1 hs1 => weight_calls _ F1)) ?_
        refine st_p rfl rfl (p_assign rfl) ?_
        refine at_nil ?_
        refine at_ks [0, 1, 2, 3, 8, 9, 10, 11, 12, 13, 19, 22, 23, 24, 25, 34] (by (try simp only [keep, lk, pd, enumE, Nat.reduceBEq, Nat.reduceAdd, cond_true, cond_false]); exact rfl) ?_
        refine at_then ?_
        refine at_region ?_
        refine st_p rfl rfl (p_move rfl) ?_
        refine st_p rfl rfl (p_move rfl) ?_
        refine st_l rfl rfl (l_bsV [_] _ rfl e_22 (by decide) (by decide) rfl (by simp [Value.cells]) (by simp only [List.flatMap_cons, List.flatMap_nil, Value.cells, List.nil_append, List.cons_append, List.append_nil]; exact rfl)) ?_
        rintro _ _ ⟨b48, rfl, rfl⟩
        refine at_hp (by (try simp only [List.take_zero, List.take_succ_cons, List.drop_zero, List.drop_succ_cons, List.drop_nil, List.length_cons, List.length_nil, Nat.zero_add, Nat.reduceAdd, List.set_cons_zero, List.set_cons_succ, List.nil_append, List.cons_append, List.append_nil, pick, List.filterMap_cons, List.filterMap_nil, List.getElem?_cons_zero, List.getElem?_cons_succ]); exact rfl) ?_
        refine st_l rfl rfl ((by first | exact l_app 1 0 rfl rfl e_22 rfl (by decide) rfl rfl (by first | rfl | (simp; done)) (by simp [Value.oneCell']) (by decide) (by first | omega | (simp only [List.length_append, List.length_cons, List.length_nil]; omega)) (by first | decide | omega) | exact l_app 2 0 rfl rfl e_22 rfl (by decide) rfl rfl (by first | rfl | (simp; done)) (by simp [Value.oneCell']) (by decide) (by first | omega | (simp only [List.length_append, List.length_cons, List.length_nil]; omega)) (by first | decide | omega) | exact l_app 3 0 rfl rfl e_22 rfl (by decide) rfl rfl (by first | rfl | (simp; done)) (by simp [Value.oneCell']) (by decide) (by first | omega | (simp only [List.length_append, List.length_cons, List.length_nil]; omega)) (by first | decide | omega) | exact l_app 4 0 rfl rfl e_22 rfl (by decide) rfl rfl (by first | rfl | (simp; done)) (by simp [Value.oneCell']) (by decide) (by first | omega | (simp only [List.length_append, List.length_cons, List.length_nil]; omega)) (by first | decide | omega) | exact l_app 5 0 rfl rfl e_22 rfl (by decide) rfl rfl (by first | rfl | (simp; done)) (by simp [Value.oneCell']) (by decide) (by first | omega | (simp only [List.length_append, List.length_cons, List.length_nil]; omega)) (by first | decide | omega) | exact l_app 0 1 rfl rfl e_22 rfl (by decide) rfl rfl (by first | rfl | (simp; done)) (by simp [Value.oneCell']) (by decide) (by first | omega | (simp only [List.length_append, List.length_cons, List.length_nil]; omega)) (by first | decide | omega) | exact l_app 2 1 rfl rfl e_22 rfl (by decide) rfl rfl (by first | rfl | (simp; done)) (by simp [Value.oneCell']) (by decide) (by first | omega | (simp only [List.length_append, List.length_cons, List.length_nil]; omega)) (by first | decide | omega) | exact l_app 3 1 rfl rfl e_22 rfl (by decide) rfl rfl (by first | rfl | (simp; done)) (by simp [Value.oneCell']) (by decide) (by first | omega | (simp only [List.length_append, List.length_cons, List.length_nil]; omega)) (by first | decide | omega) | exact l_app 4 1 rfl rfl e_22 rfl (by decide) rfl rfl (by first | rfl | (simp; done)) (by simp [Value.oneCell']) (by decide) (by first | omega | (simp only [List.length_append, List.length_cons, List.length_nil]; omega)) (by first | decide | omega) | exact l_app 5 1 rfl rfl e_22 rfl (by decide) rfl rfl (by first | rfl | (simp; done)) (by simp [Value.oneCell']) (by decide) (by first | omega | (simp only [List.length_append, List.length_cons, List.length_nil]; omega)) (by first | decide | omega) | exact l_app 0 2 rfl rfl e_22 rfl (by decide) rfl rfl (by first | rfl | (simp; done)) (by simp [Value.oneCell']) (by decide) (by first | omega | (simp only [List.length_append, List.length_cons, List.length_nil]; omega)) (by first | decide | omega) | exact l_app 1 2 rfl rfl e_22 rfl (by decide) rfl rfl (by first | rfl | (simp; done)) (by simp [Value.oneCell']) (by decide) (by first | omega | (simp only [List.length_append, List.length_cons, List.length_nil]; omega)) (by first | decide | omega) | exact l_app 3 2 rfl rfl e_22 rfl (by decide) rfl rfl (by first | rfl | (simp; done)) (by simp [Value.oneCell']) (by decide) (by first | omega | (simp only [List.length_append, List.length_cons, List.length_nil]; omega)) (by first | decide | omega) | exact l_app 4 2 rfl rfl e_22 rfl (by decide) rfl rfl (by first | rfl | (simp; done)) (by simp [Value.oneCell']) (by decide) (by first | omega | (simp only [List.length_append, List.length_cons, List.length_nil]; omega)) (by first | decide | omega) | exact l_app 5 2 rfl rfl e_22 rfl (by decide) rfl rfl (by first | rfl | (simp; done)) (by simp [Value.oneCell']) (by decide) (by first | omega | (simp only [List.length_append, List.length_cons, List.length_nil]; omega)) (by first | decide | omega))) ?_
        rintro _ _ ⟨g49, c49, rfl, rfl⟩
        refine at_hp (by (try simp only [List.take_zero, List.take_succ_cons, List.drop_zero, List.drop_succ_cons, List.drop_nil, List.length_cons, List.length_nil, Nat.zero_add, Nat.reduceAdd, List.set_cons_zero, List.set_cons_succ, List.nil_append, List.cons_append, List.append_nil, pick, List.filterMap_cons, List.filterMap_nil, List.getElem?_cons_zero, List.getElem?_cons_succ]); exact rfl) ?_
        refine at_drop ?_
        refine st_p rfl rfl (p_assign rfl) ?_
        refine at_nil ?_
        refine at_ks [0, 1, 2, 3, 8, 9, 10, 11, 12, 13, 19, 22, 23, 24, 25, 34] (by (try simp only [keep, lk, pd, enumE, Nat.reduceBEq, Nat.reduceAdd, cond_true, cond_false]); exact rfl) ?_
        refine at_inb ?_
        refine at_then ?_
        refine at_region ?_
        refine st_p rfl rfl (p_add rfl rfl (by first | exact nw64 (by omega) | exact nwu64 (by omega) | exact nwu8 (by omega) | exact nwu16 (by omega) | exact wu64 _ | exact wu8 _ | exact wi64 _ | rfl)) ?_
        refine st_p rfl rfl (p_move rfl) ?_
        refine at_nil ?_
        refine at_ks [0, 1, 2, 3, 8, 9, 10, 11, 12, 13, 19, 22, 23, 24, 25, 34] (by (try simp only [keep, lk, pd, enumE, Nat.reduceBEq, Nat.reduceAdd, cond_true, cond_false]); exact rfl) ?_
        refine at_ks [0, 1, 9, 10, 22, 23, 24] (by (try simp only [keep, lk, pd, enumE, Nat.reduceBEq, Nat.reduceAdd, cond_true, cond_false]); exact rfl) ?_
        refine at_back (k - 1) (by omega) ⟨i + 1, _, rfl, ?_, by omega, by omega⟩
        simp [trv, trw, ints]
      · (try simp only [decide_eq_true_eq, decide_eq_false_iff_not, Bool.not_eq_true', Bool.not_eq_false', Bool.not_true, Bool.not_false, Bool.or_eq_true, Bool.and_eq_true, Int.not_lt, Int.not_le] at ht34)
        first | (exfalso; omega) | (simp at ht34; done) | contradiction
    · (try simp only [decide_eq_true_eq, decide_eq_false_iff_not, Bool.not_eq_true', Bool.not_eq_false', Bool.not_true, Bool.not_false, Bool.or_eq_true, Bool.and_eq_true, Int.not_lt, Int.not_le] at ht25)
      obtain rfl : n = i := by omega
      refine at_exit ?_
      refine at_then_x ?_
      refine at_then_x ?_
      refine at_inb_exit ?_
      refine at_then ?_
      refine at_seq ?_
      refine at_region ?_
      refine st_p rfl rfl (p_move rfl) ?_
      refine st_p rfl rfl (p_assign rfl) ?_
      refine at_nil ?_
      refine at_ks [0, 1, 2, 3, 8, 9, 10, 11, 12, 13, 19, 22, 23, 24, 25, 34] (by (try simp only [keep, lk, pd, enumE, Nat.reduceBEq, Nat.reduceAdd, cond_true, cond_false]); exact rfl) ?_
      refine at_then ?_
      refine at_retc ?_
      exact fin_1 rfl rfl (by
          exact by rw [trainv, hn])
  · (try simp only [decide_eq_true_eq, decide_eq_false_iff_not, Bool.not_eq_true', Bool.not_eq_false', Bool.not_true, Bool.not_false, Bool.or_eq_true, Bool.and_eq_true, Int.not_lt, Int.not_le] at ht19)
    have hl : lackv p b = -mx 0 (mn p 4096) := if_pos ht19
    refine at_skip ?_
    refine at_then ?_
    refine at_seq ?_
    refine at_region ?_
    refine st_p rfl rfl (p_assign rfl) ?_
    refine at_nil ?_
    refine at_ks [0, 1, 2, 3, 8, 9, 10, 11, 12, 13, 19, 22, 23, 24, 25, 34] (by (try simp only [keep, lk, pd, enumE, Nat.reduceBEq, Nat.reduceAdd, cond_true, cond_false]); exact rfl) ?_
    refine at_then ?_
    refine at_seq ?_
    refine at_seq ?_
    refine at_region ?_
    refine st_p rfl rfl (p_move rfl) ?_
    refine st_p rfl rfl (p_len rfl m_22) ?_
    refine st_p rfl rfl (p_move rfl) ?_
    refine at_nil ?_
    refine at_ks [0, 1, 2, 3, 8, 9, 10, 11, 12, 13, 19, 22, 23, 24, 25, 34] (by (try simp only [keep, lk, pd, enumE, Nat.reduceBEq, Nat.reduceAdd, cond_true, cond_false]); exact rfl) ?_
    refine at_then ?_
    refine at_block ?_
    refine at_ks [0, 1, 9, 10, 22, 23, 24] (by (try simp only [keep, lk, pd, enumE, Nat.reduceBEq, Nat.reduceAdd, cond_true, cond_false]); exact rfl) ?_
    refine at_nilsl 3 1 ?_
    rw [← hl]
    refine at_loop (fun k E H => ∃ (i : Nat) (v : Value), E = [(0, .slice A n ca), (1, .slice B n cb), (9, N (lackv p b)), (10, v), (22, .slice A n ca), (23, N (n : Int)), (24, N (i : Int))] ∧ H = [.sl v 3 1 i (ints .i64 (trv (lackv p b) ws xs i))] ∧ i ≤ n ∧ k + i = n + 1) (n + 1) (⟨0, _, rfl, rfl, by omega, by omega⟩) ?_
    rintro k _ _ ⟨i, v, rfl, rfl, hin, hk⟩
    refine at_seq ?_
    refine at_region ?_
    refine st_p rfl rfl (p_lss rfl rfl) ?_
    refine at_nil ?_
    refine at_ks [0, 1, 2, 3, 8, 9, 10, 11, 12, 13, 19, 22, 23, 24, 25, 34] (by (try simp only [keep, lk, pd, enumE, Nat.reduceBEq, Nat.reduceAdd, cond_true, cond_false]); exact rfl) ?_
    refine at_then ?_
    refine at_seq ?_
    refine at_cond rfl (fun ht25 => ?_) (fun ht25 => ?_)
    · (try simp only [decide_eq_true_eq, decide_eq_false_iff_not, Bool.not_eq_true', Bool.not_eq_false', Bool.not_true, Bool.not_false, Bool.or_eq_true, Bool.and_eq_true, Int.not_lt, Int.not_le] at ht25)
      obtain ⟨ba, oa, rfl, hga⟩ := hx.int (i := (i : Int)) (by omega) (by omega)
      obtain ⟨bb, ob, rfl, hgb⟩ := hy.int (i := (i : Int)) (by omega) (by omega)
      have hm := mul_in (cl_in (m := 2047) (by decide) (gi xs i)) (lackv_in p b)
      have e0 : (2047 : Int) * 4096 = 8384512 := by decide
      rw [e0] at hm
      have hw := cl_in (m := 1048576) (by decide) (gi ws i)
      refine at_skip ?_
      refine at_then ?_
      refine at_seq ?_
      refine at_block ?_
      refine at_seq ?_
      refine at_region ?_
      refine st_p rfl rfl (p_move rfl) ?_
      refine st_p rfl rfl ((by first | exact p_ia1 rfl rfl z_22 (by first | decide | omega) (by first | decide | omega) | exact p_iaN rfl rfl z_22 (by first | decide | omega) (by first | decide | omega) | exact p_iaO1 rfl rfl z_22 (by first | decide | omega) (by first | decide | omega) | exact p_iaO rfl rfl z_22 (by first | decide | omega) (by first | decide | omega))) ?_
      refine st_q rfl rfl ((by first | exact q_ob 0 rfl rfl r_3 (by first | rfl | assumption) | exact q_ob 1 rfl rfl r_3 (by first | rfl | assumption) | exact q_ob 2 rfl rfl r_3 (by first | rfl | assumption) | exact q_ob 3 rfl rfl r_3 (by first | rfl | assumption) | exact q_ob 4 rfl rfl r_3 (by first | rfl | assumption) | exact q_ob 5 rfl rfl r_3 (by first | rfl | assumption) | exact q_sl 0 rfl rfl r_3 (by first | rfl | assumption) | exact q_sl 1 rfl rfl r_3 (by first | rfl | assumption) | exact q_sl 2 rfl rfl r_3 (by first | rfl | assumption) | exact q_sl 3 rfl rfl r_3 (by first | rfl | assumption) | exact q_sl 4 rfl rfl r_3 (by first | rfl | assumption) | exact q_sl 5 rfl rfl r_3 (by first | rfl | assumption) | exact q_fr rfl r_3 (by assumption))) ?_
      refine st_p rfl rfl (p_assign rfl) ?_
      refine st_p rfl rfl (p_assign rfl) ?_
      refine at_nil ?_
      refine at_ks [0, 1, 2, 3, 8, 9, 10, 11, 12, 13, 19, 22, 23, 24, 25, 34] (by (try simp only [keep, lk, pd, enumE, Nat.reduceBEq, Nat.reduceAdd, cond_true, cond_false]); exact rfl) ?_
      refine at_then ?_
      refine at_seq ?_
      refine at_region ?_
      refine st_p rfl rfl (p_move rfl) ?_
      refine st_q rfl rfl (q_call (first := []) rfl c_84 rfl (fun F1 hF1 hs1 => weight_calls _ F1)) ?_
      refine st_p rfl rfl (p_assign rfl) ?_
      refine at_nil ?_
      refine at_ks [0, 1, 2, 3, 8, 9, 10, 11, 12, 13, 19, 22, 23, 24, 25, 34] (by (try simp only [keep, lk, pd, enumE, Nat.reduceBEq, Nat.reduceAdd, cond_true, cond_false]); exact rfl) ?_
      refine at_then ?_
      refine at_seq ?_
      refine at_seq ?_
      refine at_region ?_
      refine st_p rfl rfl (p_move rfl) ?_
      refine st_p rfl rfl (p_move rfl) ?_
      refine st_p rfl rfl (p_len rfl m_22) ?_
      refine st_p rfl rfl (p_lss rfl rfl) ?_
      refine at_nil ?_
      refine at_ks [0, 1, 2, 3, 8, 9, 10, 11, 12, 13, 19, 22, 23, 24, 25, 34] (by (try simp only [keep, lk, pd, enumE, Nat.reduceBEq, Nat.reduceAdd, cond_true, cond_false]); exact rfl) ?_
      refine at_then ?_
      refine at_cond rfl (fun ht34 => ?_) (fun ht34 => ?_)
      · (try simp only [decide_eq_true_eq, decide_eq_false_iff_not, Bool.not_eq_true', Bool.not_eq_false', Bool.not_true, Bool.not_false, Bool.or_eq_true, Bool.and_eq_true, Int.not_lt, Int.not_le] at ht34)
        refine at_region ?_
        refine st_p rfl rfl (p_move rfl) ?_
        refine st_p rfl rfl (p_move rfl) ?_
        refine st_p rfl rfl (p_move rfl) ?_
        refine st_p rfl rfl ((by first | exact p_ia1 rfl rfl z_22 (by first | decide | omega) (by first | decide | omega) | exact p_iaN rfl rfl z_22 (by first | decide | omega) (by first | decide | omega) | exact p_iaO1 rfl rfl z_22 (by first | decide | omega) (by first | decide | omega) | exact p_iaO rfl rfl z_22 (by first | decide | omega) (by first | decide | omega))) ?_
        refine st_q rfl rfl ((by first | exact q_ob 0 rfl rfl r_3 (by first | rfl | assumption) | exact q_ob 1 rfl rfl r_3 (by first | rfl | assumption) | exact q_ob 2 rfl rfl r_3 (by first | rfl | assumption) | exact q_ob 3 rfl rfl r_3 (by first | rfl | assumption) | exact q_ob 4 rfl rfl r_3 (by first | rfl | assumption) | exact q_ob 5 rfl rfl r_3 (by first | rfl | assumption) | exact q_sl 0 rfl rfl r_3 (by first | rfl | assumption) | exact q_sl 1 rfl rfl r_3 (by first | rfl | assumption) | exact q_sl 2 rfl rfl r_3 (by first | rfl | assumption) | exact q_sl 3 rfl rfl r_3 (by first | rfl | assumption) | exact q_sl 4 rfl rfl r_3 (by first | rfl | assumption) | exact q_sl 5 rfl rfl r_3 (by first | rfl | assumption) | exact q_fr rfl r_3 (by assumption))) ?_
        refine st_q rfl rfl (q_call (first := []) rfl c_85 rfl (fun F1 hF1 hs1 => input_calls _ F1)) ?_
        refine st_p rfl rfl (p_move rfl) ?_
        refine st_p rfl rfl (p_mul rfl rfl (by first | exact nw64 (by omega) | exact nwu64 (by omega) | exact nwu8 (by omega) | exact nwu16 (by omega) | exact wu64 _ | exact wu8 _ | exact wi64 _ | rfl)) ?_
        refine st_p rfl rfl (p_shr rfl rfl (by decide) (shr10 _)) ?_
        refine st_p rfl rfl (p_add rfl rfl (by first | exact nw64 (by omega) | exact nwu64 (by omega) | exact nwu8 (by omega) | exact nwu16 (by omega) | exact wu64 _ | exact wu8 _ | exact wi64 _ | rfl)) ?_
        refine st_q rfl rfl (q_call (first := []) rfl c_84 rfl (fun F1 hF1 hs1 => weight_calls _ F1)) ?_
        refine st_p rfl rfl (p_assign rfl) ?_
        refine at_nil ?_
        refine at_ks [0, 1, 2, 3, 8, 9, 10, 11, 12, 13, 19, 22, 23, 24, 25, 34] (by (try simp only [keep, lk, pd, enumE, Nat.reduceBEq, Nat.reduceAdd, cond_true, cond_false]); exact rfl) ?_
        refine at_then ?_
        refine at_region ?_
        refine st_p rfl rfl (p_move rfl) ?_
        refine st_p rfl rfl (p_move rfl) ?_
        refine st_l rfl rfl (l_bsV [_] _ rfl e_22 (by decide) (by decide) rfl (by simp [Value.cells]) (by simp only [List.flatMap_cons, List.flatMap_nil, Value.cells, List.nil_append, List.cons_append, List.append_nil]; exact rfl)) ?_
        rintro _ _ ⟨b48, rfl, rfl⟩
        refine at_hp (by (try simp only [List.take_zero, List.take_succ_cons, List.drop_zero, List.drop_succ_cons, List.drop_nil, List.length_cons, List.length_nil, Nat.zero_add, Nat.reduceAdd, List.set_cons_zero, List.set_cons_succ, List.nil_append, List.cons_append, List.append_nil, pick, List.filterMap_cons, List.filterMap_nil, List.getElem?_cons_zero, List.getElem?_cons_succ]); exact rfl) ?_
        refine st_l rfl rfl ((by first | exact l_app 1 0 rfl rfl e_22 rfl (by decide) rfl rfl (by first | rfl | (simp; done)) (by simp [Value.oneCell']) (by decide) (by first | omega | (simp only [List.length_append, List.length_cons, List.length_nil]; omega)) (by first | decide | omega) | exact l_app 2 0 rfl rfl e_22 rfl (by decide) rfl rfl (by first | rfl | (simp; done)) (by simp [Value.oneCell']) (by decide) (by first | omega | (simp only [List.length_append, List.length_cons, List.length_nil]; omega)) (by first | decide | omega) | exact l_app 3 0 rfl rfl e_22 rfl (by decide) rfl rfl (by first | rfl | (simp; done)) (by simp [Value.oneCell']) (by decide) (by first | omega | (simp only [List.length_append, List.length_cons, List.length_nil]; omega)) (by first | decide | omega) | exact l_app 4 0 rfl rfl e_22 rfl (by decide) rfl rfl (by first | rfl | (simp; done)) (by simp [Value.oneCell']) (by decide) (by first | omega | (simp only [List.length_append, List.length_cons, List.length_nil]; omega)) (by first | decide | omega) | exact l_app 5 0 rfl rfl e_22 rfl (by decide) rfl rfl (by first | rfl | (simp; done)) (by simp [Value.oneCell']) (by decide) (by first | omega | (simp only [List.length_append, List.length_cons, List.length_nil]; omega)) (by first | decide | omega) | exact l_app 0 1 rfl rfl e_22 rfl (by decide) rfl rfl (by first | rfl | (simp; done)) (by simp [Value.oneCell']) (by decide) (by first | omega | (simp only [List.length_append, List.length_cons, List.length_nil]; omega)) (by first | decide | omega) | exact l_app 2 1 rfl rfl e_22 rfl (by decide) rfl rfl (by first | rfl | (simp; done)) (by simp [Value.oneCell']) (by decide) (by first | omega | (simp only [List.length_append, List.length_cons, List.length_nil]; omega)) (by first | decide | omega) | exact l_app 3 1 rfl rfl e_22 rfl (by decide) rfl rfl (by first | rfl | (simp; done)) (by simp [Value.oneCell']) (by decide) (by first | omega | (simp only [List.length_append, List.length_cons, List.length_nil]; omega)) (by first | decide | omega) | exact l_app 4 1 rfl rfl e_22 rfl (by decide) rfl rfl (by first | rfl | (simp; done)) (by simp [Value.oneCell']) (by decide) (by first | omega | (simp only [List.length_append, List.length_cons, List.length_nil]; omega)) (by first | decide | omega) | exact l_app 5 1 rfl rfl e_22 rfl (by decide) rfl rfl (by first | rfl | (simp; done)) (by simp [Value.oneCell']) (by decide) (by first | omega | (simp only [List.length_append, List.length_cons, List.length_nil]; omega)) (by first | decide | omega) | exact l_app 0 2 rfl rfl e_22 rfl (by decide) rfl rfl (by first | rfl | (simp; done)) (by simp [Value.oneCell']) (by decide) (by first | omega | (simp only [List.length_append, List.length_cons, List.length_nil]; omega)) (by first | decide | omega) | exact l_app 1 2 rfl rfl e_22 rfl (by decide) rfl rfl (by first | rfl | (simp; done)) (by simp [Value.oneCell']) (by decide) (by first | omega | (simp only [List.length_append, List.length_cons, List.length_nil]; omega)) (by first | decide | omega) | exact l_app 3 2 rfl rfl e_22 rfl (by decide) rfl rfl (by first | rfl | (simp; done)) (by simp [Value.oneCell']) (by decide) (by first | omega | (simp only [List.length_append, List.length_cons, List.length_nil]; omega)) (by first | decide | omega) | exact l_app 4 2 rfl rfl e_22 rfl (by decide) rfl rfl (by first | rfl | (simp; done)) (by simp [Value.oneCell']) (by decide) (by first | omega | (simp only [List.length_append, List.length_cons, List.length_nil]; omega)) (by first | decide | omega) | exact l_app 5 2 rfl rfl e_22 rfl (by decide) rfl rfl (by first | rfl | (simp; done)) (by simp [Value.oneCell']) (by decide) (by first | omega | (simp only [List.length_append, List.length_cons, List.length_nil]; omega)) (by first | decide | omega))) ?_
        rintro _ _ ⟨g49, c49, rfl, rfl⟩
        refine at_hp (by (try simp only [List.take_zero, List.take_succ_cons, List.drop_zero, List.drop_succ_cons, List.drop_nil, List.length_cons, List.length_nil, Nat.zero_add, Nat.reduceAdd, List.set_cons_zero, List.set_cons_succ, List.nil_append, List.cons_append, List.append_nil, pick, List.filterMap_cons, List.filterMap_nil, List.getElem?_cons_zero, List.getElem?_cons_succ]); exact rfl) ?_
        refine at_drop ?_
        refine st_p rfl rfl (p_assign rfl) ?_
        refine at_nil ?_
        refine at_ks [0, 1, 2, 3, 8, 9, 10, 11, 12, 13, 19, 22, 23, 24, 25, 34] (by (try simp only [keep, lk, pd, enumE, Nat.reduceBEq, Nat.reduceAdd, cond_true, cond_false]); exact rfl) ?_
        refine at_inb ?_
        refine at_then ?_
        refine at_region ?_
        refine st_p rfl rfl (p_add rfl rfl (by first | exact nw64 (by omega) | exact nwu64 (by omega) | exact nwu8 (by omega) | exact nwu16 (by omega) | exact wu64 _ | exact wu8 _ | exact wi64 _ | rfl)) ?_
        refine st_p rfl rfl (p_move rfl) ?_
        refine at_nil ?_
        refine at_ks [0, 1, 2, 3, 8, 9, 10, 11, 12, 13, 19, 22, 23, 24, 25, 34] (by (try simp only [keep, lk, pd, enumE, Nat.reduceBEq, Nat.reduceAdd, cond_true, cond_false]); exact rfl) ?_
        refine at_ks [0, 1, 9, 10, 22, 23, 24] (by (try simp only [keep, lk, pd, enumE, Nat.reduceBEq, Nat.reduceAdd, cond_true, cond_false]); exact rfl) ?_
        refine at_back (k - 1) (by omega) ⟨i + 1, _, rfl, ?_, by omega, by omega⟩
        simp [trv, trw, ints]
      · (try simp only [decide_eq_true_eq, decide_eq_false_iff_not, Bool.not_eq_true', Bool.not_eq_false', Bool.not_true, Bool.not_false, Bool.or_eq_true, Bool.and_eq_true, Int.not_lt, Int.not_le] at ht34)
        first | (exfalso; omega) | (simp at ht34; done) | contradiction
    · (try simp only [decide_eq_true_eq, decide_eq_false_iff_not, Bool.not_eq_true', Bool.not_eq_false', Bool.not_true, Bool.not_false, Bool.or_eq_true, Bool.and_eq_true, Int.not_lt, Int.not_le] at ht25)
      obtain rfl : n = i := by omega
      refine at_exit ?_
      refine at_then_x ?_
      refine at_then_x ?_
      refine at_inb_exit ?_
      refine at_then ?_
      refine at_seq ?_
      refine at_region ?_
      refine st_p rfl rfl (p_move rfl) ?_
      refine st_p rfl rfl (p_assign rfl) ?_
      refine at_nil ?_
      refine at_ks [0, 1, 2, 3, 8, 9, 10, 11, 12, 13, 19, 22, 23, 24, 25, 34] (by (try simp only [keep, lk, pd, enumE, Nat.reduceBEq, Nat.reduceAdd, cond_true, cond_false]); exact rfl) ?_
      refine at_then ?_
      refine at_retc ?_
      exact fin_1 rfl rfl (by
          exact by rw [trainv, hn])

theorem rtrain_calls (A B : Option Addr) (n ca cb : Nat) (ws xs : List Int) (p b : Int) (F : Frm) (hn : ws.length = n) (hm : xs.length = n) (h6 : n ≤ 1000000) (hx : FV F A (ints .i64 ws)) (hy : FV F B (ints .i64 xs)) : SC Try.prog 64 #[.slice A n ca, .slice B n cb, N p, N b] [] F (fun u H => H = [.sl u 3 1 n (ints .i64 (trainv ws xs p b))]) := by
  refine sc_in (args := [.slice A n ca, .slice B n cb, N p, N b]) Try.func64 rfl rfl (Nat.le_of_ble_eq_true rfl) ?_
  refine at_ks [0, 1, 2, 3, 8, 9, 10, 11, 12, 18, 24, 35] (by (try simp only [keep, lk, pd, enumE, Nat.reduceBEq, Nat.reduceAdd, cond_true, cond_false]); exact rfl) ?_
  refine at_seq ?_
  refine at_region ?_
  refine st_p rfl rfl (p_assign rfl) ?_
  refine at_nil ?_
  refine at_ks [0, 1, 2, 3, 8, 9, 10, 11, 12, 18, 24, 35] (by (try simp only [keep, lk, pd, enumE, Nat.reduceBEq, Nat.reduceAdd, cond_true, cond_false]); exact rfl) ?_
  refine at_then ?_
  refine at_seq ?_
  refine at_region ?_
  refine st_p rfl rfl (p_move rfl) ?_
  refine st_p rfl rfl (p_min rfl rfl (by first | assumption | rfl)) ?_
  refine st_p rfl rfl (p_max (r := mx 0 (mn p 4096)) rfl rfl rfl) ?_
  have h1 : 0 ≤ mx 0 (mn p 4096) ∧ mx 0 (mn p 4096) ≤ 4096 := by unfold mx mn; omega
  refine st_p rfl rfl (p_neg rfl (by first | exact (congrArg _ (Int.zero_sub _)).trans (nw64 (by omega)) | exact wi64 _ | rfl)) ?_
  refine st_p rfl rfl (p_assign rfl) ?_
  refine at_nil ?_
  refine at_ks [0, 1, 2, 3, 8, 9, 10, 11, 12, 18, 24, 35] (by (try simp only [keep, lk, pd, enumE, Nat.reduceBEq, Nat.reduceAdd, cond_true, cond_false]); exact rfl) ?_
  refine at_then ?_
  refine at_seq ?_
  refine at_seq ?_
  refine at_region ?_
  refine st_p rfl rfl (p_move rfl) ?_
  refine st_p rfl rfl (p_neq rfl rfl) ?_
  refine at_nil ?_
  refine at_ks [0, 1, 2, 3, 8, 9, 10, 11, 12, 18, 24, 35] (by (try simp only [keep, lk, pd, enumE, Nat.reduceBEq, Nat.reduceAdd, cond_true, cond_false]); exact rfl) ?_
  refine at_then ?_
  refine at_cond rfl (fun ht18 => ?_) (fun ht18 => ?_)
  · (try simp only [decide_eq_true_eq, decide_eq_false_iff_not, Bool.not_eq_true', Bool.not_eq_false', Bool.not_true, Bool.not_false, Bool.or_eq_true, Bool.and_eq_true, Int.not_lt, Int.not_le] at ht18)
    have hl : lackv p b = -mx 0 (mn p 4096) + 4096 := if_neg ht18
    refine at_region ?_
    refine st_p rfl rfl (p_move rfl) ?_
    refine st_p rfl rfl (p_add rfl rfl (by first | exact nw64 (by omega) | exact nwu64 (by omega) | exact nwu8 (by omega) | exact nwu16 (by omega) | exact wu64 _ | exact wu8 _ | exact wi64 _ | rfl)) ?_
    refine st_p rfl rfl (p_assign rfl) ?_
    refine at_nil ?_
    refine at_ks [0, 1, 2, 3, 8, 9, 10, 11, 12, 18, 24, 35] (by (try simp only [keep, lk, pd, enumE, Nat.reduceBEq, Nat.reduceAdd, cond_true, cond_false]); exact rfl) ?_
    refine at_then ?_
    refine at_seq ?_
    refine at_region ?_
    refine st_p rfl rfl (p_assign rfl) ?_
    refine at_nil ?_
    refine at_ks [0, 1, 2, 3, 8, 9, 10, 11, 12, 18, 24, 35] (by (try simp only [keep, lk, pd, enumE, Nat.reduceBEq, Nat.reduceAdd, cond_true, cond_false]); exact rfl) ?_
    refine at_then ?_
    refine at_seq ?_
    refine at_seq ?_
    refine at_region ?_
    refine st_p rfl rfl (p_assign rfl) ?_
    refine at_nil ?_
    refine at_ks [0, 1, 2, 3, 8, 9, 10, 11, 12, 18, 24, 35] (by (try simp only [keep, lk, pd, enumE, Nat.reduceBEq, Nat.reduceAdd, cond_true, cond_false]); exact rfl) ?_
    refine at_then ?_
    refine at_block ?_
    refine at_ks [0, 1, 9, 10, 11] (by (try simp only [keep, lk, pd, enumE, Nat.reduceBEq, Nat.reduceAdd, cond_true, cond_false]); exact rfl) ?_
    refine at_nilsl 3 1 ?_
    rw [← hl]
    refine at_loop (fun k E H => ∃ (i : Nat) (v : Value), E = [(0, .slice A n ca), (1, .slice B n cb), (9, N (lackv p b)), (10, v), (11, N (i : Int))] ∧ H = [.sl v 3 1 i (ints .i64 (trv (lackv p b) ws xs i))] ∧ i ≤ n ∧ k + i = n + 1) (n + 1) (⟨0, _, rfl, rfl, by omega, by omega⟩) ?_
    rintro k _ _ ⟨i, v, rfl, rfl, hin, hk⟩
    refine at_seq ?_
    refine at_seq ?_
    refine at_region ?_
    refine st_p rfl rfl (p_move rfl) ?_
    refine st_p rfl rfl (p_move rfl) ?_
    refine st_p rfl rfl (p_len rfl m_22) ?_
    refine st_p rfl rfl (p_lss rfl rfl) ?_
    refine at_nil ?_
    refine at_ks [0, 1, 2, 3, 8, 9, 10, 11, 12, 18, 24, 35] (by (try simp only [keep, lk, pd, enumE, Nat.reduceBEq, Nat.reduceAdd, cond_true, cond_false]); exact rfl) ?_
    refine at_then ?_
    refine at_cond rfl (fun ht24 => ?_) (fun ht24 => ?_)
    · (try simp only [decide_eq_true_eq, decide_eq_false_iff_not, Bool.not_eq_true', Bool.not_eq_false', Bool.not_true, Bool.not_false, Bool.or_eq_true, Bool.and_eq_true, Int.not_lt, Int.not_le] at ht24)
      obtain ⟨ba, oa, rfl, hga⟩ := hx.int (i := (i : Int)) (by omega) (by omega)
      obtain ⟨bb, ob, rfl, hgb⟩ := hy.int (i := (i : Int)) (by omega) (by omega)
      have hm := mul_in (cl_in (m := 2047) (by decide) (gi xs i)) (lackv_in p b)
      have e0 : (2047 : Int) * 4096 = 8384512 := by decide
      rw [e0] at hm
      have hw := cl_in (m := 1048576) (by decide) (gi ws i)
      refine at_skip ?_
      refine at_then ?_
      refine at_seq ?_
      refine at_block ?_
      refine at_seq ?_
      refine at_region ?_
      refine st_p rfl rfl (p_move rfl) ?_
      refine st_p rfl rfl (p_move rfl) ?_
      refine st_p rfl rfl ((by first | exact p_ia1 rfl rfl z_22 (by first | decide | omega) (by first | decide | omega) | exact p_iaN rfl rfl z_22 (by first | decide | omega) (by first | decide | omega) | exact p_iaO1 rfl rfl z_22 (by first | decide | omega) (by first | decide | omega) | exact p_iaO rfl rfl z_22 (by first | decide | omega) (by first | decide | omega))) ?_
      refine st_q rfl rfl ((by first | exact q_ob 0 rfl rfl r_3 (by first | rfl | assumption) | exact q_ob 1 rfl rfl r_3 (by first | rfl | assumption) | exact q_ob 2 rfl rfl r_3 (by first | rfl | assumption) | exact q_ob 3 rfl rfl r_3 (by first | rfl | assumption) | exact q_ob 4 rfl rfl r_3 (by first | rfl | assumption) | exact q_ob 5 rfl rfl r_3 (by first | rfl | assumption) | exact q_sl 0 rfl rfl r_3 (by first | rfl | assumption) | exact q_sl 1 rfl rfl r_3 (by first | rfl | assumption) | exact q_sl 2 rfl rfl r_3 (by first | rfl | assumption) | exact q_sl 3 rfl rfl r_3 (by first | rfl | assumption) | exact q_sl 4 rfl rfl r_3 (by first | rfl | assumption) | exact q_sl 5 rfl rfl r_3 (by first | rfl | assumption) | exact q_fr rfl r_3 (by assumption))) ?_
      refine st_q rfl rfl (q_call (first := []) rfl c_75 rfl (fun F1 hF1 hs1 => rcut_calls _ _ F1 (by decide) (by decide))) ?_
      refine st_p rfl rfl (p_assign rfl) ?_
      refine at_nil ?_
      refine at_ks [0, 1, 2, 3, 8, 9, 10, 11, 12, 18, 24, 35] (by (try simp only [keep, lk, pd, enumE, Nat.reduceBEq, Nat.reduceAdd, cond_true, cond_false]); exact rfl) ?_
      refine at_then ?_
      refine at_seq ?_
      refine at_seq ?_
      refine at_region ?_
      refine st_p rfl rfl (p_move rfl) ?_
      refine st_p rfl rfl (p_move rfl) ?_
      refine st_p rfl rfl (p_len rfl m_22) ?_
      refine st_p rfl rfl (p_lss rfl rfl) ?_
      refine at_nil ?_
      refine at_ks [0, 1, 2, 3, 8, 9, 10, 11, 12, 18, 24, 35] (by (try simp only [keep, lk, pd, enumE, Nat.reduceBEq, Nat.reduceAdd, cond_true, cond_false]); exact rfl) ?_
      refine at_then ?_
      refine at_cond rfl (fun ht35 => ?_) (fun ht35 => ?_)
      · (try simp only [decide_eq_true_eq, decide_eq_false_iff_not, Bool.not_eq_true', Bool.not_eq_false', Bool.not_true, Bool.not_false, Bool.or_eq_true, Bool.and_eq_true, Int.not_lt, Int.not_le] at ht35)
        refine at_region ?_
        refine st_p rfl rfl (p_move rfl) ?_
        refine st_p rfl rfl (p_move rfl) ?_
        refine st_p rfl rfl (p_move rfl) ?_
        refine st_p rfl rfl ((by first | exact p_ia1 rfl rfl z_22 (by first | decide | omega) (by first | decide | omega) | exact p_iaN rfl rfl z_22 (by first | decide | omega) (by first | decide | omega) | exact p_iaO1 rfl rfl z_22 (by first | decide | omega) (by first | decide | omega) | exact p_iaO rfl rfl z_22 (by first | decide | omega) (by first | decide | omega))) ?_
        refine st_q rfl rfl ((by first | exact q_ob 0 rfl rfl r_3 (by first | rfl | assumption) | exact q_ob 1 rfl rfl r_3 (by first | rfl | assumption) | exact q_ob 2 rfl rfl r_3 (by first | rfl | assumption) | exact q_ob 3 rfl rfl r_3 (by first | rfl | assumption) | exact q_ob 4 rfl rfl r_3 (by first | rfl | assumption) | exact q_ob 5 rfl rfl r_3 (by first | rfl | assumption) | exact q_sl 0 rfl rfl r_3 (by first | rfl | assumption) | exact q_sl 1 rfl rfl r_3 (by first | rfl | assumption) | exact q_sl 2 rfl rfl r_3 (by first | rfl | assumption) | exact q_sl 3 rfl rfl r_3 (by first | rfl | assumption) | exact q_sl 4 rfl rfl r_3 (by first | rfl | assumption) | exact q_sl 5 rfl rfl r_3 (by first | rfl | assumption) | exact q_fr rfl r_3 (by assumption))) ?_
        refine st_q rfl rfl (q_call (first := []) rfl c_75 rfl (fun F1 hF1 hs1 => rcut_calls _ _ F1 (by decide) (by decide))) ?_
        refine st_p rfl rfl (p_move rfl) ?_
        refine st_p rfl rfl (p_mul rfl rfl (by first | exact nw64 (by omega) | exact nwu64 (by omega) | exact nwu8 (by omega) | exact nwu16 (by omega) | exact wu64 _ | exact wu8 _ | exact wi64 _ | rfl)) ?_
        refine st_p rfl rfl (p_shr rfl rfl (by decide) (shr10 _)) ?_
        refine st_p rfl rfl (p_add rfl rfl (by first | exact nw64 (by omega) | exact nwu64 (by omega) | exact nwu8 (by omega) | exact nwu16 (by omega) | exact wu64 _ | exact wu8 _ | exact wi64 _ | rfl)) ?_
        refine st_q rfl rfl (q_call (first := []) rfl c_75 rfl (fun F1 hF1 hs1 => rcut_calls _ _ F1 (by decide) (by decide))) ?_
        refine st_p rfl rfl (p_assign rfl) ?_
        refine at_nil ?_
        refine at_ks [0, 1, 2, 3, 8, 9, 10, 11, 12, 18, 24, 35] (by (try simp only [keep, lk, pd, enumE, Nat.reduceBEq, Nat.reduceAdd, cond_true, cond_false]); exact rfl) ?_
        refine at_then ?_
        refine at_region ?_
        refine st_p rfl rfl (p_move rfl) ?_
        refine st_p rfl rfl (p_move rfl) ?_
        refine st_l rfl rfl (l_bsV [_] _ rfl e_22 (by decide) (by decide) rfl (by simp [Value.cells]) (by simp only [List.flatMap_cons, List.flatMap_nil, Value.cells, List.nil_append, List.cons_append, List.append_nil]; exact rfl)) ?_
        rintro _ _ ⟨b49, rfl, rfl⟩
        refine at_hp (by (try simp only [List.take_zero, List.take_succ_cons, List.drop_zero, List.drop_succ_cons, List.drop_nil, List.length_cons, List.length_nil, Nat.zero_add, Nat.reduceAdd, List.set_cons_zero, List.set_cons_succ, List.nil_append, List.cons_append, List.append_nil, pick, List.filterMap_cons, List.filterMap_nil, List.getElem?_cons_zero, List.getElem?_cons_succ]); exact rfl) ?_
        refine st_l rfl rfl ((by first | exact l_app 1 0 rfl rfl e_22 rfl (by decide) rfl rfl (by first | rfl | (simp; done)) (by simp [Value.oneCell']) (by decide) (by first | omega | (simp only [List.length_append, List.length_cons, List.length_nil]; omega)) (by first | decide | omega) | exact l_app 2 0 rfl rfl e_22 rfl (by decide) rfl rfl (by first | rfl | (simp; done)) (by simp [Value.oneCell']) (by decide) (by first | omega | (simp only [List.length_append, List.length_cons, List.length_nil]; omega)) (by first | decide | omega) | exact l_app 3 0 rfl rfl e_22 rfl (by decide) rfl rfl (by first | rfl | (simp; done)) (by simp [Value.oneCell']) (by decide) (by first | omega | (simp only [List.length_append, List.length_cons, List.length_nil]; omega)) (by first | decide | omega) | exact l_app 4 0 rfl rfl e_22 rfl (by decide) rfl rfl (by first | rfl | (simp; done)) (by simp [Value.oneCell']) (by decide) (by first | omega | (simp only [List.length_append, List.length_cons, List.length_nil]; omega)) (by first | decide | omega) | exact l_app 5 0 rfl rfl e_22 rfl (by decide) rfl rfl (by first | rfl | (simp; done)) (by simp [Value.oneCell']) (by decide) (by first | omega | (simp only [List.length_append, List.length_cons, List.length_nil]; omega)) (by first | decide | omega) | exact l_app 0 1 rfl rfl e_22 rfl (by decide) rfl rfl (by first | rfl | (simp; done)) (by simp [Value.oneCell']) (by decide) (by first | omega | (simp only [List.length_append, List.length_cons, List.length_nil]; omega)) (by first | decide | omega) | exact l_app 2 1 rfl rfl e_22 rfl (by decide) rfl rfl (by first | rfl | (simp; done)) (by simp [Value.oneCell']) (by decide) (by first | omega | (simp only [List.length_append, List.length_cons, List.length_nil]; omega)) (by first | decide | omega) | exact l_app 3 1 rfl rfl e_22 rfl (by decide) rfl rfl (by first | rfl | (simp; done)) (by simp [Value.oneCell']) (by decide) (by first | omega | (simp only [List.length_append, List.length_cons, List.length_nil]; omega)) (by first | decide | omega) | exact l_app 4 1 rfl rfl e_22 rfl (by decide) rfl rfl (by first | rfl | (simp; done)) (by simp [Value.oneCell']) (by decide) (by first | omega | (simp only [List.length_append, List.length_cons, List.length_nil]; omega)) (by first | decide | omega) | exact l_app 5 1 rfl rfl e_22 rfl (by decide) rfl rfl (by first | rfl | (simp; done)) (by simp [Value.oneCell']) (by decide) (by first | omega | (simp only [List.length_append, List.length_cons, List.length_nil]; omega)) (by first | decide | omega) | exact l_app 0 2 rfl rfl e_22 rfl (by decide) rfl rfl (by first | rfl | (simp; done)) (by simp [Value.oneCell']) (by decide) (by first | omega | (simp only [List.length_append, List.length_cons, List.length_nil]; omega)) (by first | decide | omega) | exact l_app 1 2 rfl rfl e_22 rfl (by decide) rfl rfl (by first | rfl | (simp; done)) (by simp [Value.oneCell']) (by decide) (by first | omega | (simp only [List.length_append, List.length_cons, List.length_nil]; omega)) (by first | decide | omega) | exact l_app 3 2 rfl rfl e_22 rfl (by decide) rfl rfl (by first | rfl | (simp; done)) (by simp [Value.oneCell']) (by decide) (by first | omega | (simp only [List.length_append, List.length_cons, List.length_nil]; omega)) (by first | decide | omega) | exact l_app 4 2 rfl rfl e_22 rfl (by decide) rfl rfl (by first | rfl | (simp; done)) (by simp [Value.oneCell']) (by decide) (by first | omega | (simp only [List.length_append, List.length_cons, List.length_nil]; omega)) (by first | decide | omega) | exact l_app 5 2 rfl rfl e_22 rfl (by decide) rfl rfl (by first | rfl | (simp; done)) (by simp [Value.oneCell']) (by decide) (by first | omega | (simp only [List.length_append, List.length_cons, List.length_nil]; omega)) (by first | decide | omega))) ?_
        rintro _ _ ⟨g50, c50, rfl, rfl⟩
        refine at_hp (by (try simp only [List.take_zero, List.take_succ_cons, List.drop_zero, List.drop_succ_cons, List.drop_nil, List.length_cons, List.length_nil, Nat.zero_add, Nat.reduceAdd, List.set_cons_zero, List.set_cons_succ, List.nil_append, List.cons_append, List.append_nil, pick, List.filterMap_cons, List.filterMap_nil, List.getElem?_cons_zero, List.getElem?_cons_succ]); exact rfl) ?_
        refine at_drop ?_
        refine st_p rfl rfl (p_assign rfl) ?_
        refine at_nil ?_
        refine at_ks [0, 1, 2, 3, 8, 9, 10, 11, 12, 18, 24, 35] (by (try simp only [keep, lk, pd, enumE, Nat.reduceBEq, Nat.reduceAdd, cond_true, cond_false]); exact rfl) ?_
        refine at_inb ?_
        refine at_then ?_
        refine at_region ?_
        refine st_p rfl rfl (p_move rfl) ?_
        refine st_p rfl rfl (p_add rfl rfl (by first | exact nw64 (by omega) | exact nwu64 (by omega) | exact nwu8 (by omega) | exact nwu16 (by omega) | exact wu64 _ | exact wu8 _ | exact wi64 _ | rfl)) ?_
        refine st_p rfl rfl (p_assign rfl) ?_
        refine at_nil ?_
        refine at_ks [0, 1, 2, 3, 8, 9, 10, 11, 12, 18, 24, 35] (by (try simp only [keep, lk, pd, enumE, Nat.reduceBEq, Nat.reduceAdd, cond_true, cond_false]); exact rfl) ?_
        refine at_ks [0, 1, 9, 10, 11] (by (try simp only [keep, lk, pd, enumE, Nat.reduceBEq, Nat.reduceAdd, cond_true, cond_false]); exact rfl) ?_
        refine at_back (k - 1) (by omega) ⟨i + 1, _, rfl, ?_, by omega, by omega⟩
        simp [trv, trw, ints]
      · (try simp only [decide_eq_true_eq, decide_eq_false_iff_not, Bool.not_eq_true', Bool.not_eq_false', Bool.not_true, Bool.not_false, Bool.or_eq_true, Bool.and_eq_true, Int.not_lt, Int.not_le] at ht35)
        first | (exfalso; omega) | (simp at ht35; done) | contradiction
    · (try simp only [decide_eq_true_eq, decide_eq_false_iff_not, Bool.not_eq_true', Bool.not_eq_false', Bool.not_true, Bool.not_false, Bool.or_eq_true, Bool.and_eq_true, Int.not_lt, Int.not_le] at ht24)
      obtain rfl : n = i := by omega
      refine at_exit ?_
      refine at_then_x ?_
      refine at_then_x ?_
      refine at_inb_exit ?_
      refine at_then ?_
      refine at_seq ?_
      refine at_region ?_
      refine st_p rfl rfl (p_move rfl) ?_
      refine st_p rfl rfl (p_assign rfl) ?_
      refine at_nil ?_
      refine at_ks [0, 1, 2, 3, 8, 9, 10, 11, 12, 18, 24, 35] (by (try simp only [keep, lk, pd, enumE, Nat.reduceBEq, Nat.reduceAdd, cond_true, cond_false]); exact rfl) ?_
      refine at_then ?_
      refine at_retc ?_
      exact fin_1 rfl rfl (by
          exact by rw [trainv, hn])
  · (try simp only [decide_eq_true_eq, decide_eq_false_iff_not, Bool.not_eq_true', Bool.not_eq_false', Bool.not_true, Bool.not_false, Bool.or_eq_true, Bool.and_eq_true, Int.not_lt, Int.not_le] at ht18)
    have hl : lackv p b = -mx 0 (mn p 4096) := if_pos ht18
    refine at_skip ?_
    refine at_then ?_
    refine at_seq ?_
    refine at_region ?_
    refine st_p rfl rfl (p_assign rfl) ?_
    refine at_nil ?_
    refine at_ks [0, 1, 2, 3, 8, 9, 10, 11, 12, 18, 24, 35] (by (try simp only [keep, lk, pd, enumE, Nat.reduceBEq, Nat.reduceAdd, cond_true, cond_false]); exact rfl) ?_
    refine at_then ?_
    refine at_seq ?_
    refine at_seq ?_
    refine at_region ?_
    refine st_p rfl rfl (p_assign rfl) ?_
    refine at_nil ?_
    refine at_ks [0, 1, 2, 3, 8, 9, 10, 11, 12, 18, 24, 35] (by (try simp only [keep, lk, pd, enumE, Nat.reduceBEq, Nat.reduceAdd, cond_true, cond_false]); exact rfl) ?_
    refine at_then ?_
    refine at_block ?_
    refine at_ks [0, 1, 9, 10, 11] (by (try simp only [keep, lk, pd, enumE, Nat.reduceBEq, Nat.reduceAdd, cond_true, cond_false]); exact rfl) ?_
    refine at_nilsl 3 1 ?_
    rw [← hl]
    refine at_loop (fun k E H => ∃ (i : Nat) (v : Value), E = [(0, .slice A n ca), (1, .slice B n cb), (9, N (lackv p b)), (10, v), (11, N (i : Int))] ∧ H = [.sl v 3 1 i (ints .i64 (trv (lackv p b) ws xs i))] ∧ i ≤ n ∧ k + i = n + 1) (n + 1) (⟨0, _, rfl, rfl, by omega, by omega⟩) ?_
    rintro k _ _ ⟨i, v, rfl, rfl, hin, hk⟩
    refine at_seq ?_
    refine at_seq ?_
    refine at_region ?_
    refine st_p rfl rfl (p_move rfl) ?_
    refine st_p rfl rfl (p_move rfl) ?_
    refine st_p rfl rfl (p_len rfl m_22) ?_
    refine st_p rfl rfl (p_lss rfl rfl) ?_
    refine at_nil ?_
    refine at_ks [0, 1, 2, 3, 8, 9, 10, 11, 12, 18, 24, 35] (by (try simp only [keep, lk, pd, enumE, Nat.reduceBEq, Nat.reduceAdd, cond_true, cond_false]); exact rfl) ?_
    refine at_then ?_
    refine at_cond rfl (fun ht24 => ?_) (fun ht24 => ?_)
    · (try simp only [decide_eq_true_eq, decide_eq_false_iff_not, Bool.not_eq_true', Bool.not_eq_false', Bool.not_true, Bool.not_false, Bool.or_eq_true, Bool.and_eq_true, Int.not_lt, Int.not_le] at ht24)
      obtain ⟨ba, oa, rfl, hga⟩ := hx.int (i := (i : Int)) (by omega) (by omega)
      obtain ⟨bb, ob, rfl, hgb⟩ := hy.int (i := (i : Int)) (by omega) (by omega)
      have hm := mul_in (cl_in (m := 2047) (by decide) (gi xs i)) (lackv_in p b)
      have e0 : (2047 : Int) * 4096 = 8384512 := by decide
      rw [e0] at hm
      have hw := cl_in (m := 1048576) (by decide) (gi ws i)
      refine at_skip ?_
      refine at_then ?_
      refine at_seq ?_
      refine at_block ?_
      refine at_seq ?_
      refine at_region ?_
      refine st_p rfl rfl (p_move rfl) ?_
      refine st_p rfl rfl (p_move rfl) ?_
      refine st_p rfl rfl ((by first | exact p_ia1 rfl rfl z_22 (by first | decide | omega) (by first | decide | omega) | exact p_iaN rfl rfl z_22 (by first | decide | omega) (by first | decide | omega) | exact p_iaO1 rfl rfl z_22 (by first | decide | omega) (by first | decide | omega) | exact p_iaO rfl rfl z_22 (by first | decide | omega) (by first | decide | omega))) ?_
      refine st_q rfl rfl ((by first | exact q_ob 0 rfl rfl r_3 (by first | rfl | assumption) | exact q_ob 1 rfl rfl r_3 (by first | rfl | assumption) | exact q_ob 2 rfl rfl r_3 (by first | rfl | assumption) | exact q_ob 3 rfl rfl r_3 (by first | rfl | assumption) | exact q_ob 4 rfl rfl r_3 (by first | rfl | assumption) | exact q_ob 5 rfl rfl r_3 (by first | rfl | assumption) | exact q_sl 0 rfl rfl r_3 (by first | rfl | assumption) | exact q_sl 1 rfl rfl r_3 (by first | rfl | assumption) | exact q_sl 2 rfl rfl r_3 (by first | rfl | assumption) | exact q_sl 3 rfl rfl r_3 (by first | rfl | assumption) | exact q_sl 4 rfl rfl r_3 (by first | rfl | assumption) | exact q_sl 5 rfl rfl r_3 (by first | rfl | assumption) | exact q_fr rfl r_3 (by assumption))) ?_
      refine st_q rfl rfl (q_call (first := []) rfl c_75 rfl (fun F1 hF1 hs1 => rcut_calls _ _ F1 (by decide) (by decide))) ?_
      refine st_p rfl rfl (p_assign rfl) ?_
      refine at_nil ?_
      refine at_ks [0, 1, 2, 3, 8, 9, 10, 11, 12, 18, 24, 35] (by (try simp only [keep, lk, pd, enumE, Nat.reduceBEq, Nat.reduceAdd, cond_true, cond_false]); exact rfl) ?_
      refine at_then ?_
      refine at_seq ?_
      refine at_seq ?_
      refine at_region ?_
      refine st_p rfl rfl (p_move rfl) ?_
      refine st_p rfl rfl (p_move rfl) ?_
      refine st_p rfl rfl (p_len rfl m_22) ?_
      refine st_p rfl rfl (p_lss rfl rfl) ?_
      refine at_nil ?_
      refine at_ks [0, 1, 2, 3, 8, 9, 10, 11, 12, 18, 24, 35] (by (try simp only [keep, lk, pd, enumE, Nat.reduceBEq, Nat.reduceAdd, cond_true, cond_false]); exact rfl) ?_
      refine at_then ?_
      refine at_cond rfl (fun ht35 => ?_) (fun ht35 => ?_)
      · (try simp only [decide_eq_true_eq, decide_eq_false_iff_not, Bool.not_eq_true', Bool.not_eq_false', Bool.not_true, Bool.not_false, Bool.or_eq_true, Bool.and_eq_true, Int.not_lt, Int.not_le] at ht35)
        refine at_region ?_
        refine st_p rfl rfl (p_move rfl) ?_
        refine st_p rfl rfl (p_move rfl) ?_
        refine st_p rfl rfl (p_move rfl) ?_
        refine st_p rfl rfl ((by first | exact p_ia1 rfl rfl z_22 (by first | decide | omega) (by first | decide | omega) | exact p_iaN rfl rfl z_22 (by first | decide | omega) (by first | decide | omega) | exact p_iaO1 rfl rfl z_22 (by first | decide | omega) (by first | decide | omega) | exact p_iaO rfl rfl z_22 (by first | decide | omega) (by first | decide | omega))) ?_
        refine st_q rfl rfl ((by first | exact q_ob 0 rfl rfl r_3 (by first | rfl | assumption) | exact q_ob 1 rfl rfl r_3 (by first | rfl | assumption) | exact q_ob 2 rfl rfl r_3 (by first | rfl | assumption) | exact q_ob 3 rfl rfl r_3 (by first | rfl | assumption) | exact q_ob 4 rfl rfl r_3 (by first | rfl | assumption) | exact q_ob 5 rfl rfl r_3 (by first | rfl | assumption) | exact q_sl 0 rfl rfl r_3 (by first | rfl | assumption) | exact q_sl 1 rfl rfl r_3 (by first | rfl | assumption) | exact q_sl 2 rfl rfl r_3 (by first | rfl | assumption) | exact q_sl 3 rfl rfl r_3 (by first | rfl | assumption) | exact q_sl 4 rfl rfl r_3 (by first | rfl | assumption) | exact q_sl 5 rfl rfl r_3 (by first | rfl | assumption) | exact q_fr rfl r_3 (by assumption))) ?_
        refine st_q rfl rfl (q_call (first := []) rfl c_75 rfl (fun F1 hF1 hs1 => rcut_calls _ _ F1 (by decide) (by decide))) ?_
        refine st_p rfl rfl (p_move rfl) ?_
        refine st_p rfl rfl (p_mul rfl rfl (by first | exact nw64 (by omega) | exact nwu64 (by omega) | exact nwu8 (by omega) | exact nwu16 (by omega) | exact wu64 _ | exact wu8 _ | exact wi64 _ | rfl)) ?_
        refine st_p rfl rfl (p_shr rfl rfl (by decide) (shr10 _)) ?_
        refine st_p rfl rfl (p_add rfl rfl (by first | exact nw64 (by omega) | exact nwu64 (by omega) | exact nwu8 (by omega) | exact nwu16 (by omega) | exact wu64 _ | exact wu8 _ | exact wi64 _ | rfl)) ?_
        refine st_q rfl rfl (q_call (first := []) rfl c_75 rfl (fun F1 hF1 hs1 => rcut_calls _ _ F1 (by decide) (by decide))) ?_
        refine st_p rfl rfl (p_assign rfl) ?_
        refine at_nil ?_
        refine at_ks [0, 1, 2, 3, 8, 9, 10, 11, 12, 18, 24, 35] (by (try simp only [keep, lk, pd, enumE, Nat.reduceBEq, Nat.reduceAdd, cond_true, cond_false]); exact rfl) ?_
        refine at_then ?_
        refine at_region ?_
        refine st_p rfl rfl (p_move rfl) ?_
        refine st_p rfl rfl (p_move rfl) ?_
        refine st_l rfl rfl (l_bsV [_] _ rfl e_22 (by decide) (by decide) rfl (by simp [Value.cells]) (by simp only [List.flatMap_cons, List.flatMap_nil, Value.cells, List.nil_append, List.cons_append, List.append_nil]; exact rfl)) ?_
        rintro _ _ ⟨b49, rfl, rfl⟩
        refine at_hp (by (try simp only [List.take_zero, List.take_succ_cons, List.drop_zero, List.drop_succ_cons, List.drop_nil, List.length_cons, List.length_nil, Nat.zero_add, Nat.reduceAdd, List.set_cons_zero, List.set_cons_succ, List.nil_append, List.cons_append, List.append_nil, pick, List.filterMap_cons, List.filterMap_nil, List.getElem?_cons_zero, List.getElem?_cons_succ]); exact rfl) ?_
        refine st_l rfl rfl ((by first | exact l_app 1 0 rfl rfl e_22 rfl (by decide) rfl rfl (by first | rfl | (simp; done)) (by simp [Value.oneCell']) (by decide) (by first | omega | (simp only [List.length_append, List.length_cons, List.length_nil]; omega)) (by first | decide | omega) | exact l_app 2 0 rfl rfl e_22 rfl (by decide) rfl rfl (by first | rfl | (simp; done)) (by simp [Value.oneCell']) (by decide) (by first | omega | (simp only [List.length_append, List.length_cons, List.length_nil]; omega)) (by first | decide | omega) | exact l_app 3 0 rfl rfl e_22 rfl (by decide) rfl rfl (by first | rfl | (simp; done)) (by simp [Value.oneCell']) (by decide) (by first | omega | (simp only [List.length_append, List.length_cons, List.length_nil]; omega)) (by first | decide | omega) | exact l_app 4 0 rfl rfl e_22 rfl (by decide) rfl rfl (by first | rfl | (simp; done)) (by simp [Value.oneCell']) (by decide) (by first | omega | (simp only [List.length_append, List.length_cons, List.length_nil]; omega)) (by first | decide | omega) | exact l_app 5 0 rfl rfl e_22 rfl (by decide) rfl rfl (by first | rfl | (simp; done)) (by simp [Value.oneCell']) (by decide) (by first | omega | (simp only [List.length_append, List.length_cons, List.length_nil]; omega)) (by first | decide | omega) | exact l_app 0 1 rfl rfl e_22 rfl (by decide) rfl rfl (by first | rfl | (simp; done)) (by simp [Value.oneCell']) (by decide) (by first | omega | (simp only [List.length_append, List.length_cons, List.length_nil]; omega)) (by first | decide | omega) | exact l_app 2 1 rfl rfl e_22 rfl (by decide) rfl rfl (by first | rfl | (simp; done)) (by simp [Value.oneCell']) (by decide) (by first | omega | (simp only [List.length_append, List.length_cons, List.length_nil]; omega)) (by first | decide | omega) | exact l_app 3 1 rfl rfl e_22 rfl (by decide) rfl rfl (by first | rfl | (simp; done)) (by simp [Value.oneCell']) (by decide) (by first | omega | (simp only [List.length_append, List.length_cons, List.length_nil]; omega)) (by first | decide | omega) | exact l_app 4 1 rfl rfl e_22 rfl (by decide) rfl rfl (by first | rfl | (simp; done)) (by simp [Value.oneCell']) (by decide) (by first | omega | (simp only [List.length_append, List.length_cons, List.length_nil]; omega)) (by first | decide | omega) | exact l_app 5 1 rfl rfl e_22 rfl (by decide) rfl rfl (by first | rfl | (simp; done)) (by simp [Value.oneCell']) (by decide) (by first | omega | (simp only [List.length_append, List.length_cons, List.length_nil]; omega)) (by first | decide | omega) | exact l_app 0 2 rfl rfl e_22 rfl (by decide) rfl rfl (by first | rfl | (simp; done)) (by simp [Value.oneCell']) (by decide) (by first | omega | (simp only [List.length_append, List.length_cons, List.length_nil]; omega)) (by first | decide | omega) | exact l_app 1 2 rfl rfl e_22 rfl (by decide) rfl rfl (by first | rfl | (simp; done)) (by simp [Value.oneCell']) (by decide) (by first | omega | (simp only [List.length_append, List.length_cons, List.length_nil]; omega)) (by first | decide | omega) | exact l_app 3 2 rfl rfl e_22 rfl (by decide) rfl rfl (by first | rfl | (simp; done)) (by simp [Value.oneCell']) (by decide) (by first | omega | (simp only [List.length_append, List.length_cons, List.length_nil]; omega)) (by first | decide | omega) | exact l_app 4 2 rfl rfl e_22 rfl (by decide) rfl rfl (by first | rfl | (simp; done)) (by simp [Value.oneCell']) (by decide) (by first | omega | (simp only [List.length_append, List.length_cons, List.length_nil]; omega)) (by first | decide | omega) | exact l_app 5 2 rfl rfl e_22 rfl (by decide) rfl rfl (by first | rfl | (simp; done)) (by simp [Value.oneCell']) (by decide) (by first | omega | (simp only [List.length_append, List.length_cons, List.length_nil]; omega)) (by first | decide | omega))) ?_
        rintro _ _ ⟨g50, c50, rfl, rfl⟩
        refine at_hp (by (try simp only [List.take_zero, List.take_succ_cons, List.drop_zero, List.drop_succ_cons, List.drop_nil, List.length_cons, List.length_nil, Nat.zero_add, Nat.reduceAdd, List.set_cons_zero, List.set_cons_succ, List.nil_append, List.cons_append, List.append_nil, pick, List.filterMap_cons, List.filterMap_nil, List.getElem?_cons_zero, List.getElem?_cons_succ]); exact rfl) ?_
        refine at_drop ?_
        refine st_p rfl rfl (p_assign rfl) ?_
        refine at_nil ?_
        refine at_ks [0, 1, 2, 3, 8, 9, 10, 11, 12, 18, 24, 35] (by (try simp only [keep, lk, pd, enumE, Nat.reduceBEq, Nat.reduceAdd, cond_true, cond_false]); exact rfl) ?_
        refine at_inb ?_
        refine at_then ?_
        refine at_region ?_
        refine st_p rfl rfl (p_move rfl) ?_
        refine st_p rfl rfl (p_add rfl rfl (by first | exact nw64 (by omega) | exact nwu64 (by omega) | exact nwu8 (by omega) | exact nwu16 (by omega) | exact wu64 _ | exact wu8 _ | exact wi64 _ | rfl)) ?_
        refine st_p rfl rfl (p_assign rfl) ?_
        refine at_nil ?_
        refine at_ks [0, 1, 2, 3, 8, 9, 10, 11, 12, 18, 24, 35] (by (try simp only [keep, lk, pd, enumE, Nat.reduceBEq, Nat.reduceAdd, cond_true, cond_false]); exact rfl) ?_
        refine at_ks [0, 1, 9, 10, 11] (by (try simp only [keep, lk, pd, enumE, Nat.reduceBEq, Nat.reduceAdd, cond_true, cond_false]); exact rfl) ?_
        refine at_back (k - 1) (by omega) ⟨i + 1, _, rfl, ?_, by omega, by omega⟩
        simp [trv, trw, ints]
      · (try simp only [decide_eq_true_eq, decide_eq_false_iff_not, Bool.not_eq_true', Bool.not_eq_false', Bool.not_true, Bool.not_false, Bool.or_eq_true, Bool.and_eq_true, Int.not_lt, Int.not_le] at ht35)
        first | (exfalso; omega) | (simp at ht35; done) | contradiction
    · (try simp only [decide_eq_true_eq, decide_eq_false_iff_not, Bool.not_eq_true', Bool.not_eq_false', Bool.not_true, Bool.not_false, Bool.or_eq_true, Bool.and_eq_true, Int.not_lt, Int.not_le] at ht24)
      obtain rfl : n = i := by omega
      refine at_exit ?_
      refine at_then_x ?_
      refine at_then_x ?_
      refine at_inb_exit ?_
      refine at_then ?_
      refine at_seq ?_
      refine at_region ?_
      refine st_p rfl rfl (p_move rfl) ?_
      refine st_p rfl rfl (p_assign rfl) ?_
      refine at_nil ?_
      refine at_ks [0, 1, 2, 3, 8, 9, 10, 11, 12, 18, 24, 35] (by (try simp only [keep, lk, pd, enumE, Nat.reduceBEq, Nat.reduceAdd, cond_true, cond_false]); exact rfl) ?_
      refine at_then ?_
      refine at_retc ?_
      exact fin_1 rfl rfl (by
          exact by rw [trainv, hn])

end Go.Proofs.Ytbpbhjnkmonlbaa