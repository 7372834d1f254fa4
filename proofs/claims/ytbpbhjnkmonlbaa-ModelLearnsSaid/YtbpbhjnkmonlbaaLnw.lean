/- One class again and again: the walk. No condition. -/
import Derived.Test.YtbpbhjnkmonlbaaLt
namespace Go.Proofs.Ytbpbhjnkmonlbaa
open Go.RowKit Sl
set_option linter.unusedVariables false
set_option linter.unusedSimpArgs false
set_option maxRecDepth 10000
theorem made_i64 (q : Nat) : (madeCells #[.int .i64 0] (q * 1)).toList = ints .i64 (List.replicate q 0) := by
  rw [Nat.mul_one]
  exact (made_rep 1 q (.int .i64 0) (by decide)).trans (by simp [ints])
def filled (m i : Nat) (c : Int) : List Int := List.replicate i c ++ List.replicate (m - i) 0
theorem filled_next {m i : Nat} (h : i < m) (c : Int) : (ints .i64 (filled m i c)).set i (N c) = ints .i64 (filled m (i + 1) c) := by
  unfold filled
  simp only [ints, List.map_append, List.map_replicate]
  rw [List.set_append_right _ _ (by simp), List.length_replicate, Nat.sub_self, show m - i = (m - (i + 1)) + 1 by omega, List.replicate_succ, List.set_cons_zero, List.replicate_succ', List.append_assoc]
  rfl
theorem shr_bit {c : Nat} {d : Nat} (hd : d < 7) : Int.fdiv (c : Int) (2 ^ min ((6 : Int) - d).toNat 64) = (c : Int) / 2 ^ (6 - d) := by
  rw [show min ((6 : Int) - (d : Int)).toNat 64 = 6 - d by omega, Int.fdiv_eq_ediv_of_nonneg _ (Int.pow_nonneg (by decide))]

theorem learns_calls (cl n : Int) (F : Frm) (hc0 : 0 ≤ cl) (hc1 : cl ≤ 255) (hn0 : 0 ≤ n) (hn1 : n ≤ 255) : SC Try.prog 8 #[.int .u8 cl, .int .u8 n] [] F (fun u H => u = .bool true ∧ H = []) := by
  obtain ⟨c, hc⟩ : ∃ c : Nat, (c : Int) = cl % 65 := ⟨(cl % 65).toNat, by omega⟩
  have hc65 : c < 65 := by omega
  obtain ⟨m, hm⟩ : ∃ m : Nat, (m : Int) = 30 + n % 40 := ⟨(30 + n % 40).toNat, by omega⟩
  have hmb : 30 ≤ m ∧ m ≤ 69 := by omega
  have hrm : ∀ x ∈ List.replicate m (c : Int), 0 ≤ x ∧ x < 65 := fun x hx => by rw [(List.mem_replicate.1 hx).2]; omega
  have hT := traceGo_trC (List.replicate m (c : Int)) ms0 [] hrm (by rw [List.length_replicate]; simp; omega)
  rw [List.nil_append] at hT
  have hTl := trC_len (List.replicate m (c : Int)) ms0
  have hTi := trC_in (List.replicate m (c : Int)) ms0
  have hTa : ∀ d, d < 7 → (trC (List.replicate m (c : Int)) ms0)[7 * (m - 1) + d]? = some ((cpN (kindN c) (btv c d) (m - 1)).ch) := fun d hd => trC_at hc65 (by omega) hd
  obtain ⟨t, ht⟩ : ∃ t, t = trC (List.replicate m (c : Int)) ms0 := ⟨_, rfl⟩
  rw [← ht] at hT hTl hTi hTa
  rw [List.length_replicate] at hTl
  refine sc_in (args := [.int .u8 cl, .int .u8 n]) Try.func8 rfl rfl (Nat.le_of_ble_eq_true rfl) ?_
  refine at_ks [0, 1, 4, 5, 6, 7, 8, 9, 10, 11, 12, 24, 37, 39, 68] (by (try simp only [keep, lk, pd, enumE, Nat.reduceBEq, Nat.reduceAdd, cond_true, cond_false]); exact rfl) ?_
  refine at_seq ?_
  refine at_region ?_
  refine st_p rfl rfl (p_assign rfl) ?_
  refine at_nil ?_
  refine at_ks [0, 1, 4, 5, 6, 7, 8, 9, 10, 11, 12, 24, 37, 39, 68] (by (try simp only [keep, lk, pd, enumE, Nat.reduceBEq, Nat.reduceAdd, cond_true, cond_false]); exact rfl) ?_
  refine at_then ?_
  refine at_seq ?_
  refine at_region ?_
  refine st_p rfl rfl (p_move rfl) ?_
  refine st_p rfl rfl (p_conv rfl Try.underlying5 Try.underlying3 (by first | exact nw64 (by omega) | exact nwu64 (by omega) | exact nwu8 (by omega) | exact nwu16 (by omega) | exact wu64 _ | exact wu8 _ | exact wi64 _ | rfl)) ?_
  refine st_p rfl rfl (p_rem (r := (c : Int)) rfl rfl (by decide) ((Int.tmod_eq_emod_of_nonneg hc0).trans hc.symm)) ?_
  refine st_p rfl rfl (p_assign rfl) ?_
  refine at_nil ?_
  refine at_ks [0, 1, 4, 5, 6, 7, 8, 9, 10, 11, 12, 24, 37, 39, 68] (by (try simp only [keep, lk, pd, enumE, Nat.reduceBEq, Nat.reduceAdd, cond_true, cond_false]); exact rfl) ?_
  refine at_then ?_
  refine at_seq ?_
  refine at_region ?_
  refine st_p rfl rfl (p_move rfl) ?_
  refine st_p rfl rfl (p_conv rfl Try.underlying5 Try.underlying3 (by first | exact nw64 (by omega) | exact nwu64 (by omega) | exact nwu8 (by omega) | exact nwu16 (by omega) | exact wu64 _ | exact wu8 _ | exact wi64 _ | rfl)) ?_
  refine st_p rfl rfl (p_rem (r := n % 40) rfl rfl (by decide) (Int.tmod_eq_emod_of_nonneg hn0)) ?_
  refine st_p rfl rfl (p_add (r := (m : Int)) rfl rfl ((nw64 (by omega)).trans hm.symm)) ?_
  refine st_p rfl rfl (p_assign rfl) ?_
  refine at_nil ?_
  refine at_ks [0, 1, 4, 5, 6, 7, 8, 9, 10, 11, 12, 24, 37, 39, 68] (by (try simp only [keep, lk, pd, enumE, Nat.reduceBEq, Nat.reduceAdd, cond_true, cond_false]); exact rfl) ?_
  refine at_then ?_
  refine at_seq ?_
  refine at_region ?_
  refine st_p rfl rfl (p_move rfl) ?_
  refine st_l rfl rfl (l_make (m := m) e_22 rfl rfl (by omega) (by simp only [maxLen]; omega)) ?_
  rintro _ _ ⟨b21, rfl, rfl⟩
  rw [made_i64]
  refine at_hp (by (try simp only [List.take_zero, List.take_succ_cons, List.drop_zero, List.drop_succ_cons, List.drop_nil, List.length_cons, List.length_nil, Nat.zero_add, Nat.reduceAdd, List.set_cons_zero, List.set_cons_succ, List.nil_append, List.cons_append, List.append_nil, pick, List.filterMap_cons, List.filterMap_nil, List.getElem?_cons_zero, List.getElem?_cons_succ]); exact rfl) ?_
  refine st_p rfl rfl (p_assign rfl) ?_
  refine at_nil ?_
  refine at_ks [0, 1, 4, 5, 6, 7, 8, 9, 10, 11, 12, 24, 37, 39, 68] (by (try simp only [keep, lk, pd, enumE, Nat.reduceBEq, Nat.reduceAdd, cond_true, cond_false]); exact rfl) ?_
  refine at_then ?_
  refine at_seq ?_
  refine at_seq ?_
  refine at_region ?_
  refine st_p rfl rfl (p_assign rfl) ?_
  refine at_nil ?_
  refine at_ks [0, 1, 4, 5, 6, 7, 8, 9, 10, 11, 12, 24, 37, 39, 68] (by (try simp only [keep, lk, pd, enumE, Nat.reduceBEq, Nat.reduceAdd, cond_true, cond_false]); exact rfl) ?_
  refine at_then ?_
  refine at_block ?_
  refine at_ks [5, 6, 7, 8] (by (try simp only [keep, lk, pd, enumE, Nat.reduceBEq, Nat.reduceAdd, cond_true, cond_false]); exact rfl) ?_
  refine at_loop (fun k E H => ∃ i : Nat, E = [(5, N (c : Int)), (6, N (m : Int)), (7, .slice (some ⟨b21, 0, none⟩) m m), (8, N (i : Int))] ∧ H = [.sl (.slice (some ⟨b21, 0, none⟩) m m) 3 1 m (ints .i64 (filled m i c))] ∧ i ≤ m ∧ k + i = m + 1) (m + 1) (⟨0, rfl, rfl, by omega, by omega⟩) ?_
  rintro k _ _ ⟨i, rfl, rfl, hi, hk⟩
  refine at_seq ?_
  refine at_seq ?_
  refine at_region ?_
  refine st_p rfl rfl (p_move rfl) ?_
  refine st_p rfl rfl (p_move rfl) ?_
  refine st_p rfl rfl (p_lss rfl rfl) ?_
  refine at_nil ?_
  refine at_ks [0, 1, 4, 5, 6, 7, 8, 9, 10, 11, 12, 24, 37, 39, 68] (by (try simp only [keep, lk, pd, enumE, Nat.reduceBEq, Nat.reduceAdd, cond_true, cond_false]); exact rfl) ?_
  refine at_then ?_
  refine at_cond rfl (fun ht24 => ?_) (fun ht24 => ?_)
  · (try simp only [decide_eq_true_eq, decide_eq_false_iff_not, Bool.not_eq_true', Bool.not_eq_false', Bool.not_true, Bool.not_false, Bool.or_eq_true, Bool.and_eq_true, Int.not_lt, Int.not_le] at ht24)
    refine at_skip ?_
    refine at_then ?_
    refine at_seq ?_
    refine at_block ?_
    refine at_region ?_
    refine st_p rfl rfl (p_move rfl) ?_
    refine st_p rfl rfl (p_move rfl) ?_
    refine st_p rfl rfl (p_move rfl) ?_
    refine st_p rfl rfl (p_ia1 rfl rfl z_22 (by omega) (by omega)) ?_
    refine st_l rfl rfl (l_sl 0 rfl rfl rfl rfl rfl s_3 (by simp [filled]; omega)) ?_
    rintro _ _ ⟨rfl, rfl⟩
    refine at_hp (by (try simp only [List.take_zero, List.take_succ_cons, List.drop_zero, List.drop_succ_cons, List.drop_nil, List.length_cons, List.length_nil, Nat.zero_add, Nat.reduceAdd, List.set_cons_zero, List.set_cons_succ, List.nil_append, List.cons_append, List.append_nil, pick, List.filterMap_cons, List.filterMap_nil, List.getElem?_cons_zero, List.getElem?_cons_succ]); exact rfl) ?_
    refine at_nil ?_
    refine at_ks [0, 1, 4, 5, 6, 7, 8, 9, 10, 11, 12, 24, 37, 39, 68] (by (try simp only [keep, lk, pd, enumE, Nat.reduceBEq, Nat.reduceAdd, cond_true, cond_false]); exact rfl) ?_
    refine at_inb ?_
    refine at_then ?_
    refine at_region ?_
    refine st_p rfl rfl (p_move rfl) ?_
    refine st_p rfl rfl (p_add rfl rfl (by first | exact nw64 (by omega) | exact nwu64 (by omega) | exact nwu8 (by omega) | exact nwu16 (by omega) | exact wu64 _ | exact wu8 _ | exact wi64 _ | rfl)) ?_
    refine st_p rfl rfl (p_assign rfl) ?_
    refine at_nil ?_
    refine at_ks [0, 1, 4, 5, 6, 7, 8, 9, 10, 11, 12, 24, 37, 39, 68] (by (try simp only [keep, lk, pd, enumE, Nat.reduceBEq, Nat.reduceAdd, cond_true, cond_false]); exact rfl) ?_
    refine at_ks [5, 6, 7, 8] (by (try simp only [keep, lk, pd, enumE, Nat.reduceBEq, Nat.reduceAdd, cond_true, cond_false]); exact rfl) ?_
    refine at_back (k - 1) (by omega) ⟨i + 1, rfl, ?_, by omega, by omega⟩
    rw [Int.toNat_natCast, filled_next (by omega)]
  · (try simp only [decide_eq_true_eq, decide_eq_false_iff_not, Bool.not_eq_true', Bool.not_eq_false', Bool.not_true, Bool.not_false, Bool.or_eq_true, Bool.and_eq_true, Int.not_lt, Int.not_le] at ht24)
    obtain rfl : m = i := by omega
    rw [show filled m m (c : Int) = List.replicate m (c : Int) by simp [filled]]
    refine at_exit ?_
    refine at_then_x ?_
    refine at_then_x ?_
    refine at_inb_exit ?_
    refine at_then ?_
    refine at_seq ?_
    refine at_region ?_
    refine st_p rfl rfl (p_move rfl) ?_
    refine st_l rfl rfl (l_callP (first := []) (H1 := []) (H2 := _) (List.Perm.refl _) rfl c_16 rfl (fun F1 hF1 hs1 => (trace_calls _ m _ (List.replicate m (c : Int)) t F1 (by simp) (by omega) (fv_slice (hs1 _ (List.mem_of_getElem? (i := 0) rfl))) hT).shape)) ?_
    rintro _ _ ⟨_, ⟨At, ct, rfl, hct, hAt, rfl⟩, rfl⟩
    refine at_hp (by (try simp only [List.take_zero, List.take_succ_cons, List.drop_zero, List.drop_succ_cons, List.drop_nil, List.length_cons, List.length_nil, Nat.zero_add, Nat.reduceAdd, List.set_cons_zero, List.set_cons_succ, List.nil_append, List.cons_append, List.append_nil, pick, List.filterMap_cons, List.filterMap_nil, List.getElem?_cons_zero, List.getElem?_cons_succ]); exact rfl) ?_
    refine st_p rfl rfl (p_assign rfl) ?_
    refine at_nil ?_
    refine at_ks [0, 1, 4, 5, 6, 7, 8, 9, 10, 11, 12, 24, 37, 39, 68] (by (try simp only [keep, lk, pd, enumE, Nat.reduceBEq, Nat.reduceAdd, cond_true, cond_false]); exact rfl) ?_
    refine at_then ?_
    refine at_seq ?_
    refine at_seq ?_
    refine at_region ?_
    refine st_p rfl rfl (p_move rfl) ?_
    refine st_p rfl rfl (p_len rfl m_22) ?_
    refine st_p rfl rfl (p_move rfl) ?_
    refine st_p rfl rfl (p_mul rfl rfl (by first | exact nw64 (by omega) | exact nwu64 (by omega) | exact nwu8 (by omega) | exact nwu16 (by omega) | exact wu64 _ | exact wu8 _ | exact wi64 _ | rfl)) ?_
    refine st_p rfl rfl (p_isF (p_neq rfl rfl) (by simp; omega)) ?_
    refine at_nil ?_
    refine at_ks [0, 1, 4, 5, 6, 7, 8, 9, 10, 11, 12, 24, 37, 39, 68] (by (try simp only [keep, lk, pd, enumE, Nat.reduceBEq, Nat.reduceAdd, cond_true, cond_false]); exact rfl) ?_
    refine at_then ?_
    refine at_cond_f rfl ?_
    refine at_skip ?_
    refine at_then ?_
    refine at_seq ?_
    refine at_seq ?_
    refine at_region ?_
    refine st_p rfl rfl (p_assign rfl) ?_
    refine at_nil ?_
    refine at_ks [0, 1, 4, 5, 6, 7, 8, 9, 10, 11, 12, 24, 37, 39, 68] (by (try simp only [keep, lk, pd, enumE, Nat.reduceBEq, Nat.reduceAdd, cond_true, cond_false]); exact rfl) ?_
    refine at_then ?_
    refine at_block ?_
    refine at_ks [5, 6, 9, 10] (by (try simp only [keep, lk, pd, enumE, Nat.reduceBEq, Nat.reduceAdd, cond_true, cond_false]); exact rfl) ?_
    refine at_loop (fun k E H => ∃ d : Nat, E = [(5, N (c : Int)), (6, N (m : Int)), (9, .slice At t.length ct), (10, N (d : Int))] ∧ H = [.sl (.slice At t.length ct) 3 1 t.length (ints .i64 t), .sl (.slice (some ⟨b21, 0, none⟩) m m) 3 1 m (ints .i64 (List.replicate m (c : Int)))] ∧ d ≤ 7 ∧ k + d = 8) (8) (⟨0, rfl, rfl, by omega, by omega⟩) ?_
    rintro k _ _ ⟨d, rfl, rfl, hd, hk⟩
    refine at_seq ?_
    refine at_seq ?_
    refine at_region ?_
    refine st_p rfl rfl (p_move rfl) ?_
    refine st_p rfl rfl (p_lss rfl rfl) ?_
    refine at_nil ?_
    refine at_ks [0, 1, 4, 5, 6, 7, 8, 9, 10, 11, 12, 24, 37, 39, 68] (by (try simp only [keep, lk, pd, enumE, Nat.reduceBEq, Nat.reduceAdd, cond_true, cond_false]); exact rfl) ?_
    refine at_then ?_
    refine at_cond rfl (fun ht39 => ?_) (fun ht39 => ?_)
    · (try simp only [decide_eq_true_eq, decide_eq_false_iff_not, Bool.not_eq_true', Bool.not_eq_false', Bool.not_true, Bool.not_false, Bool.or_eq_true, Bool.and_eq_true, Int.not_lt, Int.not_le] at ht39)
      have hd7 : d < 7 := by omega
      obtain ⟨gt_, rfl⟩ := hAt (by omega)
      have hi7 : 7 * (m - 1) + d < t.length := by omega
      obtain ⟨x, hx⟩ : ∃ x, x = (cpN (kindN c) (btv c d) (m - 1)).ch := ⟨_, rfl⟩
      have hti1 : (ints .i64 t)[((7 * (m - 1) + d : Nat) : Int).toNat]? = some (N x) := by
        rw [Int.toNat_natCast, List.getElem?_map, hTa d hd7, hx]; rfl
      have hlast := last_ok (c := c) (d := d) hc65 (show 29 ≤ m - 1 by omega) (by omega)
      rw [← hx] at hlast
      have hq : 0 ≤ (c : Int) / 2 ^ (6 - d) ∧ (c : Int) / 2 ^ (6 - d) < 9223372036854775808 := ⟨Int.ediv_nonneg (by omega) (Int.pow_nonneg (by decide)), by have := Int.ediv_le_self (a := (c : Int)) (2 ^ (6 - d)) (by omega); omega⟩
      refine at_skip ?_
      refine at_then ?_
      refine at_seq ?_
      refine at_block ?_
      refine at_seq ?_
      refine at_region ?_
      refine st_p rfl rfl (p_move rfl) ?_
      refine st_p rfl rfl (p_move rfl) ?_
      refine st_p rfl rfl (p_sub rfl rfl (by first | exact nw64 (by omega) | exact nwu64 (by omega) | exact nwu8 (by omega) | exact nwu16 (by omega) | exact wu64 _ | exact wu8 _ | exact wi64 _ | rfl)) ?_
      refine st_p rfl rfl (p_mul rfl rfl (by first | exact nw64 (by omega) | exact nwu64 (by omega) | exact nwu8 (by omega) | exact nwu16 (by omega) | exact wu64 _ | exact wu8 _ | exact wi64 _ | rfl)) ?_
      refine st_p rfl rfl (p_move rfl) ?_
      refine st_p rfl rfl (p_add (r := ((7 * (m - 1) + d : Nat) : Int)) rfl rfl ((nw64 (by omega)).trans (by omega))) ?_
      refine st_p rfl rfl (p_ia1 rfl rfl z_22 (by omega) (by omega)) ?_
      refine st_q rfl rfl (q_sl 0 rfl rfl r_3 hti1) ?_
      refine st_p rfl rfl (p_assign rfl) ?_
      refine at_nil ?_
      refine at_ks [0, 1, 4, 5, 6, 7, 8, 9, 10, 11, 12, 24, 37, 39, 68] (by (try simp only [keep, lk, pd, enumE, Nat.reduceBEq, Nat.reduceAdd, cond_true, cond_false]); exact rfl) ?_
      refine at_then ?_
      refine at_seq ?_
      refine at_region ?_
      refine st_p rfl rfl (p_move rfl) ?_
      refine st_p rfl rfl (p_move rfl) ?_
      refine st_p rfl rfl (p_sub rfl rfl (by first | exact nw64 (by omega) | exact nwu64 (by omega) | exact nwu8 (by omega) | exact nwu16 (by omega) | exact wu64 _ | exact wu8 _ | exact wi64 _ | rfl)) ?_
      refine st_p rfl rfl (p_shr (r := (c : Int) / 2 ^ (6 - d)) rfl rfl (by omega) (shr_bit hd7)) ?_
      refine st_p rfl rfl (p_and (r := btv c d) rfl rfl (and1 hq.1 hq.2)) ?_
      refine st_p rfl rfl (p_assign rfl) ?_
      refine at_nil ?_
      refine at_ks [0, 1, 4, 5, 6, 7, 8, 9, 10, 11, 12, 24, 37, 39, 68] (by (try simp only [keep, lk, pd, enumE, Nat.reduceBEq, Nat.reduceAdd, cond_true, cond_false]); exact rfl) ?_
      refine at_then ?_
      refine at_seq ?_
      refine at_region ?_
      refine st_p rfl rfl (p_move rfl) ?_
      refine st_p rfl rfl (p_eql rfl rfl) ?_
      refine st_p rfl rfl (p_move rfl) ?_
      refine at_split 57 rfl (fun ht57 => ?_) (fun ht57 => ?_)
      · (try simp only [decide_eq_true_eq, decide_eq_false_iff_not, Bool.not_eq_true', Bool.not_eq_false', Bool.not_true, Bool.not_false, Bool.or_eq_true, Bool.and_eq_true, Int.not_lt, Int.not_le] at ht57)
        refine sg_p rfl rfl (p_move rfl) ?_
        refine sg_p rfl rfl (p_isF (p_lss rfl rfl) (decide_eq_false (by have := hlast.1 ht57; omega))) ?_
        refine st_p rfl rfl ((by first | exact p_pick_t rfl rfl | exact p_pick_f rfl rfl)) ?_
        refine st_p rfl rfl (p_move rfl) ?_
        refine sg_p rfl rfl (p_move rfl) ?_
        refine sg_p rfl rfl (p_isF (p_eql rfl rfl) (decide_eq_false (by omega))) ?_
        refine sg_p rfl rfl (p_move rfl) ?_
        refine sg_no rfl rfl ?_
        refine sg_no rfl rfl ?_
        refine sg_p rfl rfl ((by first | exact p_pick_t rfl rfl | exact p_pick_f rfl rfl)) ?_
        refine st_p rfl rfl ((by first | exact p_pick_t rfl rfl | exact p_pick_f rfl rfl)) ?_
        refine at_nil ?_
        refine at_ks [0, 1, 4, 5, 6, 7, 8, 9, 10, 11, 12, 24, 37, 39, 68] (by (try simp only [keep, lk, pd, enumE, Nat.reduceBEq, Nat.reduceAdd, cond_true, cond_false]); exact rfl) ?_
        refine at_then ?_
        refine at_cond_f rfl ?_
        refine at_skip ?_
        refine at_inb ?_
        refine at_then ?_
        refine at_region ?_
        refine st_p rfl rfl (p_move rfl) ?_
        refine st_p rfl rfl (p_add rfl rfl (by first | exact nw64 (by omega) | exact nwu64 (by omega) | exact nwu8 (by omega) | exact nwu16 (by omega) | exact wu64 _ | exact wu8 _ | exact wi64 _ | rfl)) ?_
        refine st_p rfl rfl (p_assign rfl) ?_
        refine at_nil ?_
        refine at_ks [0, 1, 4, 5, 6, 7, 8, 9, 10, 11, 12, 24, 37, 39, 68] (by (try simp only [keep, lk, pd, enumE, Nat.reduceBEq, Nat.reduceAdd, cond_true, cond_false]); exact rfl) ?_
        refine at_ks [5, 6, 9, 10] (by (try simp only [keep, lk, pd, enumE, Nat.reduceBEq, Nat.reduceAdd, cond_true, cond_false]); exact rfl) ?_
        refine at_back (k - 1) (by omega) ⟨d + 1, rfl, rfl, by omega, by omega⟩
      · (try simp only [decide_eq_true_eq, decide_eq_false_iff_not, Bool.not_eq_true', Bool.not_eq_false', Bool.not_true, Bool.not_false, Bool.or_eq_true, Bool.and_eq_true, Int.not_lt, Int.not_le] at ht57)
        refine sg_no rfl rfl ?_
        refine sg_no rfl rfl ?_
        refine st_p rfl rfl ((by first | exact p_pick_t rfl rfl | exact p_pick_f rfl rfl)) ?_
        refine st_p rfl rfl (p_move rfl) ?_
        refine sg_p rfl rfl (p_move rfl) ?_
        refine sg_p rfl rfl (p_isT (p_eql rfl rfl) (decide_eq_true (by have := btv_in (c : Int) d; omega))) ?_
        refine sg_p rfl rfl (p_move rfl) ?_
        refine sg_p rfl rfl (p_move rfl) ?_
        refine sg_p rfl rfl (p_isF (p_gtr rfl rfl) (decide_eq_false (by have := btv_in (c : Int) d; have := hlast.2 (by omega); omega))) ?_
        refine sg_p rfl rfl ((by first | exact p_pick_t rfl rfl | exact p_pick_f rfl rfl)) ?_
        refine st_p rfl rfl ((by first | exact p_pick_t rfl rfl | exact p_pick_f rfl rfl)) ?_
        refine at_nil ?_
        refine at_ks [0, 1, 4, 5, 6, 7, 8, 9, 10, 11, 12, 24, 37, 39, 68] (by (try simp only [keep, lk, pd, enumE, Nat.reduceBEq, Nat.reduceAdd, cond_true, cond_false]); exact rfl) ?_
        refine at_then ?_
        refine at_cond_f rfl ?_
        refine at_skip ?_
        refine at_inb ?_
        refine at_then ?_
        refine at_region ?_
        refine st_p rfl rfl (p_move rfl) ?_
        refine st_p rfl rfl (p_add rfl rfl (by first | exact nw64 (by omega) | exact nwu64 (by omega) | exact nwu8 (by omega) | exact nwu16 (by omega) | exact wu64 _ | exact wu8 _ | exact wi64 _ | rfl)) ?_
        refine st_p rfl rfl (p_assign rfl) ?_
        refine at_nil ?_
        refine at_ks [0, 1, 4, 5, 6, 7, 8, 9, 10, 11, 12, 24, 37, 39, 68] (by (try simp only [keep, lk, pd, enumE, Nat.reduceBEq, Nat.reduceAdd, cond_true, cond_false]); exact rfl) ?_
        refine at_ks [5, 6, 9, 10] (by (try simp only [keep, lk, pd, enumE, Nat.reduceBEq, Nat.reduceAdd, cond_true, cond_false]); exact rfl) ?_
        refine at_back (k - 1) (by omega) ⟨d + 1, rfl, rfl, by omega, by omega⟩
    · (try simp only [decide_eq_true_eq, decide_eq_false_iff_not, Bool.not_eq_true', Bool.not_eq_false', Bool.not_true, Bool.not_false, Bool.or_eq_true, Bool.and_eq_true, Int.not_lt, Int.not_le] at ht39)
      refine at_exit ?_
      refine at_then_x ?_
      refine at_then_x ?_
      refine at_inb_exit ?_
      refine at_then ?_
      refine at_seq ?_
      refine at_region ?_
      refine st_q rfl rfl (q_call (first := []) rfl c_10 rfl (fun F1 hF1 hs1 => awake_calls F1)) ?_
      refine st_p rfl rfl (p_assign rfl) ?_
      refine at_nil ?_
      refine at_ks [0, 1, 4, 5, 6, 7, 8, 9, 10, 11, 12, 24, 37, 39, 68] (by (try simp only [keep, lk, pd, enumE, Nat.reduceBEq, Nat.reduceAdd, cond_true, cond_false]); exact rfl) ?_
      refine at_then ?_
      refine at_retc ?_
      refine at_re [] (by decide) ?_
      exact fin_1 rfl rfl (by
          exact ⟨rfl, rfl⟩)

end Go.Proofs.Ytbpbhjnkmonlbaa