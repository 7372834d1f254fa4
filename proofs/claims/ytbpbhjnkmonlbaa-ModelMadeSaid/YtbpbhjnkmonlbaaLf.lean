/- The small functions' walks: numbers to numbers. No condition. -/
import Derived.Test.YtbpbhjnkmonlbaaTy
import Derived.Test.YtbpbhjnkmonlbaaPv
namespace Go.Proofs.Ytbpbhjnkmonlbaa
open Go.RowKit Sl
set_option linter.unusedVariables false
set_option linter.unusedSimpArgs false
set_option maxRecDepth 10000
abbrev N (x : Int) : Value := .int .i64 x
abbrev U (x : Int) : Value := .int .u64 x
theorem wi64 (x : Int) : IntKind.i64.wrap x = w64 x := by rw [IntKind.wrap_i64]; rfl
theorem fdv {x : Int} {k : Nat} (h : k ≤ 64) (b : Int) (hb : b = 64) : x.fdiv (2 ^ min k b.toNat) = x / 2 ^ k := by
  subst hb
  rw [show min k (64 : Int).toNat = k by simp; omega, Int.fdiv_eq_ediv_of_nonneg _ (Int.pow_nonneg (by decide))]

theorem cut_calls (p : Int) (F : Frm)  : SC Try.prog 74 #[N p] [] F (fun u H => u = U (cp p) ∧ H = []) := by
  refine sc_in (args := [N p]) Try.func74 rfl rfl (Nat.le_of_ble_eq_true rfl) ?_
  refine at_ks [0, 2] (by (try simp only [keep, lk, pd, enumE, Nat.reduceBEq, Nat.reduceAdd, cond_true, cond_false]); exact rfl) ?_
  refine at_seq ?_
  refine at_region ?_
  refine st_p rfl rfl (p_assign rfl) ?_
  refine at_nil ?_
  refine at_ks [0, 2] (by (try simp only [keep, lk, pd, enumE, Nat.reduceBEq, Nat.reduceAdd, cond_true, cond_false]); exact rfl) ?_
  refine at_then ?_
  refine at_seq ?_
  refine at_region ?_
  refine st_p rfl rfl (p_move rfl) ?_
  refine st_p rfl rfl (p_min rfl rfl (by first | assumption | rfl)) ?_
  refine st_p rfl rfl (p_max rfl rfl (by first | assumption | rfl)) ?_
  have hcp := cp_in p
  have e : mx 1 (mn p 4095) = cp p := rfl
  unfold mx mn at e
  refine st_p rfl rfl (p_conv (m := cp p) rfl Try.underlying3 Try.underlying52 (nwu64 (by omega))) ?_
  refine st_p rfl rfl (p_assign rfl) ?_
  refine at_nil ?_
  refine at_ks [0, 2] (by (try simp only [keep, lk, pd, enumE, Nat.reduceBEq, Nat.reduceAdd, cond_true, cond_false]); exact rfl) ?_
  refine at_then ?_
  refine at_retc ?_
  exact fin_1 rfl rfl (by
      exact ⟨by rw [show U (cp p) = Value.int .u64 (cp p) from rfl], rfl⟩)

theorem rchance_calls (p : Int) (F : Frm)  : SC Try.prog 61 #[N p] [] F (fun u H => u = U (cp p) ∧ H = []) := by
  refine sc_in (args := [N p]) Try.func61 rfl rfl (Nat.le_of_ble_eq_true rfl) ?_
  refine at_ks [0, 2] (by (try simp only [keep, lk, pd, enumE, Nat.reduceBEq, Nat.reduceAdd, cond_true, cond_false]); exact rfl) ?_
  refine at_seq ?_
  refine at_region ?_
  refine st_p rfl rfl (p_assign rfl) ?_
  refine at_nil ?_
  refine at_ks [0, 2] (by (try simp only [keep, lk, pd, enumE, Nat.reduceBEq, Nat.reduceAdd, cond_true, cond_false]); exact rfl) ?_
  refine at_then ?_
  refine at_seq ?_
  refine at_region ?_
  refine st_p rfl rfl (p_move rfl) ?_
  refine st_p rfl rfl (p_min rfl rfl (by first | assumption | rfl)) ?_
  refine st_p rfl rfl (p_max rfl rfl (by first | assumption | rfl)) ?_
  have hcp := cp_in p
  refine st_p rfl rfl (p_conv (m := cp p) rfl Try.underlying3 Try.underlying52 (nwu64 (by omega))) ?_
  refine st_p rfl rfl (p_assign rfl) ?_
  refine at_nil ?_
  refine at_ks [0, 2] (by (try simp only [keep, lk, pd, enumE, Nat.reduceBEq, Nat.reduceAdd, cond_true, cond_false]); exact rfl) ?_
  refine at_then ?_
  refine at_retc ?_
  exact fin_1 rfl rfl (by
      exact ⟨rfl, rfl⟩)

theorem weight_calls (p : Int) (F : Frm)  : SC Try.prog 84 #[N p] [] F (fun u H => u = N (cl 1048576 p) ∧ H = []) := by
  refine sc_in (args := [N p]) Try.func84 rfl rfl (Nat.le_of_ble_eq_true rfl) ?_
  refine at_ks [0, 2] (by (try simp only [keep, lk, pd, enumE, Nat.reduceBEq, Nat.reduceAdd, cond_true, cond_false]); exact rfl) ?_
  refine at_seq ?_
  refine at_region ?_
  refine st_p rfl rfl (p_assign rfl) ?_
  refine at_nil ?_
  refine at_ks [0, 2] (by (try simp only [keep, lk, pd, enumE, Nat.reduceBEq, Nat.reduceAdd, cond_true, cond_false]); exact rfl) ?_
  refine at_then ?_
  refine at_seq ?_
  refine at_region ?_
  refine st_p rfl rfl (p_move rfl) ?_
  refine st_p rfl rfl (p_min rfl rfl (by first | assumption | rfl)) ?_
  refine st_p rfl rfl (p_max rfl rfl (by first | assumption | rfl)) ?_
  refine st_p rfl rfl (p_assign rfl) ?_
  refine at_nil ?_
  refine at_ks [0, 2] (by (try simp only [keep, lk, pd, enumE, Nat.reduceBEq, Nat.reduceAdd, cond_true, cond_false]); exact rfl) ?_
  refine at_then ?_
  refine at_retc ?_
  exact fin_1 rfl rfl (by
      exact ⟨rfl, rfl⟩)

theorem input_calls (p : Int) (F : Frm)  : SC Try.prog 85 #[N p] [] F (fun u H => u = N (cl 2047 p) ∧ H = []) := by
  refine sc_in (args := [N p]) Try.func85 rfl rfl (Nat.le_of_ble_eq_true rfl) ?_
  refine at_ks [0, 2] (by (try simp only [keep, lk, pd, enumE, Nat.reduceBEq, Nat.reduceAdd, cond_true, cond_false]); exact rfl) ?_
  refine at_seq ?_
  refine at_region ?_
  refine st_p rfl rfl (p_assign rfl) ?_
  refine at_nil ?_
  refine at_ks [0, 2] (by (try simp only [keep, lk, pd, enumE, Nat.reduceBEq, Nat.reduceAdd, cond_true, cond_false]); exact rfl) ?_
  refine at_then ?_
  refine at_seq ?_
  refine at_region ?_
  refine st_p rfl rfl (p_move rfl) ?_
  refine st_p rfl rfl (p_min rfl rfl (by first | assumption | rfl)) ?_
  refine st_p rfl rfl (p_max rfl rfl (by first | assumption | rfl)) ?_
  refine st_p rfl rfl (p_assign rfl) ?_
  refine at_nil ?_
  refine at_ks [0, 2] (by (try simp only [keep, lk, pd, enumE, Nat.reduceBEq, Nat.reduceAdd, cond_true, cond_false]); exact rfl) ?_
  refine at_then ?_
  refine at_retc ?_
  exact fin_1 rfl rfl (by
      exact ⟨rfl, rfl⟩)

theorem rcut_calls (x m : Int) (F : Frm) (h0 : 0 ≤ m) (h1 : m ≤ 9223372036854775807) : SC Try.prog 75 #[N x, N m] [] F (fun u H => u = N (cl m x) ∧ H = []) := by
  refine sc_in (args := [N x, N m]) Try.func75 rfl rfl (Nat.le_of_ble_eq_true rfl) ?_
  refine at_ks [0, 1, 4] (by (try simp only [keep, lk, pd, enumE, Nat.reduceBEq, Nat.reduceAdd, cond_true, cond_false]); exact rfl) ?_
  refine at_seq ?_
  refine at_region ?_
  refine st_p rfl rfl (p_assign rfl) ?_
  refine at_nil ?_
  refine at_ks [0, 1, 4] (by (try simp only [keep, lk, pd, enumE, Nat.reduceBEq, Nat.reduceAdd, cond_true, cond_false]); exact rfl) ?_
  refine at_then ?_
  refine at_seq ?_
  refine at_region ?_
  refine st_p rfl rfl (p_move rfl) ?_
  refine st_p rfl rfl (p_neg (r := -m) rfl (nw64 (by omega) |>.trans (by omega))) ?_
  refine st_p rfl rfl (p_move rfl) ?_
  refine st_p rfl rfl (p_move rfl) ?_
  refine st_p rfl rfl (p_min rfl rfl (by first | assumption | rfl)) ?_
  refine st_p rfl rfl (p_max rfl rfl (by first | assumption | rfl)) ?_
  refine st_p rfl rfl (p_assign rfl) ?_
  refine at_nil ?_
  refine at_ks [0, 1, 4] (by (try simp only [keep, lk, pd, enumE, Nat.reduceBEq, Nat.reduceAdd, cond_true, cond_false]); exact rfl) ?_
  refine at_then ?_
  refine at_retc ?_
  exact fin_1 rfl rfl (by
      exact ⟨rfl, rfl⟩)

theorem isClass_calls (c : Int) (F : Frm)  : SC Try.prog 73 #[N c] [] F (fun u H => u = .bool (decide (0 ≤ c) && decide (c < 65)) ∧ H = []) := by
  refine sc_in (args := [N c]) Try.func73 rfl rfl (Nat.le_of_ble_eq_true rfl) ?_
  refine at_ks [0, 2] (by (try simp only [keep, lk, pd, enumE, Nat.reduceBEq, Nat.reduceAdd, cond_true, cond_false]); exact rfl) ?_
  refine at_seq ?_
  refine at_region ?_
  refine st_p rfl rfl (p_assign rfl) ?_
  refine at_nil ?_
  refine at_ks [0, 2] (by (try simp only [keep, lk, pd, enumE, Nat.reduceBEq, Nat.reduceAdd, cond_true, cond_false]); exact rfl) ?_
  refine at_then ?_
  refine at_seq ?_
  refine at_region ?_
  refine st_p rfl rfl (p_move rfl) ?_
  refine st_p rfl rfl (p_geq rfl rfl) ?_
  refine st_p rfl rfl (p_move rfl) ?_
  refine at_split 5 rfl (fun ht5 => ?_) (fun ht5 => ?_)
  · (try simp only [decide_eq_true_eq, decide_eq_false_iff_not, Bool.not_eq_true', Bool.not_eq_false', Bool.not_true, Bool.not_false, Bool.or_eq_true, Bool.and_eq_true, Int.not_lt, Int.not_le] at ht5)
    refine sg_p rfl rfl (p_move rfl) ?_
    refine sg_p rfl rfl (p_lss rfl rfl) ?_
    refine st_p rfl rfl ((by first | exact p_pick_t rfl rfl | exact p_pick_f rfl rfl)) ?_
    refine st_p rfl rfl (p_assign rfl) ?_
    refine at_nil ?_
    refine at_ks [0, 2] (by (try simp only [keep, lk, pd, enumE, Nat.reduceBEq, Nat.reduceAdd, cond_true, cond_false]); exact rfl) ?_
    refine at_then ?_
    refine at_retc ?_
    exact fin_1 rfl rfl (by
        exact ⟨by simp [*]; try omega, rfl⟩)
  · (try simp only [decide_eq_true_eq, decide_eq_false_iff_not, Bool.not_eq_true', Bool.not_eq_false', Bool.not_true, Bool.not_false, Bool.or_eq_true, Bool.and_eq_true, Int.not_lt, Int.not_le] at ht5)
    refine sg_no rfl rfl ?_
    refine sg_no rfl rfl ?_
    refine st_p rfl rfl ((by first | exact p_pick_t rfl rfl | exact p_pick_f rfl rfl)) ?_
    refine st_p rfl rfl (p_assign rfl) ?_
    refine at_nil ?_
    refine at_ks [0, 2] (by (try simp only [keep, lk, pd, enumE, Nat.reduceBEq, Nat.reduceAdd, cond_true, cond_false]); exact rfl) ?_
    refine at_then ?_
    refine at_retc ?_
    exact fin_1 rfl rfl (by
        exact ⟨by simp [*]; try omega, rfl⟩)

theorem move_calls (p b s : Int) (F : Frm)  : SC Try.prog 82 #[N p, N b, N s] [] F (fun u H => u = N (mvv p b s) ∧ H = []) := by
  refine sc_in (args := [N p, N b, N s]) Try.func82 rfl rfl (Nat.le_of_ble_eq_true rfl) ?_
  refine at_ks [0, 1, 2, 6, 14] (by (try simp only [keep, lk, pd, enumE, Nat.reduceBEq, Nat.reduceAdd, cond_true, cond_false]); exact rfl) ?_
  refine at_seq ?_
  refine at_region ?_
  refine st_p rfl rfl (p_assign rfl) ?_
  refine at_nil ?_
  refine at_ks [0, 1, 2, 6, 14] (by (try simp only [keep, lk, pd, enumE, Nat.reduceBEq, Nat.reduceAdd, cond_true, cond_false]); exact rfl) ?_
  refine at_then ?_
  refine at_seq ?_
  refine at_region ?_
  refine st_p rfl rfl (p_move rfl) ?_
  refine st_p rfl rfl (p_min rfl rfl (by first | assumption | rfl)) ?_
  refine st_p rfl rfl (p_max (r := mx 0 (mn p 4096)) rfl rfl rfl) ?_
  have h1 : 0 ≤ mx 0 (mn p 4096) ∧ mx 0 (mn p 4096) ≤ 4096 := by unfold mx mn; omega
  refine st_p rfl rfl (p_assign rfl) ?_
  refine at_nil ?_
  refine at_ks [0, 1, 2, 6, 14] (by (try simp only [keep, lk, pd, enumE, Nat.reduceBEq, Nat.reduceAdd, cond_true, cond_false]); exact rfl) ?_
  refine at_then ?_
  refine at_seq ?_
  refine at_region ?_
  refine st_p rfl rfl (p_move rfl) ?_
  refine st_p rfl rfl (p_min rfl rfl (by first | assumption | rfl)) ?_
  refine st_p rfl rfl (p_max (r := mx 1 (mn s 12)) rfl rfl rfl) ?_
  refine st_p rfl rfl (p_assign rfl) ?_
  refine at_nil ?_
  refine at_ks [0, 1, 2, 6, 14] (by (try simp only [keep, lk, pd, enumE, Nat.reduceBEq, Nat.reduceAdd, cond_true, cond_false]); exact rfl) ?_
  refine at_then ?_
  refine at_seq ?_
  refine at_seq ?_
  refine at_region ?_
  have h2 : 1 ≤ mx 1 (mn s 12) ∧ mx 1 (mn s 12) ≤ 12 := by unfold mx mn; omega
  have h3 := mvv_in p b s
  simp only [mvv] at h3
  refine st_p rfl rfl (p_move rfl) ?_
  refine st_p rfl rfl (p_neq rfl rfl) ?_
  refine at_nil ?_
  refine at_ks [0, 1, 2, 6, 14] (by (try simp only [keep, lk, pd, enumE, Nat.reduceBEq, Nat.reduceAdd, cond_true, cond_false]); exact rfl) ?_
  refine at_then ?_
  refine at_cond rfl (fun ht14 => ?_) (fun ht14 => ?_)
  · (try simp only [decide_eq_true_eq, decide_eq_false_iff_not, Bool.not_eq_true', Bool.not_eq_false', Bool.not_true, Bool.not_false, Bool.or_eq_true, Bool.and_eq_true, Int.not_lt, Int.not_le] at ht14)
    rw [if_neg ht14] at h3
    refine at_seq ?_
    refine at_region ?_
    refine st_p rfl rfl (p_move rfl) ?_
    refine st_p rfl rfl (p_move rfl) ?_
    refine st_p rfl rfl (p_sub rfl rfl (by first | exact nw64 (by omega) | exact nwu64 (by omega) | exact nwu8 (by omega) | exact nwu16 (by omega) | exact wu64 _ | exact wu8 _ | exact wi64 _ | rfl)) ?_
    refine st_p rfl rfl (p_move rfl) ?_
    refine st_p rfl rfl (p_shr (r := (4096 - mx 0 (mn p 4096)) / 2 ^ (mx 1 (mn s 12)).toNat) rfl rfl (by omega) (fdv (by omega) 64 rfl)) ?_
    refine st_p rfl rfl (p_add rfl rfl (by first | exact nw64 (by omega) | exact nwu64 (by omega) | exact nwu8 (by omega) | exact nwu16 (by omega) | exact wu64 _ | exact wu8 _ | exact wi64 _ | rfl)) ?_
    refine st_p rfl rfl (p_assign rfl) ?_
    refine at_nil ?_
    refine at_ks [0, 1, 2, 6, 14] (by (try simp only [keep, lk, pd, enumE, Nat.reduceBEq, Nat.reduceAdd, cond_true, cond_false]); exact rfl) ?_
    refine at_then ?_
    refine at_retc ?_
    refine at_then_r ?_
    exact fin_1 rfl rfl (by
        exact ⟨by simp only [mvv]; rw [if_neg ht14], rfl⟩)
  · (try simp only [decide_eq_true_eq, decide_eq_false_iff_not, Bool.not_eq_true', Bool.not_eq_false', Bool.not_true, Bool.not_false, Bool.or_eq_true, Bool.and_eq_true, Int.not_lt, Int.not_le] at ht14)
    rw [if_pos ht14] at h3
    refine at_skip ?_
    refine at_then ?_
    refine at_seq ?_
    refine at_region ?_
    refine st_p rfl rfl (p_move rfl) ?_
    refine st_p rfl rfl (p_move rfl) ?_
    refine st_p rfl rfl (p_move rfl) ?_
    refine st_p rfl rfl (p_shr (r := mx 0 (mn p 4096) / 2 ^ (mx 1 (mn s 12)).toNat) rfl rfl (by omega) (fdv (by omega) 64 rfl)) ?_
    refine st_p rfl rfl (p_sub rfl rfl (by first | exact nw64 (by omega) | exact nwu64 (by omega) | exact nwu8 (by omega) | exact nwu16 (by omega) | exact wu64 _ | exact wu8 _ | exact wi64 _ | rfl)) ?_
    refine st_p rfl rfl (p_assign rfl) ?_
    refine at_nil ?_
    refine at_ks [0, 1, 2, 6, 14] (by (try simp only [keep, lk, pd, enumE, Nat.reduceBEq, Nat.reduceAdd, cond_true, cond_false]); exact rfl) ?_
    refine at_then ?_
    refine at_retc ?_
    exact fin_1 rfl rfl (by
        exact ⟨by simp only [mvv]; rw [if_pos ht14], rfl⟩)

theorem rmove_calls (p b s : Int) (F : Frm)  : SC Try.prog 65 #[N p, N b, N s] [] F (fun u H => u = N (mvv p b s) ∧ H = []) := by
  refine sc_in (args := [N p, N b, N s]) Try.func65 rfl rfl (Nat.le_of_ble_eq_true rfl) ?_
  refine at_ks [0, 1, 2, 6, 14] (by (try simp only [keep, lk, pd, enumE, Nat.reduceBEq, Nat.reduceAdd, cond_true, cond_false]); exact rfl) ?_
  refine at_seq ?_
  refine at_region ?_
  refine st_p rfl rfl (p_assign rfl) ?_
  refine at_nil ?_
  refine at_ks [0, 1, 2, 6, 14] (by (try simp only [keep, lk, pd, enumE, Nat.reduceBEq, Nat.reduceAdd, cond_true, cond_false]); exact rfl) ?_
  refine at_then ?_
  refine at_seq ?_
  refine at_region ?_
  refine st_p rfl rfl (p_move rfl) ?_
  refine st_p rfl rfl (p_min rfl rfl (by first | assumption | rfl)) ?_
  refine st_p rfl rfl (p_max (r := mx 0 (mn p 4096)) rfl rfl rfl) ?_
  have h1 : 0 ≤ mx 0 (mn p 4096) ∧ mx 0 (mn p 4096) ≤ 4096 := by unfold mx mn; omega
  refine st_p rfl rfl (p_assign rfl) ?_
  refine at_nil ?_
  refine at_ks [0, 1, 2, 6, 14] (by (try simp only [keep, lk, pd, enumE, Nat.reduceBEq, Nat.reduceAdd, cond_true, cond_false]); exact rfl) ?_
  refine at_then ?_
  refine at_seq ?_
  refine at_region ?_
  refine st_p rfl rfl (p_move rfl) ?_
  refine st_p rfl rfl (p_min rfl rfl (by first | assumption | rfl)) ?_
  refine st_p rfl rfl (p_max (r := mx 1 (mn s 12)) rfl rfl rfl) ?_
  refine st_p rfl rfl (p_assign rfl) ?_
  refine at_nil ?_
  refine at_ks [0, 1, 2, 6, 14] (by (try simp only [keep, lk, pd, enumE, Nat.reduceBEq, Nat.reduceAdd, cond_true, cond_false]); exact rfl) ?_
  refine at_then ?_
  refine at_seq ?_
  refine at_seq ?_
  refine at_region ?_
  have h2 : 1 ≤ mx 1 (mn s 12) ∧ mx 1 (mn s 12) ≤ 12 := by unfold mx mn; omega
  have h3 := mvv_in p b s
  simp only [mvv] at h3
  refine st_p rfl rfl (p_move rfl) ?_
  refine st_p rfl rfl (p_neq rfl rfl) ?_
  refine at_nil ?_
  refine at_ks [0, 1, 2, 6, 14] (by (try simp only [keep, lk, pd, enumE, Nat.reduceBEq, Nat.reduceAdd, cond_true, cond_false]); exact rfl) ?_
  refine at_then ?_
  refine at_cond rfl (fun ht14 => ?_) (fun ht14 => ?_)
  · (try simp only [decide_eq_true_eq, decide_eq_false_iff_not, Bool.not_eq_true', Bool.not_eq_false', Bool.not_true, Bool.not_false, Bool.or_eq_true, Bool.and_eq_true, Int.not_lt, Int.not_le] at ht14)
    rw [if_neg ht14] at h3
    refine at_seq ?_
    refine at_region ?_
    refine st_p rfl rfl (p_move rfl) ?_
    refine st_p rfl rfl (p_move rfl) ?_
    refine st_p rfl rfl (p_sub rfl rfl (by first | exact nw64 (by omega) | exact nwu64 (by omega) | exact nwu8 (by omega) | exact nwu16 (by omega) | exact wu64 _ | exact wu8 _ | exact wi64 _ | rfl)) ?_
    refine st_p rfl rfl (p_move rfl) ?_
    refine st_p rfl rfl (p_shr (r := (4096 - mx 0 (mn p 4096)) / 2 ^ (mx 1 (mn s 12)).toNat) rfl rfl (by omega) (fdv (by omega) 64 rfl)) ?_
    refine st_p rfl rfl (p_add rfl rfl (by first | exact nw64 (by omega) | exact nwu64 (by omega) | exact nwu8 (by omega) | exact nwu16 (by omega) | exact wu64 _ | exact wu8 _ | exact wi64 _ | rfl)) ?_
    refine st_p rfl rfl (p_assign rfl) ?_
    refine at_nil ?_
    refine at_ks [0, 1, 2, 6, 14] (by (try simp only [keep, lk, pd, enumE, Nat.reduceBEq, Nat.reduceAdd, cond_true, cond_false]); exact rfl) ?_
    refine at_then ?_
    refine at_retc ?_
    refine at_then_r ?_
    exact fin_1 rfl rfl (by
        exact ⟨by simp only [mvv]; rw [if_neg ht14], rfl⟩)
  · (try simp only [decide_eq_true_eq, decide_eq_false_iff_not, Bool.not_eq_true', Bool.not_eq_false', Bool.not_true, Bool.not_false, Bool.or_eq_true, Bool.and_eq_true, Int.not_lt, Int.not_le] at ht14)
    rw [if_pos ht14] at h3
    refine at_skip ?_
    refine at_then ?_
    refine at_seq ?_
    refine at_region ?_
    refine st_p rfl rfl (p_move rfl) ?_
    refine st_p rfl rfl (p_move rfl) ?_
    refine st_p rfl rfl (p_move rfl) ?_
    refine st_p rfl rfl (p_shr (r := mx 0 (mn p 4096) / 2 ^ (mx 1 (mn s 12)).toNat) rfl rfl (by omega) (fdv (by omega) 64 rfl)) ?_
    refine st_p rfl rfl (p_sub rfl rfl (by first | exact nw64 (by omega) | exact nwu64 (by omega) | exact nwu8 (by omega) | exact nwu16 (by omega) | exact wu64 _ | exact wu8 _ | exact wi64 _ | rfl)) ?_
    refine st_p rfl rfl (p_assign rfl) ?_
    refine at_nil ?_
    refine at_ks [0, 1, 2, 6, 14] (by (try simp only [keep, lk, pd, enumE, Nat.reduceBEq, Nat.reduceAdd, cond_true, cond_false]); exact rfl) ?_
    refine at_then ?_
    refine at_retc ?_
    exact fin_1 rfl rfl (by
        exact ⟨by simp only [mvv]; rw [if_pos ht14], rfl⟩)

theorem squash_step (x : Int) (F : Frm) (ih : cl 2047 x < 0 → ∀ F, SC Try.prog 83 #[N (-cl 2047 x)] [] F (fun u H => u = N (sqn (-cl 2047 x)) ∧ H = [])) : SC Try.prog 83 #[N x] [] F (fun u H => u = N (sqv x) ∧ H = []) := by
  have hx := cl_in (m := 2047) (by decide) x
  refine sc_in (args := [N x]) Try.func83 rfl rfl (Nat.le_of_ble_eq_true rfl) ?_
  refine at_ks [0, 2, 3, 8] (by (try simp only [keep, lk, pd, enumE, Nat.reduceBEq, Nat.reduceAdd, cond_true, cond_false]); exact rfl) ?_
  refine at_seq ?_
  refine at_region ?_
  refine st_p rfl rfl (p_assign rfl) ?_
  refine at_nil ?_
  refine at_ks [0, 2, 3, 8] (by (try simp only [keep, lk, pd, enumE, Nat.reduceBEq, Nat.reduceAdd, cond_true, cond_false]); exact rfl) ?_
  refine at_then ?_
  refine at_seq ?_
  refine at_region ?_
  refine st_p rfl rfl (p_move rfl) ?_
  refine st_p rfl rfl (p_min rfl rfl (by first | assumption | rfl)) ?_
  refine st_p rfl rfl (p_max (r := cl 2047 x) rfl rfl rfl) ?_
  refine st_p rfl rfl (p_assign rfl) ?_
  refine at_nil ?_
  refine at_ks [0, 2, 3, 8] (by (try simp only [keep, lk, pd, enumE, Nat.reduceBEq, Nat.reduceAdd, cond_true, cond_false]); exact rfl) ?_
  refine at_then ?_
  refine at_seq ?_
  refine at_seq ?_
  refine at_region ?_
  refine st_p rfl rfl (p_move rfl) ?_
  refine st_p rfl rfl (p_lss rfl rfl) ?_
  refine at_nil ?_
  refine at_ks [0, 2, 3, 8] (by (try simp only [keep, lk, pd, enumE, Nat.reduceBEq, Nat.reduceAdd, cond_true, cond_false]); exact rfl) ?_
  refine at_then ?_
  refine at_cond rfl (fun ht8 => ?_) (fun ht8 => ?_)
  · (try simp only [decide_eq_true_eq, decide_eq_false_iff_not, Bool.not_eq_true', Bool.not_eq_false', Bool.not_true, Bool.not_false, Bool.or_eq_true, Bool.and_eq_true, Int.not_lt, Int.not_le] at ht8)
    have hs := sqw_ok (x := -cl 2047 x) (by omega) (by omega)
    refine at_seq ?_
    refine at_region ?_
    refine st_p rfl rfl (p_move rfl) ?_
    refine st_p rfl rfl (p_neg rfl (by first | exact (congrArg _ (Int.zero_sub _)).trans (nw64 (by omega)) | exact wi64 _ | rfl)) ?_
    refine st_q rfl rfl (q_call (first := []) rfl c_83 rfl (fun F1 hF1 hs1 => ih (by omega) F1)) ?_
    refine st_p rfl rfl (p_sub (r := 4096 - sqn (-cl 2047 x)) rfl rfl (nw64 (by omega))) ?_
    refine st_p rfl rfl (p_assign rfl) ?_
    refine at_nil ?_
    refine at_ks [0, 2, 3, 8] (by (try simp only [keep, lk, pd, enumE, Nat.reduceBEq, Nat.reduceAdd, cond_true, cond_false]); exact rfl) ?_
    refine at_then ?_
    refine at_retc ?_
    refine at_then_r ?_
    exact fin_1 rfl rfl (by
        exact ⟨by unfold sqv; rw [if_pos ht8], rfl⟩)
  · (try simp only [decide_eq_true_eq, decide_eq_false_iff_not, Bool.not_eq_true', Bool.not_eq_false', Bool.not_true, Bool.not_false, Bool.or_eq_true, Bool.and_eq_true, Int.not_lt, Int.not_le] at ht8)
    have hs := sqw_ok (x := cl 2047 x) (by omega) (by omega)
    refine at_skip ?_
    refine at_then ?_
    refine at_seq ?_
    refine at_region ?_
    refine st_p rfl rfl (p_move rfl) ?_
    refine st_p rfl rfl (p_quo (r := w64 ((cl 2047 x).tdiv 256)) rfl rfl (by decide) (wi64 _)) ?_
    refine st_p rfl rfl (p_shr (r := sqw1 (cl 2047 x)) rfl rfl hs.2.2.2.2 (by simp only [sqw1, IntKind.bits])) ?_
    refine st_p rfl rfl (p_assign rfl) ?_
    refine at_nil ?_
    refine at_ks [0, 2, 3, 8] (by (try simp only [keep, lk, pd, enumE, Nat.reduceBEq, Nat.reduceAdd, cond_true, cond_false]); exact rfl) ?_
    refine at_then ?_
    refine at_seq ?_
    refine at_region ?_
    refine st_p rfl rfl (p_move rfl) ?_
    refine st_p rfl rfl (p_move rfl) ?_
    refine st_p rfl rfl (p_quo rfl rfl (by decide) (wi64 _)) ?_
    refine st_p rfl rfl (p_move rfl) ?_
    refine st_p rfl rfl (p_rem rfl rfl (by decide) rfl) ?_
    refine st_p rfl rfl (p_mul rfl rfl (wi64 _)) ?_
    refine st_p rfl rfl (p_quo rfl rfl (by decide) (wi64 _)) ?_
    refine st_p rfl rfl (p_sub (r := sqw2 (cl 2047 x) (sqw1 (cl 2047 x))) rfl rfl (wi64 _)) ?_
    refine st_p rfl rfl (p_assign rfl) ?_
    refine at_nil ?_
    refine at_ks [0, 2, 3, 8] (by (try simp only [keep, lk, pd, enumE, Nat.reduceBEq, Nat.reduceAdd, cond_true, cond_false]); exact rfl) ?_
    refine at_then ?_
    refine at_seq ?_
    refine at_region ?_
    refine st_p rfl rfl (p_move rfl) ?_
    refine st_p rfl rfl (p_add rfl rfl (wi64 _)) ?_
    refine st_p rfl rfl (p_quo (r := sqw (cl 2047 x)) rfl rfl hs.2.2.2.1 (wi64 _)) ?_
    refine st_p rfl rfl (p_assign rfl) ?_
    refine at_nil ?_
    refine at_ks [0, 2, 3, 8] (by (try simp only [keep, lk, pd, enumE, Nat.reduceBEq, Nat.reduceAdd, cond_true, cond_false]); exact rfl) ?_
    refine at_then ?_
    refine at_retc ?_
    exact fin_1 rfl rfl (by
        exact ⟨by unfold sqv; rw [if_neg (Int.not_lt.2 ht8)]; exact congrArg N hs.1, rfl⟩)

theorem squash_calls (x : Int) (F : Frm) : SC Try.prog 83 #[N x] [] F (fun u H => u = N (sqv x) ∧ H = []) := squash_step x F fun hx F => by
  have h := cl_in (m := 2047) (by decide) x
  have e : cl 2047 (-cl 2047 x) = -cl 2047 x := cl_id (by omega) (by omega)
  have h2 := squash_step (-cl 2047 x) F fun hn => absurd hn (by rw [e]; omega)
  unfold sqv at h2
  rw [e, if_neg (by omega)] at h2
  exact h2
theorem rsquash_step (x : Int) (F : Frm) (ih : cl 2047 x < 0 → ∀ F, SC Try.prog 76 #[N (-cl 2047 x)] [] F (fun u H => u = N (sqn (-cl 2047 x)) ∧ H = [])) : SC Try.prog 76 #[N x] [] F (fun u H => u = N (sqv x) ∧ H = []) := by
  have hx := cl_in (m := 2047) (by decide) x
  refine sc_in (args := [N x]) Try.func76 rfl rfl (Nat.le_of_ble_eq_true rfl) ?_
  refine at_ks [0, 2, 3, 4, 5, 9] (by (try simp only [keep, lk, pd, enumE, Nat.reduceBEq, Nat.reduceAdd, cond_true, cond_false]); exact rfl) ?_
  refine at_seq ?_
  refine at_region ?_
  refine st_p rfl rfl (p_assign rfl) ?_
  refine at_nil ?_
  refine at_ks [0, 2, 3, 4, 5, 9] (by (try simp only [keep, lk, pd, enumE, Nat.reduceBEq, Nat.reduceAdd, cond_true, cond_false]); exact rfl) ?_
  refine at_then ?_
  refine at_seq ?_
  refine at_region ?_
  refine st_p rfl rfl (p_move rfl) ?_
  refine st_q rfl rfl (q_call (first := []) rfl c_75 rfl (fun F1 hF1 hs1 => rcut_calls x 2047 F1 (by decide) (by decide))) ?_
  refine st_p rfl rfl (p_assign rfl) ?_
  refine at_nil ?_
  refine at_ks [0, 2, 3, 4, 5, 9] (by (try simp only [keep, lk, pd, enumE, Nat.reduceBEq, Nat.reduceAdd, cond_true, cond_false]); exact rfl) ?_
  refine at_then ?_
  refine at_seq ?_
  refine at_seq ?_
  refine at_region ?_
  refine st_p rfl rfl (p_move rfl) ?_
  refine st_p rfl rfl (p_lss rfl rfl) ?_
  refine at_nil ?_
  refine at_ks [0, 2, 3, 4, 5, 9] (by (try simp only [keep, lk, pd, enumE, Nat.reduceBEq, Nat.reduceAdd, cond_true, cond_false]); exact rfl) ?_
  refine at_then ?_
  refine at_cond rfl (fun ht9 => ?_) (fun ht9 => ?_)
  · (try simp only [decide_eq_true_eq, decide_eq_false_iff_not, Bool.not_eq_true', Bool.not_eq_false', Bool.not_true, Bool.not_false, Bool.or_eq_true, Bool.and_eq_true, Int.not_lt, Int.not_le] at ht9)
    have hs := sqw_ok (x := -cl 2047 x) (by omega) (by omega)
    refine at_seq ?_
    refine at_region ?_
    refine st_p rfl rfl (p_move rfl) ?_
    refine st_p rfl rfl (p_neg rfl (by first | exact (congrArg _ (Int.zero_sub _)).trans (nw64 (by omega)) | exact wi64 _ | rfl)) ?_
    refine st_q rfl rfl (q_call (first := []) rfl c_76 rfl (fun F1 hF1 hs1 => ih (by omega) F1)) ?_
    refine st_p rfl rfl (p_sub (r := 4096 - sqn (-cl 2047 x)) rfl rfl (nw64 (by omega))) ?_
    refine st_p rfl rfl (p_assign rfl) ?_
    refine at_nil ?_
    refine at_ks [0, 2, 3, 4, 5, 9] (by (try simp only [keep, lk, pd, enumE, Nat.reduceBEq, Nat.reduceAdd, cond_true, cond_false]); exact rfl) ?_
    refine at_then ?_
    refine at_retc ?_
    refine at_then_r ?_
    exact fin_1 rfl rfl (by
        exact ⟨by unfold sqv; rw [if_pos ht9], rfl⟩)
  · (try simp only [decide_eq_true_eq, decide_eq_false_iff_not, Bool.not_eq_true', Bool.not_eq_false', Bool.not_true, Bool.not_false, Bool.or_eq_true, Bool.and_eq_true, Int.not_lt, Int.not_le] at ht9)
    have hs := sqw_ok (x := cl 2047 x) (by omega) (by omega)
    refine at_skip ?_
    refine at_then ?_
    refine at_seq ?_
    refine at_region ?_
    refine st_p rfl rfl (p_move rfl) ?_
    refine st_p rfl rfl (p_quo (r := w64 ((cl 2047 x).tdiv 256)) rfl rfl (by decide) (wi64 _)) ?_
    refine st_p rfl rfl (p_move rfl) ?_
    refine st_p rfl rfl (p_rem (r := (cl 2047 x).tmod 256) rfl rfl (by decide) rfl) ?_
    refine st_p rfl rfl (p_assign rfl) ?_
    refine st_p rfl rfl (p_assign rfl) ?_
    refine at_nil ?_
    refine at_ks [0, 2, 3, 4, 5, 9] (by (try simp only [keep, lk, pd, enumE, Nat.reduceBEq, Nat.reduceAdd, cond_true, cond_false]); exact rfl) ?_
    refine at_then ?_
    refine at_seq ?_
    refine at_region ?_
    refine st_p rfl rfl (p_move rfl) ?_
    refine st_p rfl rfl (p_shr (r := sqw1 (cl 2047 x)) rfl rfl hs.2.2.2.2 (by simp only [sqw1, IntKind.bits])) ?_
    refine st_p rfl rfl (p_assign rfl) ?_
    refine at_nil ?_
    refine at_ks [0, 2, 3, 4, 5, 9] (by (try simp only [keep, lk, pd, enumE, Nat.reduceBEq, Nat.reduceAdd, cond_true, cond_false]); exact rfl) ?_
    refine at_then ?_
    refine at_seq ?_
    refine at_region ?_
    refine st_p rfl rfl (p_move rfl) ?_
    refine st_p rfl rfl (p_move rfl) ?_
    refine st_p rfl rfl (p_quo rfl rfl (by decide) (wi64 _)) ?_
    refine st_p rfl rfl (p_move rfl) ?_
    refine st_p rfl rfl (p_mul rfl rfl (wi64 _)) ?_
    refine st_p rfl rfl (p_quo rfl rfl (by decide) (wi64 _)) ?_
    refine st_p rfl rfl (p_sub (r := sqw2 (cl 2047 x) (sqw1 (cl 2047 x))) rfl rfl (wi64 _)) ?_
    refine st_p rfl rfl (p_assign rfl) ?_
    refine at_nil ?_
    refine at_ks [0, 2, 3, 4, 5, 9] (by (try simp only [keep, lk, pd, enumE, Nat.reduceBEq, Nat.reduceAdd, cond_true, cond_false]); exact rfl) ?_
    refine at_then ?_
    refine at_seq ?_
    refine at_region ?_
    refine st_p rfl rfl (p_move rfl) ?_
    refine st_p rfl rfl (p_add rfl rfl (wi64 _)) ?_
    refine st_p rfl rfl (p_quo (r := sqw (cl 2047 x)) rfl rfl hs.2.2.2.1 (wi64 _)) ?_
    refine st_p rfl rfl (p_assign rfl) ?_
    refine at_nil ?_
    refine at_ks [0, 2, 3, 4, 5, 9] (by (try simp only [keep, lk, pd, enumE, Nat.reduceBEq, Nat.reduceAdd, cond_true, cond_false]); exact rfl) ?_
    refine at_then ?_
    refine at_retc ?_
    exact fin_1 rfl rfl (by
        exact ⟨by unfold sqv; rw [if_neg (Int.not_lt.2 ht9)]; exact congrArg N hs.1, rfl⟩)

theorem rsquash_calls (x : Int) (F : Frm) : SC Try.prog 76 #[N x] [] F (fun u H => u = N (sqv x) ∧ H = []) := rsquash_step x F fun hx F => by
  have h := cl_in (m := 2047) (by decide) x
  have e : cl 2047 (-cl 2047 x) = -cl 2047 x := cl_id (by omega) (by omega)
  have h2 := rsquash_step (-cl 2047 x) F fun hn => absurd hn (by rw [e]; omega)
  unfold sqv at h2
  rw [e, if_neg (by omega)] at h2
  exact h2
theorem stretch_calls (p : Int) (F : Frm)  : SC Try.prog 79 #[N p] [] F (fun u H => u = N (stv p) ∧ H = []) := by
  have hp := cp_in p
  obtain ⟨r, hr, hst⟩ := (stv_ok p).1
  refine sc_in (args := [N p]) Try.func79 rfl rfl (Nat.le_of_ble_eq_true rfl) ?_
  refine at_ks [0, 2, 3, 4, 5, 11, 20] (by (try simp only [keep, lk, pd, enumE, Nat.reduceBEq, Nat.reduceAdd, cond_true, cond_false]); exact rfl) ?_
  refine at_seq ?_
  refine at_region ?_
  refine st_p rfl rfl (p_assign rfl) ?_
  refine at_nil ?_
  refine at_ks [0, 2, 3, 4, 5, 11, 20] (by (try simp only [keep, lk, pd, enumE, Nat.reduceBEq, Nat.reduceAdd, cond_true, cond_false]); exact rfl) ?_
  refine at_then ?_
  refine at_seq ?_
  refine at_region ?_
  refine st_p rfl rfl (p_move rfl) ?_
  refine st_p rfl rfl (p_min rfl rfl (by first | assumption | rfl)) ?_
  refine st_p rfl rfl (p_max (r := cp p) rfl rfl rfl) ?_
  refine st_p rfl rfl (p_assign rfl) ?_
  refine at_nil ?_
  refine at_ks [0, 2, 3, 4, 5, 11, 20] (by (try simp only [keep, lk, pd, enumE, Nat.reduceBEq, Nat.reduceAdd, cond_true, cond_false]); exact rfl) ?_
  refine at_then ?_
  refine at_seq ?_
  refine at_region ?_
  refine st_p rfl rfl (p_assign rfl) ?_
  refine st_p rfl rfl (p_assign rfl) ?_
  refine at_nil ?_
  refine at_ks [0, 2, 3, 4, 5, 11, 20] (by (try simp only [keep, lk, pd, enumE, Nat.reduceBEq, Nat.reduceAdd, cond_true, cond_false]); exact rfl) ?_
  refine at_then ?_
  refine at_seq ?_
  refine at_block ?_
  refine at_ks [0, 3, 4] (by (try simp only [keep, lk, pd, enumE, Nat.reduceBEq, Nat.reduceAdd, cond_true, cond_false]); exact rfl) ?_
  refine at_loop (fun k E H => ∃ i j, E = [(0, N (cp p)), (3, N i), (4, N j)] ∧ H = [] ∧ 0 ≤ i ∧ i ≤ j ∧ j ≤ 4095 ∧ stf k (cp p) i j = some r) (20) (⟨0, 4095, rfl, rfl, by omega, by omega, by omega, hr⟩) ?_
  rintro k _ _ ⟨i, j, rfl, rfl, h0, hij, h1, he⟩
  obtain ⟨k, rfl⟩ : ∃ q, k = q + 1 := by cases k with | zero => exact absurd he (by simp [stf]) | succ q => exact ⟨q, rfl⟩
  unfold stf at he
  refine at_seq ?_
  refine at_seq ?_
  refine at_region ?_
  refine st_p rfl rfl (p_move rfl) ?_
  refine st_p rfl rfl (p_move rfl) ?_
  refine st_p rfl rfl (p_lss rfl rfl) ?_
  refine at_nil ?_
  refine at_ks [0, 2, 3, 4, 5, 11, 20] (by (try simp only [keep, lk, pd, enumE, Nat.reduceBEq, Nat.reduceAdd, cond_true, cond_false]); exact rfl) ?_
  refine at_then ?_
  refine at_cond rfl (fun ht11 => ?_) (fun ht11 => ?_)
  · (try simp only [decide_eq_true_eq, decide_eq_false_iff_not, Bool.not_eq_true', Bool.not_eq_false', Bool.not_true, Bool.not_false, Bool.or_eq_true, Bool.and_eq_true, Int.not_lt, Int.not_le] at ht11)
    rw [if_pos ht11] at he
    refine at_skip ?_
    refine at_then ?_
    refine at_block ?_
    refine at_seq ?_
    refine at_region ?_
    refine st_p rfl rfl (p_move rfl) ?_
    refine st_p rfl rfl (p_move rfl) ?_
    refine st_p rfl rfl (p_add rfl rfl (by first | exact nw64 (by omega) | exact nwu64 (by omega) | exact nwu8 (by omega) | exact nwu16 (by omega) | exact wu64 _ | exact wu8 _ | exact wi64 _ | rfl)) ?_
    refine st_p rfl rfl (p_quo (r := (i + j) / 2) rfl rfl (by decide) (by rw [Int.tdiv_eq_ediv_of_nonneg (by omega)]; exact nw64 (by omega))) ?_
    refine st_p rfl rfl (p_assign rfl) ?_
    refine at_nil ?_
    refine at_ks [0, 2, 3, 4, 5, 11, 20] (by (try simp only [keep, lk, pd, enumE, Nat.reduceBEq, Nat.reduceAdd, cond_true, cond_false]); exact rfl) ?_
    refine at_then ?_
    refine at_seq ?_
    refine at_region ?_
    refine st_p rfl rfl (p_move rfl) ?_
    refine st_p rfl rfl (p_sub rfl rfl (by first | exact nw64 (by omega) | exact nwu64 (by omega) | exact nwu8 (by omega) | exact nwu16 (by omega) | exact wu64 _ | exact wu8 _ | exact wi64 _ | rfl)) ?_
    refine st_q rfl rfl (q_call (first := []) rfl c_83 rfl (fun F1 hF1 hs1 => squash_calls _ F1)) ?_
    refine st_p rfl rfl (p_move rfl) ?_
    refine st_p rfl rfl (p_lss rfl rfl) ?_
    refine at_nil ?_
    refine at_ks [0, 2, 3, 4, 5, 11, 20] (by (try simp only [keep, lk, pd, enumE, Nat.reduceBEq, Nat.reduceAdd, cond_true, cond_false]); exact rfl) ?_
    refine at_then ?_
    refine at_cond rfl (fun ht20 => ?_) (fun ht20 => ?_)
    · (try simp only [decide_eq_true_eq, decide_eq_false_iff_not, Bool.not_eq_true', Bool.not_eq_false', Bool.not_true, Bool.not_false, Bool.or_eq_true, Bool.and_eq_true, Int.not_lt, Int.not_le] at ht20)
      rw [if_pos ht20] at he
      refine at_region ?_
      refine st_p rfl rfl (p_move rfl) ?_
      refine st_p rfl rfl (p_add rfl rfl (by first | exact nw64 (by omega) | exact nwu64 (by omega) | exact nwu8 (by omega) | exact nwu16 (by omega) | exact wu64 _ | exact wu8 _ | exact wi64 _ | rfl)) ?_
      refine st_p rfl rfl (p_assign rfl) ?_
      refine at_nil ?_
      refine at_ks [0, 2, 3, 4, 5, 11, 20] (by (try simp only [keep, lk, pd, enumE, Nat.reduceBEq, Nat.reduceAdd, cond_true, cond_false]); exact rfl) ?_
      refine at_inb ?_
      refine at_ks [0, 3, 4] (by (try simp only [keep, lk, pd, enumE, Nat.reduceBEq, Nat.reduceAdd, cond_true, cond_false]); exact rfl) ?_
      refine at_back k (by omega) ⟨(i + j) / 2 + 1, j, rfl, rfl, by omega, by omega, by omega, he⟩
    · (try simp only [decide_eq_true_eq, decide_eq_false_iff_not, Bool.not_eq_true', Bool.not_eq_false', Bool.not_true, Bool.not_false, Bool.or_eq_true, Bool.and_eq_true, Int.not_lt, Int.not_le] at ht20)
      rw [if_neg (by omega)] at he
      refine at_region ?_
      refine st_p rfl rfl (p_move rfl) ?_
      refine st_p rfl rfl (p_assign rfl) ?_
      refine at_nil ?_
      refine at_ks [0, 2, 3, 4, 5, 11, 20] (by (try simp only [keep, lk, pd, enumE, Nat.reduceBEq, Nat.reduceAdd, cond_true, cond_false]); exact rfl) ?_
      refine at_inb ?_
      refine at_ks [0, 3, 4] (by (try simp only [keep, lk, pd, enumE, Nat.reduceBEq, Nat.reduceAdd, cond_true, cond_false]); exact rfl) ?_
      refine at_back k (by omega) ⟨i, (i + j) / 2, rfl, rfl, by omega, by omega, by omega, he⟩
  · (try simp only [decide_eq_true_eq, decide_eq_false_iff_not, Bool.not_eq_true', Bool.not_eq_false', Bool.not_true, Bool.not_false, Bool.or_eq_true, Bool.and_eq_true, Int.not_lt, Int.not_le] at ht11)
    rw [if_neg (by omega)] at he
    cases he
    refine at_exit ?_
    refine at_then_x ?_
    refine at_then_x ?_
    refine at_inb_exit ?_
    refine at_then ?_
    refine at_seq ?_
    refine at_region ?_
    refine st_p rfl rfl (p_move rfl) ?_
    refine st_p rfl rfl (p_sub rfl rfl (by first | exact nw64 (by omega) | exact nwu64 (by omega) | exact nwu8 (by omega) | exact nwu16 (by omega) | exact wu64 _ | exact wu8 _ | exact wi64 _ | rfl)) ?_
    refine st_p rfl rfl (p_min (r := stv p) rfl rfl (by rw [hst]; rfl)) ?_
    refine st_p rfl rfl (p_assign rfl) ?_
    refine at_nil ?_
    refine at_ks [0, 2, 3, 4, 5, 11, 20] (by (try simp only [keep, lk, pd, enumE, Nat.reduceBEq, Nat.reduceAdd, cond_true, cond_false]); exact rfl) ?_
    refine at_then ?_
    refine at_retc ?_
    exact fin_1 rfl rfl (by
        exact ⟨rfl, rfl⟩)

theorem rstretch_calls (p : Int) (F : Frm)  : SC Try.prog 77 #[N p] [] F (fun u H => u = N (stv p) ∧ H = []) := by
  have hp := cp_in p
  obtain ⟨_, hr, _⟩ := stv_ok p
  refine sc_in (args := [N p]) Try.func77 rfl rfl (Nat.le_of_ble_eq_true rfl) ?_
  refine at_ks [0, 2, 3, 4, 5, 11, 22] (by (try simp only [keep, lk, pd, enumE, Nat.reduceBEq, Nat.reduceAdd, cond_true, cond_false]); exact rfl) ?_
  refine at_seq ?_
  refine at_region ?_
  refine st_p rfl rfl (p_assign rfl) ?_
  refine at_nil ?_
  refine at_ks [0, 2, 3, 4, 5, 11, 22] (by (try simp only [keep, lk, pd, enumE, Nat.reduceBEq, Nat.reduceAdd, cond_true, cond_false]); exact rfl) ?_
  refine at_then ?_
  refine at_seq ?_
  refine at_region ?_
  refine st_p rfl rfl (p_move rfl) ?_
  refine st_p rfl rfl (p_min rfl rfl (by first | assumption | rfl)) ?_
  refine st_p rfl rfl (p_max (r := cp p) rfl rfl rfl) ?_
  refine st_p rfl rfl (p_assign rfl) ?_
  refine at_nil ?_
  refine at_ks [0, 2, 3, 4, 5, 11, 22] (by (try simp only [keep, lk, pd, enumE, Nat.reduceBEq, Nat.reduceAdd, cond_true, cond_false]); exact rfl) ?_
  refine at_then ?_
  refine at_seq ?_
  refine at_region ?_
  refine st_p rfl rfl (p_assign rfl) ?_
  refine st_p rfl rfl (p_assign rfl) ?_
  refine at_nil ?_
  refine at_ks [0, 2, 3, 4, 5, 11, 22] (by (try simp only [keep, lk, pd, enumE, Nat.reduceBEq, Nat.reduceAdd, cond_true, cond_false]); exact rfl) ?_
  refine at_then ?_
  refine at_seq ?_
  refine at_block ?_
  refine at_ks [0, 3, 4] (by (try simp only [keep, lk, pd, enumE, Nat.reduceBEq, Nat.reduceAdd, cond_true, cond_false]); exact rfl) ?_
  refine at_loop (fun k E H => ∃ i j, E = [(0, N (cp p)), (3, N i), (4, N j)] ∧ H = [] ∧ -2047 ≤ i ∧ i ≤ j ∧ j ≤ 2047 ∧ rtf k (cp p) i j = some (stv p)) (20) (⟨-2047, 2047, rfl, rfl, by omega, by omega, by omega, hr⟩) ?_
  rintro k _ _ ⟨i, j, rfl, rfl, h0, hij, h1, he⟩
  obtain ⟨k, rfl⟩ : ∃ q, k = q + 1 := by cases k with | zero => exact absurd he (by simp [rtf]) | succ q => exact ⟨q, rfl⟩
  unfold rtf at he
  refine at_seq ?_
  refine at_seq ?_
  refine at_region ?_
  refine st_p rfl rfl (p_move rfl) ?_
  refine st_p rfl rfl (p_move rfl) ?_
  refine st_p rfl rfl (p_lss rfl rfl) ?_
  refine at_nil ?_
  refine at_ks [0, 2, 3, 4, 5, 11, 22] (by (try simp only [keep, lk, pd, enumE, Nat.reduceBEq, Nat.reduceAdd, cond_true, cond_false]); exact rfl) ?_
  refine at_then ?_
  refine at_cond rfl (fun ht11 => ?_) (fun ht11 => ?_)
  · (try simp only [decide_eq_true_eq, decide_eq_false_iff_not, Bool.not_eq_true', Bool.not_eq_false', Bool.not_true, Bool.not_false, Bool.or_eq_true, Bool.and_eq_true, Int.not_lt, Int.not_le] at ht11)
    rw [if_pos ht11] at he
    refine at_skip ?_
    refine at_then ?_
    refine at_block ?_
    refine at_seq ?_
    refine at_region ?_
    refine st_p rfl rfl (p_move rfl) ?_
    refine st_p rfl rfl (p_move rfl) ?_
    refine st_p rfl rfl (p_add rfl rfl (by first | exact nw64 (by omega) | exact nwu64 (by omega) | exact nwu8 (by omega) | exact nwu16 (by omega) | exact wu64 _ | exact wu8 _ | exact wi64 _ | rfl)) ?_
    refine st_p rfl rfl (p_add rfl rfl (by first | exact nw64 (by omega) | exact nwu64 (by omega) | exact nwu8 (by omega) | exact nwu16 (by omega) | exact wu64 _ | exact wu8 _ | exact wi64 _ | rfl)) ?_
    refine st_p rfl rfl (p_quo (r := (i + j + 4094) / 2) rfl rfl (by decide) (by rw [Int.tdiv_eq_ediv_of_nonneg (by omega)]; exact nw64 (by omega))) ?_
    refine st_p rfl rfl (p_assign rfl) ?_
    refine at_nil ?_
    refine at_ks [0, 2, 3, 4, 5, 11, 22] (by (try simp only [keep, lk, pd, enumE, Nat.reduceBEq, Nat.reduceAdd, cond_true, cond_false]); exact rfl) ?_
    refine at_then ?_
    refine at_seq ?_
    refine at_region ?_
    refine st_p rfl rfl (p_move rfl) ?_
    refine st_p rfl rfl (p_sub rfl rfl (by first | exact nw64 (by omega) | exact nwu64 (by omega) | exact nwu8 (by omega) | exact nwu16 (by omega) | exact wu64 _ | exact wu8 _ | exact wi64 _ | rfl)) ?_
    refine st_p rfl rfl (p_assign rfl) ?_
    refine at_nil ?_
    refine at_ks [0, 2, 3, 4, 5, 11, 22] (by (try simp only [keep, lk, pd, enumE, Nat.reduceBEq, Nat.reduceAdd, cond_true, cond_false]); exact rfl) ?_
    refine at_then ?_
    refine at_seq ?_
    refine at_region ?_
    refine st_p rfl rfl (p_move rfl) ?_
    refine st_q rfl rfl (q_call (first := []) rfl c_76 rfl (fun F1 hF1 hs1 => rsquash_calls _ F1)) ?_
    refine st_p rfl rfl (p_move rfl) ?_
    refine st_p rfl rfl (p_geq rfl rfl) ?_
    refine at_nil ?_
    refine at_ks [0, 2, 3, 4, 5, 11, 22] (by (try simp only [keep, lk, pd, enumE, Nat.reduceBEq, Nat.reduceAdd, cond_true, cond_false]); exact rfl) ?_
    refine at_then ?_
    refine at_cond rfl (fun ht22 => ?_) (fun ht22 => ?_)
    · (try simp only [decide_eq_true_eq, decide_eq_false_iff_not, Bool.not_eq_true', Bool.not_eq_false', Bool.not_true, Bool.not_false, Bool.or_eq_true, Bool.and_eq_true, Int.not_lt, Int.not_le] at ht22)
      rw [if_pos ht22] at he
      refine at_region ?_
      refine st_p rfl rfl (p_move rfl) ?_
      refine st_p rfl rfl (p_assign rfl) ?_
      refine at_nil ?_
      refine at_ks [0, 2, 3, 4, 5, 11, 22] (by (try simp only [keep, lk, pd, enumE, Nat.reduceBEq, Nat.reduceAdd, cond_true, cond_false]); exact rfl) ?_
      refine at_inb ?_
      refine at_ks [0, 3, 4] (by (try simp only [keep, lk, pd, enumE, Nat.reduceBEq, Nat.reduceAdd, cond_true, cond_false]); exact rfl) ?_
      refine at_back k (by omega) ⟨i, (i + j + 4094) / 2 - 2047, rfl, rfl, by omega, by omega, by omega, he⟩
    · (try simp only [decide_eq_true_eq, decide_eq_false_iff_not, Bool.not_eq_true', Bool.not_eq_false', Bool.not_true, Bool.not_false, Bool.or_eq_true, Bool.and_eq_true, Int.not_lt, Int.not_le] at ht22)
      rw [if_neg (by omega)] at he
      refine at_region ?_
      refine st_p rfl rfl (p_move rfl) ?_
      refine st_p rfl rfl (p_add rfl rfl (by first | exact nw64 (by omega) | exact nwu64 (by omega) | exact nwu8 (by omega) | exact nwu16 (by omega) | exact wu64 _ | exact wu8 _ | exact wi64 _ | rfl)) ?_
      refine st_p rfl rfl (p_assign rfl) ?_
      refine at_nil ?_
      refine at_ks [0, 2, 3, 4, 5, 11, 22] (by (try simp only [keep, lk, pd, enumE, Nat.reduceBEq, Nat.reduceAdd, cond_true, cond_false]); exact rfl) ?_
      refine at_inb ?_
      refine at_ks [0, 3, 4] (by (try simp only [keep, lk, pd, enumE, Nat.reduceBEq, Nat.reduceAdd, cond_true, cond_false]); exact rfl) ?_
      refine at_back k (by omega) ⟨(i + j + 4094) / 2 - 2047 + 1, j, rfl, rfl, by omega, by omega, by omega, he⟩
  · (try simp only [decide_eq_true_eq, decide_eq_false_iff_not, Bool.not_eq_true', Bool.not_eq_false', Bool.not_true, Bool.not_false, Bool.or_eq_true, Bool.and_eq_true, Int.not_lt, Int.not_le] at ht11)
    rw [if_neg (by omega)] at he
    cases he
    refine at_exit ?_
    refine at_then_x ?_
    refine at_then_x ?_
    refine at_inb_exit ?_
    refine at_then ?_
    refine at_seq ?_
    refine at_region ?_
    refine st_p rfl rfl (p_move rfl) ?_
    refine st_p rfl rfl (p_assign rfl) ?_
    refine at_nil ?_
    refine at_ks [0, 2, 3, 4, 5, 11, 22] (by (try simp only [keep, lk, pd, enumE, Nat.reduceBEq, Nat.reduceAdd, cond_true, cond_false]); exact rfl) ?_
    refine at_then ?_
    refine at_retc ?_
    exact fin_1 rfl rfl (by
        exact ⟨rfl, rfl⟩)

end Go.Proofs.Ytbpbhjnkmonlbaa