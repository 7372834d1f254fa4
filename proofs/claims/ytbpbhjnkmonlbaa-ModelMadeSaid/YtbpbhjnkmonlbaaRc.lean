/- The reference's coder: its walks. No condition. -/
import Derived.Test.YtbpbhjnkmonlbaaLa
namespace Go.Proofs.Ytbpbhjnkmonlbaa
open Go.RowKit Sl
set_option linter.unusedVariables false
set_option linter.unusedSimpArgs false
set_option maxRecDepth 10000
/-- A reference's coder in memory: all bytes of its number. -/
def refR (b : Nat) (dv : Value) (d : List Int) (r : Int) : Hp := [.ob b [dv, .int .u64 r] 120, .sl dv 5 1 d.length (ints .u8 d)]
def refH (b : Nat) (dv : Value) (c : Cd) : Hp := refR b dv (be c.k c.n) (c.r : Int)
theorem shr12 {x : Int} (h0 : 0 ≤ x) : x.fdiv (2 ^ min (12 : Int).toNat IntKind.u64.bits) = x / 4096 := by
  simp [IntKind.bits, Int.fdiv_eq_ediv_of_nonneg]
theorem shr1 {x : Int} (h0 : 0 ≤ x) : x.fdiv (2 ^ min (1 : Int).toNat IntKind.u64.bits) = x / 2 := by
  simp [IntKind.bits, Int.fdiv_eq_ediv_of_nonneg]
theorem shr8 {x : Int} (h0 : 0 ≤ x) : x.fdiv (2 ^ min (8 : Int).toNat IntKind.u64.bits) = x / 256 := by
  simp [IntKind.bits, Int.fdiv_eq_ediv_of_nonneg]
theorem be_add (j X m : Nat) : be (j + 1) (X + m) = be j (X / 256 + (m + X % 256) / 256) ++ [(((m + X % 256) % 256 : Nat) : Int)] := by
  simp only [be]
  rw [show (X + m) / 256 = X / 256 + (m + X % 256) / 256 by omega, show (X + m) % 256 = (m + X % 256) % 256 by omega]
/-- The growing of a reference's coder, k rounds at most. -/
def rgrow : Nat → List Int → Int → Option (List Int × Int)
  | 0, _, _ => none
  | k + 1, d, size => if size < 16777216 then (if 0 ≤ size ∧ d.length < 70000000000000 then rgrow k (d ++ [0]) (size * 256) else none) else some (d, size)
theorem be_up (k n : Nat) : be (k + 1) (n * 256) = be k n ++ [0] := by
  simp only [be]
  rw [show n * 256 / 256 = n by omega, show n * 256 % 256 = 0 by omega]; rfl
theorem rgrow_one {k : Nat} {c : Cd} (hr : c.r < 16777216) (hk : c.k < 70000000000000) : rgrow (k + 1) (be c.k c.n) (c.r : Int) = rgrow k (be (c.k + 1) (c.n * 256)) ((c.r * 256 : Nat) : Int) := by
  rw [rgrow, if_pos (by omega), if_pos ⟨by omega, by rw [be_len]; omega⟩, be_up]
  congr 1
theorem rgrow_all {c : Cd} (hr : 256 ≤ c.r) (hk : c.k < 60000000000000) : rgrow 3 (be c.k c.n) (c.r : Int) = some (be (growC c).k (growC c).n, ((growC c).r : Int)) := by
  unfold growC
  by_cases h1 : c.r < 65536
  · rw [if_pos h1, rgrow_one (by omega) (by omega)]
    have h2 := rgrow_one (k := 1) (c := ⟨c.k + 1, c.n * 256, c.r * 256⟩) (by simp only; omega) (by simp only; omega)
    simp only at h2
    rw [h2, rgrow, if_neg (by omega)]
    simp only [Nat.mul_assoc]
  · rw [if_neg h1]
    by_cases h2 : c.r < 16777216
    · rw [if_pos h2, rgrow_one (by omega) (by omega), rgrow, if_neg (by omega)]
    · rw [if_neg h2, rgrow, if_neg (by omega)]
theorem rep5 : (madeCells #[.int .u8 0] (5 * 1)).toList = ints .u8 (be 5 0) := by
  rw [be_zero]
  exact (made_rep 1 5 (.int .u8 0) (by decide)).trans (by simp [ints])

theorem rnew_calls (F : Frm) : SC Try.prog 31 #[] [] F (fun v H => ∃ b dv, v = .pointer (some ⟨b, 0, none⟩) ∧ H = refH b dv cd0) := by
  refine sc_in (args := []) Try.func31 rfl rfl (Nat.le_of_ble_eq_true rfl) ?_
  refine at_ks [0] (by (try simp only [keep, lk, pd, enumE, Nat.reduceBEq, Nat.reduceAdd, cond_true, cond_false]); exact rfl) ?_
  refine at_seq ?_
  refine at_region ?_
  refine st_p rfl rfl (p_assign rfl) ?_
  refine at_nil ?_
  refine at_ks [0] (by (try simp only [keep, lk, pd, enumE, Nat.reduceBEq, Nat.reduceAdd, cond_true, cond_false]); exact rfl) ?_
  refine at_then ?_
  refine at_seq ?_
  refine at_region ?_
  refine st_l rfl rfl (l_make (m := 5) e_46 rfl rfl (by decide) (by decide)) ?_
  rintro _ _ ⟨b1, rfl, rfl⟩
  rw [rep5]
  refine at_hp (by (try simp only [List.take_zero, List.take_succ_cons, List.drop_zero, List.drop_succ_cons, List.drop_nil, List.length_cons, List.length_nil, Nat.zero_add, Nat.reduceAdd, List.set_cons_zero, List.set_cons_succ, List.nil_append, List.cons_append, List.append_nil, pick, List.filterMap_cons, List.filterMap_nil, List.getElem?_cons_zero, List.getElem?_cons_succ]); exact rfl) ?_
  refine st_p rfl rfl (p_build (cs := #[.slice (some ⟨b1, 0, none⟩) 5 5, U 4294967295]) rfl (fun _ => by kernel_rfl)) ?_
  refine st_l rfl rfl (l_box [.slice (some ⟨b1, 0, none⟩) 5 5, U 4294967295] rfl rfl) ?_
  rintro _ _ ⟨b3, rfl, rfl⟩
  refine at_hp (by (try simp only [List.take_zero, List.take_succ_cons, List.drop_zero, List.drop_succ_cons, List.drop_nil, List.length_cons, List.length_nil, Nat.zero_add, Nat.reduceAdd, List.set_cons_zero, List.set_cons_succ, List.nil_append, List.cons_append, List.append_nil, pick, List.filterMap_cons, List.filterMap_nil, List.getElem?_cons_zero, List.getElem?_cons_succ]); exact rfl) ?_
  refine st_p rfl rfl (p_assign rfl) ?_
  refine at_nil ?_
  refine at_ks [0] (by (try simp only [keep, lk, pd, enumE, Nat.reduceBEq, Nat.reduceAdd, cond_true, cond_false]); exact rfl) ?_
  refine at_then ?_
  refine at_retc ?_
  exact fin_1 rfl rfl (by
      exact ⟨_, _, rfl, rfl⟩)

theorem radd_calls (b : Nat) (dv : Value) (c : Cd) (m : Nat) (F : Frm) (h5 : 5 ≤ c.k) (hn : c.n + m < 256 ^ c.k) (hm : m < 4294967296) (hk : c.k < 60000000000000) :
    SC Try.prog 62 #[.pointer (some ⟨b, 0, none⟩), U m] (refH b dv c) F (fun v H => v = .tuple #[] ∧ H = refH b dv ⟨c.k, c.n + m, c.r⟩) := by
  unfold refH refR
  simp only [be_len]
  refine sc_in (args := [.pointer (some ⟨b, 0, none⟩), U m]) Try.func62 rfl rfl (Nat.le_of_ble_eq_true rfl) ?_
  refine at_ks [0, 1, 4, 16] (by (try simp only [keep, lk, pd, enumE, Nat.reduceBEq, Nat.reduceAdd, cond_true, cond_false]); exact rfl) ?_
  refine at_row 1 rfl (by omega) fun g cp hdv hcp => ?_
  subst hdv
  refine at_seq ?_
  refine at_region ?_
  refine st_p rfl rfl (p_move rfl) ?_
  refine st_p rfl rfl ((by first | exact p_nil rfl | exact p_nilf rfl)) ?_
  refine st_p rfl rfl ((by first | exact p_fa0 rfl o_120_0 | exact p_fa rfl o_120_0)) ?_
  refine st_q rfl rfl ((by first | exact q_ob 0 rfl rfl r_46 (by first | rfl | assumption) | exact q_ob 1 rfl rfl r_46 (by first | rfl | assumption) | exact q_ob 2 rfl rfl r_46 (by first | rfl | assumption) | exact q_ob 3 rfl rfl r_46 (by first | rfl | assumption) | exact q_ob 4 rfl rfl r_46 (by first | rfl | assumption) | exact q_ob 5 rfl rfl r_46 (by first | rfl | assumption) | exact q_sl 0 rfl rfl r_46 (by first | rfl | assumption) | exact q_sl 1 rfl rfl r_46 (by first | rfl | assumption) | exact q_sl 2 rfl rfl r_46 (by first | rfl | assumption) | exact q_sl 3 rfl rfl r_46 (by first | rfl | assumption) | exact q_sl 4 rfl rfl r_46 (by first | rfl | assumption) | exact q_sl 5 rfl rfl r_46 (by first | rfl | assumption) | exact q_fr rfl r_46 (by assumption))) ?_
  refine st_p rfl rfl (p_len rfl m_46) ?_
  refine st_p rfl rfl (p_sub rfl rfl (by first | exact nw64 (by omega) | exact nwu64 (by omega) | exact nwu8 (by omega) | exact nwu16 (by omega) | exact wu64 _ | exact wu8 _ | exact wi64 _ | rfl)) ?_
  refine st_p rfl rfl (p_assign rfl) ?_
  refine at_nil ?_
  refine at_ks [0, 1, 4, 16] (by (try simp only [keep, lk, pd, enumE, Nat.reduceBEq, Nat.reduceAdd, cond_true, cond_false]); exact rfl) ?_
  refine at_then ?_
  refine at_block ?_
  refine at_ks [0, 1, 4] (by (try simp only [keep, lk, pd, enumE, Nat.reduceBEq, Nat.reduceAdd, cond_true, cond_false]); exact rfl) ?_
  refine at_loop (fun kq E H => ∃ (i X w : Nat) (T : List Int), E = [(0, .pointer (some ⟨b, 0, none⟩)), (1, U w), (4, N ((i : Int) - 1))] ∧ H = [.ob b [.slice (some ⟨g, 0, none⟩) c.k cp, .int .u64 (c.r : Int)] 120, .sl (.slice (some ⟨g, 0, none⟩) c.k cp) 5 1 c.k (ints .u8 (be i X ++ T))] ∧ kq = i + 1 ∧ i ≤ c.k ∧ w < 4294967296 ∧ X + w < 256 ^ i ∧ (be i X ++ T).length = c.k ∧ be i (X + w) ++ T = be c.k (c.n + m)) (c.k + 1) (⟨c.k, c.n, m, [], rfl, by simp, rfl, Nat.le_refl _, hm, hn, by simp [be_len], by simp⟩) ?_
  rintro kq _ _ ⟨i, X, w, T, rfl, rfl, rfl, hi, hw, hX, hl, hE⟩
  refine at_seq ?_
  refine at_seq ?_
  refine at_region ?_
  refine st_p rfl rfl (p_move rfl) ?_
  refine st_p rfl rfl (p_geq rfl rfl) ?_
  refine st_p rfl rfl (p_move rfl) ?_
  refine at_split 13 rfl (fun ht13 => ?_) (fun ht13 => ?_)
  · (try simp only [decide_eq_true_eq, decide_eq_false_iff_not, Bool.not_eq_true', Bool.not_eq_false', Bool.not_true, Bool.not_false, Bool.or_eq_true, Bool.and_eq_true, Int.not_lt, Int.not_le] at ht13)
    refine sg_p rfl rfl (p_move rfl) ?_
    refine sg_p rfl rfl (p_gtr rfl rfl) ?_
    refine st_p rfl rfl ((by first | exact p_pick_t rfl rfl | exact p_pick_f rfl rfl)) ?_
    refine at_nil ?_
    refine at_ks [0, 1, 4, 16] (by (try simp only [keep, lk, pd, enumE, Nat.reduceBEq, Nat.reduceAdd, cond_true, cond_false]); exact rfl) ?_
    refine at_then ?_
    refine at_cond rfl (fun ht16 => ?_) (fun ht16 => ?_)
    · (try simp only [decide_eq_true_eq, decide_eq_false_iff_not, Bool.not_eq_true', Bool.not_eq_false', Bool.not_true, Bool.not_false, Bool.or_eq_true, Bool.and_eq_true, Int.not_lt, Int.not_le] at ht16)
      obtain ⟨i, rfl⟩ : ∃ q, i = q + 1 := ⟨i - 1, by omega⟩
      have hget : (ints .u8 (be (i + 1) X ++ T))[(((i + 1 : Nat) : Int) - 1).toNat]? = some (.int .u8 ((X % 256 : Nat) : Int)) := by
        rw [show (((i + 1 : Nat) : Int) - 1).toNat = i by omega, List.getElem?_map, at_last]; rfl
      have hl2 : (ints .u8 (be (i + 1) X ++ T)).length = c.k := by rw [List.length_map]; exact hl
      refine at_skip ?_
      refine at_then ?_
      refine at_seq ?_
      refine at_block ?_
      refine at_seq ?_
      refine at_region ?_
      refine st_p rfl rfl (p_move rfl) ?_
      refine st_p rfl rfl (p_move rfl) ?_
      refine st_p rfl rfl ((by first | exact p_nil rfl | exact p_nilf rfl)) ?_
      refine st_p rfl rfl ((by first | exact p_fa0 rfl o_120_0 | exact p_fa rfl o_120_0)) ?_
      refine st_q rfl rfl ((by first | exact q_ob 0 rfl rfl r_46 (by first | rfl | assumption) | exact q_ob 1 rfl rfl r_46 (by first | rfl | assumption) | exact q_ob 2 rfl rfl r_46 (by first | rfl | assumption) | exact q_ob 3 rfl rfl r_46 (by first | rfl | assumption) | exact q_ob 4 rfl rfl r_46 (by first | rfl | assumption) | exact q_ob 5 rfl rfl r_46 (by first | rfl | assumption) | exact q_sl 0 rfl rfl r_46 (by first | rfl | assumption) | exact q_sl 1 rfl rfl r_46 (by first | rfl | assumption) | exact q_sl 2 rfl rfl r_46 (by first | rfl | assumption) | exact q_sl 3 rfl rfl r_46 (by first | rfl | assumption) | exact q_sl 4 rfl rfl r_46 (by first | rfl | assumption) | exact q_sl 5 rfl rfl r_46 (by first | rfl | assumption) | exact q_fr rfl r_46 (by assumption))) ?_
      refine st_p rfl rfl (p_move rfl) ?_
      refine st_p rfl rfl ((by first | exact p_ia1 rfl rfl z_46 (by first | decide | omega) (by first | decide | omega) | exact p_iaN rfl rfl z_46 (by first | decide | omega) (by first | decide | omega) | exact p_iaO1 rfl rfl z_46 (by first | decide | omega) (by first | decide | omega) | exact p_iaO rfl rfl z_46 (by first | decide | omega) (by first | decide | omega))) ?_
      refine st_q rfl rfl (q_sl 1 rfl rfl r_5 hget) ?_
      refine st_p rfl rfl (p_conv (r := ((X % 256 : Nat) : Int)) rfl Try.underlying5 Try.underlying52 (nwu64 (by omega))) ?_
      refine st_p rfl rfl (p_add (r := ((w + X % 256 : Nat) : Int)) rfl rfl ((nwu64 (by omega)).trans (by omega))) ?_
      refine st_p rfl rfl (p_assign rfl) ?_
      refine at_nil ?_
      refine at_ks [0, 1, 4, 16] (by (try simp only [keep, lk, pd, enumE, Nat.reduceBEq, Nat.reduceAdd, cond_true, cond_false]); exact rfl) ?_
      refine at_then ?_
      refine at_seq ?_
      refine at_region ?_
      refine st_p rfl rfl (p_move rfl) ?_
      refine st_p rfl rfl ((by first | exact p_nil rfl | exact p_nilf rfl)) ?_
      refine st_p rfl rfl ((by first | exact p_fa0 rfl o_120_0 | exact p_fa rfl o_120_0)) ?_
      refine st_q rfl rfl ((by first | exact q_ob 0 rfl rfl r_46 (by first | rfl | assumption) | exact q_ob 1 rfl rfl r_46 (by first | rfl | assumption) | exact q_ob 2 rfl rfl r_46 (by first | rfl | assumption) | exact q_ob 3 rfl rfl r_46 (by first | rfl | assumption) | exact q_ob 4 rfl rfl r_46 (by first | rfl | assumption) | exact q_ob 5 rfl rfl r_46 (by first | rfl | assumption) | exact q_sl 0 rfl rfl r_46 (by first | rfl | assumption) | exact q_sl 1 rfl rfl r_46 (by first | rfl | assumption) | exact q_sl 2 rfl rfl r_46 (by first | rfl | assumption) | exact q_sl 3 rfl rfl r_46 (by first | rfl | assumption) | exact q_sl 4 rfl rfl r_46 (by first | rfl | assumption) | exact q_sl 5 rfl rfl r_46 (by first | rfl | assumption) | exact q_fr rfl r_46 (by assumption))) ?_
      refine st_p rfl rfl (p_move rfl) ?_
      refine st_p rfl rfl (p_move rfl) ?_
      refine st_p rfl rfl (p_conv (r := (((w + X % 256) % 256 : Nat) : Int)) rfl Try.underlying52 Try.underlying5 ((wu8 _).trans (by omega))) ?_
      refine st_p rfl rfl ((by first | exact p_ia1 rfl rfl z_46 (by first | decide | omega) (by first | decide | omega) | exact p_iaN rfl rfl z_46 (by first | decide | omega) (by first | decide | omega) | exact p_iaO1 rfl rfl z_46 (by first | decide | omega) (by first | decide | omega) | exact p_iaO rfl rfl z_46 (by first | decide | omega) (by first | decide | omega))) ?_
      refine st_l rfl rfl ((by first | exact l_ob 0 rfl rfl rfl (by first | rfl | assumption) (by first | rfl | assumption) s_5 (by first | decide | omega | (simp only [List.length_cons, List.length_nil]; omega) | (simp; omega) | (simp; done)) | exact l_ob 1 rfl rfl rfl (by first | rfl | assumption) (by first | rfl | assumption) s_5 (by first | decide | omega | (simp only [List.length_cons, List.length_nil]; omega) | (simp; omega) | (simp; done)) | exact l_ob 2 rfl rfl rfl (by first | rfl | assumption) (by first | rfl | assumption) s_5 (by first | decide | omega | (simp only [List.length_cons, List.length_nil]; omega) | (simp; omega) | (simp; done)) | exact l_ob 3 rfl rfl rfl (by first | rfl | assumption) (by first | rfl | assumption) s_5 (by first | decide | omega | (simp only [List.length_cons, List.length_nil]; omega) | (simp; omega) | (simp; done)) | exact l_ob 4 rfl rfl rfl (by first | rfl | assumption) (by first | rfl | assumption) s_5 (by first | decide | omega | (simp only [List.length_cons, List.length_nil]; omega) | (simp; omega) | (simp; done)) | exact l_ob 5 rfl rfl rfl (by first | rfl | assumption) (by first | rfl | assumption) s_5 (by first | decide | omega | (simp only [List.length_cons, List.length_nil]; omega) | (simp; omega) | (simp; done)) | exact l_sl 0 rfl rfl rfl (by first | rfl | assumption) (by first | rfl | assumption) s_5 (by first | decide | omega | (simp only [List.length_cons, List.length_nil]; omega) | (simp; omega) | (simp; done)) | exact l_sl 1 rfl rfl rfl (by first | rfl | assumption) (by first | rfl | assumption) s_5 (by first | decide | omega | (simp only [List.length_cons, List.length_nil]; omega) | (simp; omega) | (simp; done)) | exact l_sl 2 rfl rfl rfl (by first | rfl | assumption) (by first | rfl | assumption) s_5 (by first | decide | omega | (simp only [List.length_cons, List.length_nil]; omega) | (simp; omega) | (simp; done)) | exact l_sl 3 rfl rfl rfl (by first | rfl | assumption) (by first | rfl | assumption) s_5 (by first | decide | omega | (simp only [List.length_cons, List.length_nil]; omega) | (simp; omega) | (simp; done)) | exact l_sl 4 rfl rfl rfl (by first | rfl | assumption) (by first | rfl | assumption) s_5 (by first | decide | omega | (simp only [List.length_cons, List.length_nil]; omega) | (simp; omega) | (simp; done)) | exact l_sl 5 rfl rfl rfl (by first | rfl | assumption) (by first | rfl | assumption) s_5 (by first | decide | omega | (simp only [List.length_cons, List.length_nil]; omega) | (simp; omega) | (simp; done)))) ?_
      rintro _ _ ⟨rfl, rfl⟩
      refine at_hp (by (try simp only [List.take_zero, List.take_succ_cons, List.drop_zero, List.drop_succ_cons, List.drop_nil, List.length_cons, List.length_nil, Nat.zero_add, Nat.reduceAdd, List.set_cons_zero, List.set_cons_succ, List.nil_append, List.cons_append, List.append_nil, pick, List.filterMap_cons, List.filterMap_nil, List.getElem?_cons_zero, List.getElem?_cons_succ]); exact rfl) ?_
      refine at_nil ?_
      refine at_ks [0, 1, 4, 16] (by (try simp only [keep, lk, pd, enumE, Nat.reduceBEq, Nat.reduceAdd, cond_true, cond_false]); exact rfl) ?_
      refine at_then ?_
      refine at_region ?_
      refine st_p rfl rfl (p_move rfl) ?_
      refine st_p rfl rfl (p_shr (r := (((w + X % 256) / 256 : Nat) : Int)) rfl rfl (by decide) ((shr8 (by omega)).trans (by omega))) ?_
      refine st_p rfl rfl (p_assign rfl) ?_
      refine at_nil ?_
      refine at_ks [0, 1, 4, 16] (by (try simp only [keep, lk, pd, enumE, Nat.reduceBEq, Nat.reduceAdd, cond_true, cond_false]); exact rfl) ?_
      refine at_inb ?_
      refine at_then ?_
      refine at_region ?_
      refine st_p rfl rfl (p_move rfl) ?_
      refine st_p rfl rfl (p_sub (r := (i : Int) - 1) rfl rfl ((nw64 (by omega)).trans (by omega))) ?_
      refine st_p rfl rfl (p_assign rfl) ?_
      refine at_nil ?_
      refine at_ks [0, 1, 4, 16] (by (try simp only [keep, lk, pd, enumE, Nat.reduceBEq, Nat.reduceAdd, cond_true, cond_false]); exact rfl) ?_
      refine at_ks [0, 1, 4] (by (try simp only [keep, lk, pd, enumE, Nat.reduceBEq, Nat.reduceAdd, cond_true, cond_false]); exact rfl) ?_
      refine at_back (i + 1) (by omega) ⟨i, X / 256, (w + X % 256) / 256, (((w + X % 256) % 256 : Nat) : Int) :: T, rfl, ?_, rfl, by omega, by omega, ?_, ?_, ?_⟩
      · rw [show (((i + 1 : Nat) : Int) - 1).toNat = i by omega, ← List.map_set, set_last]
      · rw [Nat.pow_succ] at hX; omega
      · simp only [List.length_append, be_len, List.length_cons] at hl ⊢; omega
      · rw [be_add, List.append_assoc] at hE
        exact hE
    · (try simp only [decide_eq_true_eq, decide_eq_false_iff_not, Bool.not_eq_true', Bool.not_eq_false', Bool.not_true, Bool.not_false, Bool.or_eq_true, Bool.and_eq_true, Int.not_lt, Int.not_le] at ht16)
      refine at_exit ?_
      refine at_then_x ?_
      refine at_then_x ?_
      refine at_inb_exit ?_
      exact fin_n rfl (by
          refine ⟨rfl, ?_⟩
          have h0 : be i X ++ T = be c.k (c.n + m) := by
            rw [← hE]
            obtain rfl : w = 0 := by omega
            rfl
          rw [h0])
  · (try simp only [decide_eq_true_eq, decide_eq_false_iff_not, Bool.not_eq_true', Bool.not_eq_false', Bool.not_true, Bool.not_false, Bool.or_eq_true, Bool.and_eq_true, Int.not_lt, Int.not_le] at ht13)
    refine sg_no rfl rfl ?_
    refine sg_no rfl rfl ?_
    refine st_p rfl rfl ((by first | exact p_pick_t rfl rfl | exact p_pick_f rfl rfl)) ?_
    refine at_nil ?_
    refine at_ks [0, 1, 4, 16] (by (try simp only [keep, lk, pd, enumE, Nat.reduceBEq, Nat.reduceAdd, cond_true, cond_false]); exact rfl) ?_
    refine at_then ?_
    refine at_cond_f rfl ?_
    refine at_exit ?_
    refine at_then_x ?_
    refine at_then_x ?_
    refine at_inb_exit ?_
    exact fin_n rfl (by
        refine ⟨rfl, ?_⟩
        have h0 : be i X ++ T = be c.k (c.n + m) := by
          rw [← hE]
          obtain rfl : i = 0 := by omega
          rfl
        rw [h0])

theorem rgrow_calls (k b : Nat) (dv : Value) (d : List Int) (size : Int) (F : Frm) (d' : List Int) (size' : Int) (h : rgrow k d size = some (d', size')) :
    SC Try.prog 63 #[.pointer (some ⟨b, 0, none⟩)] (refR b dv d size) F (fun v H => v = .tuple #[] ∧ ∃ dv', H = refR b dv' d' size') := by
  unfold refR
  refine sc_in (args := [.pointer (some ⟨b, 0, none⟩)]) Try.func63 rfl rfl (Nat.le_of_ble_eq_true rfl) ?_
  refine at_ks [0, 6] (by (try simp only [keep, lk, pd, enumE, Nat.reduceBEq, Nat.reduceAdd, cond_true, cond_false]); exact rfl) ?_
  refine at_block ?_
  refine at_ks [0] (by (try simp only [keep, lk, pd, enumE, Nat.reduceBEq, Nat.reduceAdd, cond_true, cond_false]); exact rfl) ?_
  refine at_loop (fun kq E H => ∃ (dv1 : Value) (d1 : List Int) (size1 : Int), E = [(0, .pointer (some ⟨b, 0, none⟩))] ∧ H = refR b dv1 d1 size1 ∧ rgrow kq d1 size1 = some (d', size')) (k) (⟨dv, d, size, rfl, rfl, h⟩) ?_
  rintro kq _ _ ⟨dv1, d1, size1, rfl, rfl, he⟩
  unfold refR
  obtain ⟨kq, rfl⟩ : ∃ j, kq = j + 1 := by cases kq with | zero => exact absurd he (by simp [rgrow]) | succ j => exact ⟨j, rfl⟩
  unfold rgrow at he
  refine at_seq ?_
  refine at_seq ?_
  refine at_region ?_
  refine st_p rfl rfl (p_move rfl) ?_
  refine st_p rfl rfl ((by first | exact p_nil rfl | exact p_nilf rfl)) ?_
  refine st_p rfl rfl ((by first | exact p_fa0 rfl o_120_1 | exact p_fa rfl o_120_1)) ?_
  refine st_q rfl rfl ((by first | exact q_ob 0 rfl rfl r_52 (by first | rfl | assumption) | exact q_ob 1 rfl rfl r_52 (by first | rfl | assumption) | exact q_ob 2 rfl rfl r_52 (by first | rfl | assumption) | exact q_ob 3 rfl rfl r_52 (by first | rfl | assumption) | exact q_ob 4 rfl rfl r_52 (by first | rfl | assumption) | exact q_ob 5 rfl rfl r_52 (by first | rfl | assumption) | exact q_sl 0 rfl rfl r_52 (by first | rfl | assumption) | exact q_sl 1 rfl rfl r_52 (by first | rfl | assumption) | exact q_sl 2 rfl rfl r_52 (by first | rfl | assumption) | exact q_sl 3 rfl rfl r_52 (by first | rfl | assumption) | exact q_sl 4 rfl rfl r_52 (by first | rfl | assumption) | exact q_sl 5 rfl rfl r_52 (by first | rfl | assumption) | exact q_fr rfl r_52 (by assumption))) ?_
  refine st_p rfl rfl (p_lss rfl rfl) ?_
  refine at_nil ?_
  refine at_ks [0, 6] (by (try simp only [keep, lk, pd, enumE, Nat.reduceBEq, Nat.reduceAdd, cond_true, cond_false]); exact rfl) ?_
  refine at_then ?_
  refine at_cond rfl (fun ht6 => ?_) (fun ht6 => ?_)
  · (try simp only [decide_eq_true_eq, decide_eq_false_iff_not, Bool.not_eq_true', Bool.not_eq_false', Bool.not_true, Bool.not_false, Bool.or_eq_true, Bool.and_eq_true, Int.not_lt, Int.not_le] at ht6)
    rw [if_pos ht6] at he
    obtain ⟨hb, he⟩ := (Option.ite_none_right_eq_some).1 he
    obtain ⟨hb1, hb4⟩ := hb
    have g1 := shl8 hb1 (show size1 < 4294967296 by omega)
    refine at_skip ?_
    refine at_then ?_
    refine at_block ?_
    refine at_seq ?_
    refine at_region ?_
    refine st_p rfl rfl (p_move rfl) ?_
    refine st_p rfl rfl (p_move rfl) ?_
    refine st_p rfl rfl ((by first | exact p_nil rfl | exact p_nilf rfl)) ?_
    refine st_p rfl rfl ((by first | exact p_fa0 rfl o_120_1 | exact p_fa rfl o_120_1)) ?_
    refine st_q rfl rfl ((by first | exact q_ob 0 rfl rfl r_52 (by first | rfl | assumption) | exact q_ob 1 rfl rfl r_52 (by first | rfl | assumption) | exact q_ob 2 rfl rfl r_52 (by first | rfl | assumption) | exact q_ob 3 rfl rfl r_52 (by first | rfl | assumption) | exact q_ob 4 rfl rfl r_52 (by first | rfl | assumption) | exact q_ob 5 rfl rfl r_52 (by first | rfl | assumption) | exact q_sl 0 rfl rfl r_52 (by first | rfl | assumption) | exact q_sl 1 rfl rfl r_52 (by first | rfl | assumption) | exact q_sl 2 rfl rfl r_52 (by first | rfl | assumption) | exact q_sl 3 rfl rfl r_52 (by first | rfl | assumption) | exact q_sl 4 rfl rfl r_52 (by first | rfl | assumption) | exact q_sl 5 rfl rfl r_52 (by first | rfl | assumption) | exact q_fr rfl r_52 (by assumption))) ?_
    refine st_p rfl rfl (p_shl rfl rfl (by first | decide | omega) (by first | assumption | rfl)) ?_
    refine st_p rfl rfl ((by first | exact p_nil rfl | exact p_nilf rfl)) ?_
    refine st_p rfl rfl ((by first | exact p_fa0 rfl o_120_1 | exact p_fa rfl o_120_1)) ?_
    refine st_l rfl rfl ((by first | exact l_ob 0 rfl rfl rfl (by first | rfl | assumption) (by first | rfl | assumption) s_52 (by first | decide | omega | (simp only [List.length_cons, List.length_nil]; omega) | (simp; omega) | (simp; done)) | exact l_ob 1 rfl rfl rfl (by first | rfl | assumption) (by first | rfl | assumption) s_52 (by first | decide | omega | (simp only [List.length_cons, List.length_nil]; omega) | (simp; omega) | (simp; done)) | exact l_ob 2 rfl rfl rfl (by first | rfl | assumption) (by first | rfl | assumption) s_52 (by first | decide | omega | (simp only [List.length_cons, List.length_nil]; omega) | (simp; omega) | (simp; done)) | exact l_ob 3 rfl rfl rfl (by first | rfl | assumption) (by first | rfl | assumption) s_52 (by first | decide | omega | (simp only [List.length_cons, List.length_nil]; omega) | (simp; omega) | (simp; done)) | exact l_ob 4 rfl rfl rfl (by first | rfl | assumption) (by first | rfl | assumption) s_52 (by first | decide | omega | (simp only [List.length_cons, List.length_nil]; omega) | (simp; omega) | (simp; done)) | exact l_ob 5 rfl rfl rfl (by first | rfl | assumption) (by first | rfl | assumption) s_52 (by first | decide | omega | (simp only [List.length_cons, List.length_nil]; omega) | (simp; omega) | (simp; done)) | exact l_sl 0 rfl rfl rfl (by first | rfl | assumption) (by first | rfl | assumption) s_52 (by first | decide | omega | (simp only [List.length_cons, List.length_nil]; omega) | (simp; omega) | (simp; done)) | exact l_sl 1 rfl rfl rfl (by first | rfl | assumption) (by first | rfl | assumption) s_52 (by first | decide | omega | (simp only [List.length_cons, List.length_nil]; omega) | (simp; omega) | (simp; done)) | exact l_sl 2 rfl rfl rfl (by first | rfl | assumption) (by first | rfl | assumption) s_52 (by first | decide | omega | (simp only [List.length_cons, List.length_nil]; omega) | (simp; omega) | (simp; done)) | exact l_sl 3 rfl rfl rfl (by first | rfl | assumption) (by first | rfl | assumption) s_52 (by first | decide | omega | (simp only [List.length_cons, List.length_nil]; omega) | (simp; omega) | (simp; done)) | exact l_sl 4 rfl rfl rfl (by first | rfl | assumption) (by first | rfl | assumption) s_52 (by first | decide | omega | (simp only [List.length_cons, List.length_nil]; omega) | (simp; omega) | (simp; done)) | exact l_sl 5 rfl rfl rfl (by first | rfl | assumption) (by first | rfl | assumption) s_52 (by first | decide | omega | (simp only [List.length_cons, List.length_nil]; omega) | (simp; omega) | (simp; done)))) ?_
    rintro _ _ ⟨rfl, rfl⟩
    refine at_hp (by (try simp only [List.take_zero, List.take_succ_cons, List.drop_zero, List.drop_succ_cons, List.drop_nil, List.length_cons, List.length_nil, Nat.zero_add, Nat.reduceAdd, List.set_cons_zero, List.set_cons_succ, List.nil_append, List.cons_append, List.append_nil, pick, List.filterMap_cons, List.filterMap_nil, List.getElem?_cons_zero, List.getElem?_cons_succ]); exact rfl) ?_
    refine at_nil ?_
    refine at_ks [0, 6] (by (try simp only [keep, lk, pd, enumE, Nat.reduceBEq, Nat.reduceAdd, cond_true, cond_false]); exact rfl) ?_
    refine at_then ?_
    refine at_region ?_
    refine st_p rfl rfl (p_move rfl) ?_
    refine st_p rfl rfl (p_move rfl) ?_
    refine st_p rfl rfl ((by first | exact p_nil rfl | exact p_nilf rfl)) ?_
    refine st_p rfl rfl ((by first | exact p_fa0 rfl o_120_0 | exact p_fa rfl o_120_0)) ?_
    refine st_q rfl rfl ((by first | exact q_ob 0 rfl rfl r_46 (by first | rfl | assumption) | exact q_ob 1 rfl rfl r_46 (by first | rfl | assumption) | exact q_ob 2 rfl rfl r_46 (by first | rfl | assumption) | exact q_ob 3 rfl rfl r_46 (by first | rfl | assumption) | exact q_ob 4 rfl rfl r_46 (by first | rfl | assumption) | exact q_ob 5 rfl rfl r_46 (by first | rfl | assumption) | exact q_sl 0 rfl rfl r_46 (by first | rfl | assumption) | exact q_sl 1 rfl rfl r_46 (by first | rfl | assumption) | exact q_sl 2 rfl rfl r_46 (by first | rfl | assumption) | exact q_sl 3 rfl rfl r_46 (by first | rfl | assumption) | exact q_sl 4 rfl rfl r_46 (by first | rfl | assumption) | exact q_sl 5 rfl rfl r_46 (by first | rfl | assumption) | exact q_fr rfl r_46 (by assumption))) ?_
    refine st_l rfl rfl (l_bsV [_] _ rfl e_46 (by decide) (by decide) rfl (by simp [Value.cells]) (by simp only [List.flatMap_cons, List.flatMap_nil, Value.cells, List.nil_append, List.cons_append, List.append_nil]; exact rfl)) ?_
    rintro _ _ ⟨b20, rfl, rfl⟩
    refine at_hp (by (try simp only [List.take_zero, List.take_succ_cons, List.drop_zero, List.drop_succ_cons, List.drop_nil, List.length_cons, List.length_nil, Nat.zero_add, Nat.reduceAdd, List.set_cons_zero, List.set_cons_succ, List.nil_append, List.cons_append, List.append_nil, pick, List.filterMap_cons, List.filterMap_nil, List.getElem?_cons_zero, List.getElem?_cons_succ]); exact rfl) ?_
    refine st_l rfl rfl ((by first | exact l_app 1 0 rfl rfl e_46 rfl (by decide) rfl rfl (by first | rfl | (simp; done)) (by simp [Value.oneCell']) (by decide) (by first | omega | (simp only [List.length_append, List.length_cons, List.length_nil]; omega)) (by first | decide | omega) | exact l_app 2 0 rfl rfl e_46 rfl (by decide) rfl rfl (by first | rfl | (simp; done)) (by simp [Value.oneCell']) (by decide) (by first | omega | (simp only [List.length_append, List.length_cons, List.length_nil]; omega)) (by first | decide | omega) | exact l_app 3 0 rfl rfl e_46 rfl (by decide) rfl rfl (by first | rfl | (simp; done)) (by simp [Value.oneCell']) (by decide) (by first | omega | (simp only [List.length_append, List.length_cons, List.length_nil]; omega)) (by first | decide | omega) | exact l_app 4 0 rfl rfl e_46 rfl (by decide) rfl rfl (by first | rfl | (simp; done)) (by simp [Value.oneCell']) (by decide) (by first | omega | (simp only [List.length_append, List.length_cons, List.length_nil]; omega)) (by first | decide | omega) | exact l_app 5 0 rfl rfl e_46 rfl (by decide) rfl rfl (by first | rfl | (simp; done)) (by simp [Value.oneCell']) (by decide) (by first | omega | (simp only [List.length_append, List.length_cons, List.length_nil]; omega)) (by first | decide | omega) | exact l_app 0 1 rfl rfl e_46 rfl (by decide) rfl rfl (by first | rfl | (simp; done)) (by simp [Value.oneCell']) (by decide) (by first | omega | (simp only [List.length_append, List.length_cons, List.length_nil]; omega)) (by first | decide | omega) | exact l_app 2 1 rfl rfl e_46 rfl (by decide) rfl rfl (by first | rfl | (simp; done)) (by simp [Value.oneCell']) (by decide) (by first | omega | (simp only [List.length_append, List.length_cons, List.length_nil]; omega)) (by first | decide | omega) | exact l_app 3 1 rfl rfl e_46 rfl (by decide) rfl rfl (by first | rfl | (simp; done)) (by simp [Value.oneCell']) (by decide) (by first | omega | (simp only [List.length_append, List.length_cons, List.length_nil]; omega)) (by first | decide | omega) | exact l_app 4 1 rfl rfl e_46 rfl (by decide) rfl rfl (by first | rfl | (simp; done)) (by simp [Value.oneCell']) (by decide) (by first | omega | (simp only [List.length_append, List.length_cons, List.length_nil]; omega)) (by first | decide | omega) | exact l_app 5 1 rfl rfl e_46 rfl (by decide) rfl rfl (by first | rfl | (simp; done)) (by simp [Value.oneCell']) (by decide) (by first | omega | (simp only [List.length_append, List.length_cons, List.length_nil]; omega)) (by first | decide | omega) | exact l_app 0 2 rfl rfl e_46 rfl (by decide) rfl rfl (by first | rfl | (simp; done)) (by simp [Value.oneCell']) (by decide) (by first | omega | (simp only [List.length_append, List.length_cons, List.length_nil]; omega)) (by first | decide | omega) | exact l_app 1 2 rfl rfl e_46 rfl (by decide) rfl rfl (by first | rfl | (simp; done)) (by simp [Value.oneCell']) (by decide) (by first | omega | (simp only [List.length_append, List.length_cons, List.length_nil]; omega)) (by first | decide | omega) | exact l_app 3 2 rfl rfl e_46 rfl (by decide) rfl rfl (by first | rfl | (simp; done)) (by simp [Value.oneCell']) (by decide) (by first | omega | (simp only [List.length_append, List.length_cons, List.length_nil]; omega)) (by first | decide | omega) | exact l_app 4 2 rfl rfl e_46 rfl (by decide) rfl rfl (by first | rfl | (simp; done)) (by simp [Value.oneCell']) (by decide) (by first | omega | (simp only [List.length_append, List.length_cons, List.length_nil]; omega)) (by first | decide | omega) | exact l_app 5 2 rfl rfl e_46 rfl (by decide) rfl rfl (by first | rfl | (simp; done)) (by simp [Value.oneCell']) (by decide) (by first | omega | (simp only [List.length_append, List.length_cons, List.length_nil]; omega)) (by first | decide | omega))) ?_
    rintro _ _ ⟨g21, c21, rfl, rfl⟩
    refine at_hp (by (try simp only [List.take_zero, List.take_succ_cons, List.drop_zero, List.drop_succ_cons, List.drop_nil, List.length_cons, List.length_nil, Nat.zero_add, Nat.reduceAdd, List.set_cons_zero, List.set_cons_succ, List.nil_append, List.cons_append, List.append_nil, pick, List.filterMap_cons, List.filterMap_nil, List.getElem?_cons_zero, List.getElem?_cons_succ]); exact rfl) ?_
    refine at_drop ?_
    refine st_p rfl rfl ((by first | exact p_nil rfl | exact p_nilf rfl)) ?_
    refine st_p rfl rfl ((by first | exact p_fa0 rfl o_120_0 | exact p_fa rfl o_120_0)) ?_
    refine st_l rfl rfl ((by first | exact l_ob 0 rfl rfl rfl (by first | rfl | assumption) (by first | rfl | assumption) s_46 (by first | decide | omega | (simp only [List.length_cons, List.length_nil]; omega) | (simp; omega) | (simp; done)) | exact l_ob 1 rfl rfl rfl (by first | rfl | assumption) (by first | rfl | assumption) s_46 (by first | decide | omega | (simp only [List.length_cons, List.length_nil]; omega) | (simp; omega) | (simp; done)) | exact l_ob 2 rfl rfl rfl (by first | rfl | assumption) (by first | rfl | assumption) s_46 (by first | decide | omega | (simp only [List.length_cons, List.length_nil]; omega) | (simp; omega) | (simp; done)) | exact l_ob 3 rfl rfl rfl (by first | rfl | assumption) (by first | rfl | assumption) s_46 (by first | decide | omega | (simp only [List.length_cons, List.length_nil]; omega) | (simp; omega) | (simp; done)) | exact l_ob 4 rfl rfl rfl (by first | rfl | assumption) (by first | rfl | assumption) s_46 (by first | decide | omega | (simp only [List.length_cons, List.length_nil]; omega) | (simp; omega) | (simp; done)) | exact l_ob 5 rfl rfl rfl (by first | rfl | assumption) (by first | rfl | assumption) s_46 (by first | decide | omega | (simp only [List.length_cons, List.length_nil]; omega) | (simp; omega) | (simp; done)) | exact l_sl 0 rfl rfl rfl (by first | rfl | assumption) (by first | rfl | assumption) s_46 (by first | decide | omega | (simp only [List.length_cons, List.length_nil]; omega) | (simp; omega) | (simp; done)) | exact l_sl 1 rfl rfl rfl (by first | rfl | assumption) (by first | rfl | assumption) s_46 (by first | decide | omega | (simp only [List.length_cons, List.length_nil]; omega) | (simp; omega) | (simp; done)) | exact l_sl 2 rfl rfl rfl (by first | rfl | assumption) (by first | rfl | assumption) s_46 (by first | decide | omega | (simp only [List.length_cons, List.length_nil]; omega) | (simp; omega) | (simp; done)) | exact l_sl 3 rfl rfl rfl (by first | rfl | assumption) (by first | rfl | assumption) s_46 (by first | decide | omega | (simp only [List.length_cons, List.length_nil]; omega) | (simp; omega) | (simp; done)) | exact l_sl 4 rfl rfl rfl (by first | rfl | assumption) (by first | rfl | assumption) s_46 (by first | decide | omega | (simp only [List.length_cons, List.length_nil]; omega) | (simp; omega) | (simp; done)) | exact l_sl 5 rfl rfl rfl (by first | rfl | assumption) (by first | rfl | assumption) s_46 (by first | decide | omega | (simp only [List.length_cons, List.length_nil]; omega) | (simp; omega) | (simp; done)))) ?_
    rintro _ _ ⟨rfl, rfl⟩
    refine at_hp (by (try simp only [List.take_zero, List.take_succ_cons, List.drop_zero, List.drop_succ_cons, List.drop_nil, List.length_cons, List.length_nil, Nat.zero_add, Nat.reduceAdd, List.set_cons_zero, List.set_cons_succ, List.nil_append, List.cons_append, List.append_nil, pick, List.filterMap_cons, List.filterMap_nil, List.getElem?_cons_zero, List.getElem?_cons_succ]); exact rfl) ?_
    refine at_nil ?_
    refine at_ks [0, 6] (by (try simp only [keep, lk, pd, enumE, Nat.reduceBEq, Nat.reduceAdd, cond_true, cond_false]); exact rfl) ?_
    refine at_inb ?_
    refine at_ks [0] (by (try simp only [keep, lk, pd, enumE, Nat.reduceBEq, Nat.reduceAdd, cond_true, cond_false]); exact rfl) ?_
    refine at_back kq (by omega) ⟨.slice (some ⟨g21, 0, none⟩) (d1.length + 1) c21, d1 ++ [0], size1 * 256, rfl, ?_, he⟩
    simp [refR, ints]
  · (try simp only [decide_eq_true_eq, decide_eq_false_iff_not, Bool.not_eq_true', Bool.not_eq_false', Bool.not_true, Bool.not_false, Bool.or_eq_true, Bool.and_eq_true, Int.not_lt, Int.not_le] at ht6)
    rw [if_neg (by omega)] at he
    cases he
    refine at_exit ?_
    refine at_then_x ?_
    refine at_then_x ?_
    refine at_inb_exit ?_
    exact fin_n rfl (by
        exact ⟨rfl, _, rfl⟩)

theorem rgrowE_calls (b : Nat) (dv : Value) (c : Cd) (F : Frm) (hr : 256 ≤ c.r) (hk : c.k < 60000000000000) :
    SC Try.prog 63 #[.pointer (some ⟨b, 0, none⟩)] (refH b dv c) F (fun v H => v = .tuple #[] ∧ ∃ dv', H = refH b dv' (growC c)) :=
  rgrow_calls 3 b dv _ _ F _ _ (rgrow_all hr hk)

theorem rBit_calls (b : Nat) (dv : Value) (c : Cd) (p bit : Int) (ho : c.ok) (hk : c.k < 50000000000000) (F : Frm) :
    SC Try.prog 35 #[.pointer (some ⟨b, 0, none⟩), N p, N bit] (refH b dv c) F (fun v H => v = .tuple #[] ∧ ∃ dv', H = refH b dv' (bitC c p bit)) := by
  have hs := shr_in ho.lo p
  have h1 := ho.k5; have h2 := ho.top; have h3 := ho.lo; have h4 := ho.hi
  have h5 := top_lt ho.k5 (m := c.n + shr_ c.r p) (by omega)
  have hp := cpn_in p
  have hc : ((c.r / 4096 : Nat) : Int) * cp p = (shr_ c.r p : Nat) := by rw [← hp.2.2]; exact (Int.natCast_mul _ _).symm
  unfold refH refR
  refine sc_in (args := [.pointer (some ⟨b, 0, none⟩), N p, N bit]) Try.func35 rfl rfl (Nat.le_of_ble_eq_true rfl) ?_
  refine at_ks [0, 1, 2, 6, 16] (by (try simp only [keep, lk, pd, enumE, Nat.reduceBEq, Nat.reduceAdd, cond_true, cond_false]); exact rfl) ?_
  refine at_seq ?_
  refine at_drawH [0, 1, 2, 3, 4, 5, 6, 7, 8] [0, 1, 3, 7, 15, 0, 32, 127, 255] [3, 6] [] mixd (by kernel_rfl) ?_
  refine rd_p rfl rfl rfl rfl rfl (p_move rfl) ?_
  refine rd_p rfl rfl rfl rfl rfl ((by first | exact p_nil rfl | exact p_nilf rfl)) ?_
  refine rd_p rfl rfl rfl rfl rfl ((by first | exact p_fa0 rfl o_120_1 | exact p_fa rfl o_120_1)) ?_
  refine rd_q rfl rfl rfl rfl rfl ((by first | exact q_ob 0 rfl rfl r_52 (by first | rfl | assumption) | exact q_ob 1 rfl rfl r_52 (by first | rfl | assumption) | exact q_ob 2 rfl rfl r_52 (by first | rfl | assumption) | exact q_ob 3 rfl rfl r_52 (by first | rfl | assumption) | exact q_ob 4 rfl rfl r_52 (by first | rfl | assumption) | exact q_ob 5 rfl rfl r_52 (by first | rfl | assumption) | exact q_sl 0 rfl rfl r_52 (by first | rfl | assumption) | exact q_sl 1 rfl rfl r_52 (by first | rfl | assumption) | exact q_sl 2 rfl rfl r_52 (by first | rfl | assumption) | exact q_sl 3 rfl rfl r_52 (by first | rfl | assumption) | exact q_sl 4 rfl rfl r_52 (by first | rfl | assumption) | exact q_sl 5 rfl rfl r_52 (by first | rfl | assumption) | exact q_fr rfl r_52 (by assumption))) (fun _ h => h) ?_
  refine rd_p rfl rfl rfl rfl rfl (p_shr (r := ((c.r / 4096 : Nat) : Int)) rfl rfl (by decide) ((shr12 (by omega)).trans (by omega))) ?_
  refine rd_p rfl rfl rfl rfl rfl (p_move rfl) ?_
  refine rd_q rfl rfl rfl rfl rfl (q_call (first := []) rfl c_61 rfl (fun F1 hF1 hs1 => rchance_calls _ F1)) (fun _ h => h) ?_
  refine rd_p rfl rfl rfl rfl rfl (p_mul rfl rfl ((congrArg _ hc).trans (nwu64 (by omega)))) ?_
  refine rd_p rfl rfl rfl rfl rfl (p_assign rfl) ?_
  refine rd_nil ?_
  refine at_ks [0, 1, 2, 6, 16] (by (try simp only [keep, lk, pd, enumE, Nat.reduceBEq, Nat.reduceAdd, cond_true, cond_false]); exact rfl) ?_
  refine at_then ?_
  refine at_seq ?_
  refine at_seq ?_
  refine at_region ?_
  refine st_p rfl rfl (p_move rfl) ?_
  refine st_p rfl rfl (p_neq rfl rfl) ?_
  refine at_nil ?_
  refine at_ks [0, 1, 2, 6, 16] (by (try simp only [keep, lk, pd, enumE, Nat.reduceBEq, Nat.reduceAdd, cond_true, cond_false]); exact rfl) ?_
  refine at_then ?_
  refine at_cond rfl (fun ht16 => ?_) (fun ht16 => ?_)
  · (try simp only [decide_eq_true_eq, decide_eq_false_iff_not, Bool.not_eq_true', Bool.not_eq_false', Bool.not_true, Bool.not_false, Bool.or_eq_true, Bool.and_eq_true, Int.not_lt, Int.not_le] at ht16)
    refine at_region ?_
    refine st_p rfl rfl (p_move rfl) ?_
    refine st_p rfl rfl (p_move rfl) ?_
    refine st_p rfl rfl ((by first | exact p_nil rfl | exact p_nilf rfl)) ?_
    refine st_p rfl rfl ((by first | exact p_fa0 rfl o_120_1 | exact p_fa rfl o_120_1)) ?_
    refine st_l rfl rfl ((by first | exact l_ob 0 rfl rfl rfl (by first | rfl | assumption) (by first | rfl | assumption) s_52 (by first | decide | omega | (simp only [List.length_cons, List.length_nil]; omega) | (simp; omega) | (simp; done)) | exact l_ob 1 rfl rfl rfl (by first | rfl | assumption) (by first | rfl | assumption) s_52 (by first | decide | omega | (simp only [List.length_cons, List.length_nil]; omega) | (simp; omega) | (simp; done)) | exact l_ob 2 rfl rfl rfl (by first | rfl | assumption) (by first | rfl | assumption) s_52 (by first | decide | omega | (simp only [List.length_cons, List.length_nil]; omega) | (simp; omega) | (simp; done)) | exact l_ob 3 rfl rfl rfl (by first | rfl | assumption) (by first | rfl | assumption) s_52 (by first | decide | omega | (simp only [List.length_cons, List.length_nil]; omega) | (simp; omega) | (simp; done)) | exact l_ob 4 rfl rfl rfl (by first | rfl | assumption) (by first | rfl | assumption) s_52 (by first | decide | omega | (simp only [List.length_cons, List.length_nil]; omega) | (simp; omega) | (simp; done)) | exact l_ob 5 rfl rfl rfl (by first | rfl | assumption) (by first | rfl | assumption) s_52 (by first | decide | omega | (simp only [List.length_cons, List.length_nil]; omega) | (simp; omega) | (simp; done)) | exact l_sl 0 rfl rfl rfl (by first | rfl | assumption) (by first | rfl | assumption) s_52 (by first | decide | omega | (simp only [List.length_cons, List.length_nil]; omega) | (simp; omega) | (simp; done)) | exact l_sl 1 rfl rfl rfl (by first | rfl | assumption) (by first | rfl | assumption) s_52 (by first | decide | omega | (simp only [List.length_cons, List.length_nil]; omega) | (simp; omega) | (simp; done)) | exact l_sl 2 rfl rfl rfl (by first | rfl | assumption) (by first | rfl | assumption) s_52 (by first | decide | omega | (simp only [List.length_cons, List.length_nil]; omega) | (simp; omega) | (simp; done)) | exact l_sl 3 rfl rfl rfl (by first | rfl | assumption) (by first | rfl | assumption) s_52 (by first | decide | omega | (simp only [List.length_cons, List.length_nil]; omega) | (simp; omega) | (simp; done)) | exact l_sl 4 rfl rfl rfl (by first | rfl | assumption) (by first | rfl | assumption) s_52 (by first | decide | omega | (simp only [List.length_cons, List.length_nil]; omega) | (simp; omega) | (simp; done)) | exact l_sl 5 rfl rfl rfl (by first | rfl | assumption) (by first | rfl | assumption) s_52 (by first | decide | omega | (simp only [List.length_cons, List.length_nil]; omega) | (simp; omega) | (simp; done)))) ?_
    rintro _ _ ⟨rfl, rfl⟩
    refine at_hp (by (try simp only [List.take_zero, List.take_succ_cons, List.drop_zero, List.drop_succ_cons, List.drop_nil, List.length_cons, List.length_nil, Nat.zero_add, Nat.reduceAdd, List.set_cons_zero, List.set_cons_succ, List.nil_append, List.cons_append, List.append_nil, pick, List.filterMap_cons, List.filterMap_nil, List.getElem?_cons_zero, List.getElem?_cons_succ]); exact rfl) ?_
    refine at_nil ?_
    refine at_ks [0, 1, 2, 6, 16] (by (try simp only [keep, lk, pd, enumE, Nat.reduceBEq, Nat.reduceAdd, cond_true, cond_false]); exact rfl) ?_
    refine at_then ?_
    refine at_region ?_
    refine st_p rfl rfl (p_move rfl) ?_
    refine st_l rfl rfl (l_call (first := []) [0, 1] [] rfl c_63 rfl (by decide) (fun F1 hF1 hs1 => rgrowE_calls b dv ⟨c.k, c.n, shr_ c.r p⟩ F1 (by simp only; omega) (by simp only; omega))) ?_
    rintro _ _ ⟨_, ⟨rfl, dv2, rfl⟩, rfl⟩
    refine at_hp (by (try simp only [List.take_zero, List.take_succ_cons, List.drop_zero, List.drop_succ_cons, List.drop_nil, List.length_cons, List.length_nil, Nat.zero_add, Nat.reduceAdd, List.set_cons_zero, List.set_cons_succ, List.nil_append, List.cons_append, List.append_nil, pick, List.filterMap_cons, List.filterMap_nil, List.getElem?_cons_zero, List.getElem?_cons_succ]); exact rfl) ?_
    refine at_nil ?_
    refine at_ks [0, 1, 2, 6, 16] (by (try simp only [keep, lk, pd, enumE, Nat.reduceBEq, Nat.reduceAdd, cond_true, cond_false]); exact rfl) ?_
    exact fin_n rfl (by
        exact ⟨rfl, dv2, by unfold bitC; rw [if_neg ht16]; rfl⟩)
  · (try simp only [decide_eq_true_eq, decide_eq_false_iff_not, Bool.not_eq_true', Bool.not_eq_false', Bool.not_true, Bool.not_false, Bool.or_eq_true, Bool.and_eq_true, Int.not_lt, Int.not_le] at ht16)
    refine at_seq ?_
    refine at_region ?_
    refine st_p rfl rfl (p_move rfl) ?_
    refine st_p rfl rfl (p_move rfl) ?_
    refine st_l rfl rfl (l_call (first := []) [0, 1] [] rfl c_62 rfl (by decide) (fun F1 hF1 hs1 => radd_calls b dv c (shr_ c.r p) F1 ho.k5 h5.1 (by omega) (by omega))) ?_
    rintro _ _ ⟨_, ⟨rfl, rfl⟩, rfl⟩
    refine at_hp (by (try simp only [List.take_zero, List.take_succ_cons, List.drop_zero, List.drop_succ_cons, List.drop_nil, List.length_cons, List.length_nil, Nat.zero_add, Nat.reduceAdd, List.set_cons_zero, List.set_cons_succ, List.nil_append, List.cons_append, List.append_nil, pick, List.filterMap_cons, List.filterMap_nil, List.getElem?_cons_zero, List.getElem?_cons_succ]); exact rfl) ?_
    refine at_nil ?_
    refine at_ks [0, 1, 2, 6, 16] (by (try simp only [keep, lk, pd, enumE, Nat.reduceBEq, Nat.reduceAdd, cond_true, cond_false]); exact rfl) ?_
    refine at_then ?_
    refine at_region ?_
    refine st_p rfl rfl (p_move rfl) ?_
    refine st_p rfl rfl (p_move rfl) ?_
    refine st_p rfl rfl ((by first | exact p_nil rfl | exact p_nilf rfl)) ?_
    refine st_p rfl rfl ((by first | exact p_fa0 rfl o_120_1 | exact p_fa rfl o_120_1)) ?_
    refine st_q rfl rfl (q_ob (v := U (c.r : Nat)) 0 rfl rfl r_52 rfl) ?_
    refine st_p rfl rfl (p_move rfl) ?_
    refine st_p rfl rfl (p_sub (r := ((c.r - shr_ c.r p : Nat) : Int)) rfl rfl ((nwu64 (by omega)).trans (by omega))) ?_
    refine st_p rfl rfl ((by first | exact p_nil rfl | exact p_nilf rfl)) ?_
    refine st_p rfl rfl ((by first | exact p_fa0 rfl o_120_1 | exact p_fa rfl o_120_1)) ?_
    refine st_l rfl rfl ((by first | exact l_ob 0 rfl rfl rfl (by first | rfl | assumption) (by first | rfl | assumption) s_52 (by first | decide | omega | (simp only [List.length_cons, List.length_nil]; omega) | (simp; omega) | (simp; done)) | exact l_ob 1 rfl rfl rfl (by first | rfl | assumption) (by first | rfl | assumption) s_52 (by first | decide | omega | (simp only [List.length_cons, List.length_nil]; omega) | (simp; omega) | (simp; done)) | exact l_ob 2 rfl rfl rfl (by first | rfl | assumption) (by first | rfl | assumption) s_52 (by first | decide | omega | (simp only [List.length_cons, List.length_nil]; omega) | (simp; omega) | (simp; done)) | exact l_ob 3 rfl rfl rfl (by first | rfl | assumption) (by first | rfl | assumption) s_52 (by first | decide | omega | (simp only [List.length_cons, List.length_nil]; omega) | (simp; omega) | (simp; done)) | exact l_ob 4 rfl rfl rfl (by first | rfl | assumption) (by first | rfl | assumption) s_52 (by first | decide | omega | (simp only [List.length_cons, List.length_nil]; omega) | (simp; omega) | (simp; done)) | exact l_ob 5 rfl rfl rfl (by first | rfl | assumption) (by first | rfl | assumption) s_52 (by first | decide | omega | (simp only [List.length_cons, List.length_nil]; omega) | (simp; omega) | (simp; done)) | exact l_sl 0 rfl rfl rfl (by first | rfl | assumption) (by first | rfl | assumption) s_52 (by first | decide | omega | (simp only [List.length_cons, List.length_nil]; omega) | (simp; omega) | (simp; done)) | exact l_sl 1 rfl rfl rfl (by first | rfl | assumption) (by first | rfl | assumption) s_52 (by first | decide | omega | (simp only [List.length_cons, List.length_nil]; omega) | (simp; omega) | (simp; done)) | exact l_sl 2 rfl rfl rfl (by first | rfl | assumption) (by first | rfl | assumption) s_52 (by first | decide | omega | (simp only [List.length_cons, List.length_nil]; omega) | (simp; omega) | (simp; done)) | exact l_sl 3 rfl rfl rfl (by first | rfl | assumption) (by first | rfl | assumption) s_52 (by first | decide | omega | (simp only [List.length_cons, List.length_nil]; omega) | (simp; omega) | (simp; done)) | exact l_sl 4 rfl rfl rfl (by first | rfl | assumption) (by first | rfl | assumption) s_52 (by first | decide | omega | (simp only [List.length_cons, List.length_nil]; omega) | (simp; omega) | (simp; done)) | exact l_sl 5 rfl rfl rfl (by first | rfl | assumption) (by first | rfl | assumption) s_52 (by first | decide | omega | (simp only [List.length_cons, List.length_nil]; omega) | (simp; omega) | (simp; done)))) ?_
    rintro _ _ ⟨rfl, rfl⟩
    refine at_hp (by (try simp only [List.take_zero, List.take_succ_cons, List.drop_zero, List.drop_succ_cons, List.drop_nil, List.length_cons, List.length_nil, Nat.zero_add, Nat.reduceAdd, List.set_cons_zero, List.set_cons_succ, List.nil_append, List.cons_append, List.append_nil, pick, List.filterMap_cons, List.filterMap_nil, List.getElem?_cons_zero, List.getElem?_cons_succ]); exact rfl) ?_
    refine at_nil ?_
    refine at_ks [0, 1, 2, 6, 16] (by (try simp only [keep, lk, pd, enumE, Nat.reduceBEq, Nat.reduceAdd, cond_true, cond_false]); exact rfl) ?_
    refine at_then ?_
    refine at_region ?_
    refine st_p rfl rfl (p_move rfl) ?_
    refine st_l rfl rfl (l_call (first := []) [0, 1] [] rfl c_63 rfl (by decide) (fun F1 hF1 hs1 => rgrowE_calls b dv ⟨c.k, c.n + shr_ c.r p, c.r - shr_ c.r p⟩ F1 (by simp only; omega) (by simp only; omega))) ?_
    rintro _ _ ⟨_, ⟨rfl, dv2, rfl⟩, rfl⟩
    refine at_hp (by (try simp only [List.take_zero, List.take_succ_cons, List.drop_zero, List.drop_succ_cons, List.drop_nil, List.length_cons, List.length_nil, Nat.zero_add, Nat.reduceAdd, List.set_cons_zero, List.set_cons_succ, List.nil_append, List.cons_append, List.append_nil, pick, List.filterMap_cons, List.filterMap_nil, List.getElem?_cons_zero, List.getElem?_cons_succ]); exact rfl) ?_
    refine at_nil ?_
    refine at_ks [0, 1, 2, 6, 16] (by (try simp only [keep, lk, pd, enumE, Nat.reduceBEq, Nat.reduceAdd, cond_true, cond_false]); exact rfl) ?_
    exact fin_n rfl (by
        exact ⟨rfl, dv2, by unfold bitC; rw [if_pos ht16]; rfl⟩)

theorem rDirect_calls (b : Nat) (dv : Value) (c : Cd) (v : Nat) (n : Int) (ho : c.ok) (hk : c.k < 40000000000000) (hv : v < 18446744073709551616) (F : Frm) :
    SC Try.prog 38 #[.pointer (some ⟨b, 0, none⟩), U v, N n] (refH b dv c) F (fun w H => w = .tuple #[] ∧ ∃ dv', H = refH b dv' (dirC c v (dirN n))) := by
  have hn := dirN_in n
  refine sc_in (args := [.pointer (some ⟨b, 0, none⟩), U v, N n]) Try.func38 rfl rfl (Nat.le_of_ble_eq_true rfl) ?_
  refine at_ks [0, 1, 2, 6, 13, 28] (by (try simp only [keep, lk, pd, enumE, Nat.reduceBEq, Nat.reduceAdd, cond_true, cond_false]); exact rfl) ?_
  refine at_seq ?_
  refine at_region ?_
  refine st_p rfl rfl (p_move rfl) ?_
  refine st_p rfl rfl (p_min rfl rfl (by first | assumption | rfl)) ?_
  refine st_p rfl rfl (p_max (r := ((dirN n : Nat) : Int)) rfl rfl hn.1.symm) ?_
  refine st_p rfl rfl (p_assign rfl) ?_
  refine at_nil ?_
  refine at_ks [0, 1, 2, 6, 13, 28] (by (try simp only [keep, lk, pd, enumE, Nat.reduceBEq, Nat.reduceAdd, cond_true, cond_false]); exact rfl) ?_
  refine at_then ?_
  refine at_seq ?_
  refine at_region ?_
  refine st_p rfl rfl (p_move rfl) ?_
  refine st_p rfl rfl (p_sub rfl rfl (by first | exact nw64 (by omega) | exact nwu64 (by omega) | exact nwu8 (by omega) | exact nwu16 (by omega) | exact wu64 _ | exact wu8 _ | exact wi64 _ | rfl)) ?_
  refine st_p rfl rfl (p_assign rfl) ?_
  refine at_nil ?_
  refine at_ks [0, 1, 2, 6, 13, 28] (by (try simp only [keep, lk, pd, enumE, Nat.reduceBEq, Nat.reduceAdd, cond_true, cond_false]); exact rfl) ?_
  refine at_then ?_
  refine at_block ?_
  refine at_ks [0, 1, 6] (by (try simp only [keep, lk, pd, enumE, Nat.reduceBEq, Nat.reduceAdd, cond_true, cond_false]); exact rfl) ?_
  refine at_loop (fun k E H => ∃ (j : Nat) (dv1 : Value) (c1 : Cd), E = [(0, .pointer (some ⟨b, 0, none⟩)), (1, U v), (6, N ((j : Int) - 1))] ∧ H = refH b dv1 c1 ∧ k = j + 1 ∧ j ≤ 64 ∧ c1.ok ∧ c1.k + 2 * j ≤ c.k + 128 ∧ dirC c1 v j = dirC c v (dirN n)) (dirN n + 1) (⟨dirN n, dv, c, rfl, rfl, rfl, hn.2, ho, by omega, rfl⟩) ?_
  rintro k _ _ ⟨j, dv1, c1, rfl, rfl, rfl, hj, ho1, hk1, he⟩
  unfold refH refR
  refine at_seq ?_
  refine at_seq ?_
  refine at_region ?_
  refine st_p rfl rfl (p_move rfl) ?_
  refine st_p rfl rfl (p_geq rfl rfl) ?_
  refine at_nil ?_
  refine at_ks [0, 1, 2, 6, 13, 28] (by (try simp only [keep, lk, pd, enumE, Nat.reduceBEq, Nat.reduceAdd, cond_true, cond_false]); exact rfl) ?_
  refine at_then ?_
  refine at_cond rfl (fun ht13 => ?_) (fun ht13 => ?_)
  · (try simp only [decide_eq_true_eq, decide_eq_false_iff_not, Bool.not_eq_true', Bool.not_eq_false', Bool.not_true, Bool.not_false, Bool.or_eq_true, Bool.and_eq_true, Int.not_lt, Int.not_le] at ht13)
    obtain ⟨j, rfl⟩ : ∃ q, j = q + 1 := ⟨j - 1, by omega⟩
    have h1 := ho1.k5; have h2 := ho1.top; have h3 := ho1.lo; have h4 := ho1.hi
    have h5 := top_lt ho1.k5 (m := c1.n + c1.r / 2) (by omega)
    refine at_skip ?_
    refine at_then ?_
    refine at_seq ?_
    refine at_block ?_
    refine at_seq ?_
    refine at_region ?_
    refine st_p rfl rfl (p_move rfl) ?_
    refine st_p rfl rfl (p_move rfl) ?_
    refine st_p rfl rfl ((by first | exact p_nil rfl | exact p_nilf rfl)) ?_
    refine st_p rfl rfl ((by first | exact p_fa0 rfl o_120_1 | exact p_fa rfl o_120_1)) ?_
    refine st_q rfl rfl ((by first | exact q_ob 0 rfl rfl r_52 (by first | rfl | assumption) | exact q_ob 1 rfl rfl r_52 (by first | rfl | assumption) | exact q_ob 2 rfl rfl r_52 (by first | rfl | assumption) | exact q_ob 3 rfl rfl r_52 (by first | rfl | assumption) | exact q_ob 4 rfl rfl r_52 (by first | rfl | assumption) | exact q_ob 5 rfl rfl r_52 (by first | rfl | assumption) | exact q_sl 0 rfl rfl r_52 (by first | rfl | assumption) | exact q_sl 1 rfl rfl r_52 (by first | rfl | assumption) | exact q_sl 2 rfl rfl r_52 (by first | rfl | assumption) | exact q_sl 3 rfl rfl r_52 (by first | rfl | assumption) | exact q_sl 4 rfl rfl r_52 (by first | rfl | assumption) | exact q_sl 5 rfl rfl r_52 (by first | rfl | assumption) | exact q_fr rfl r_52 (by assumption))) ?_
    refine st_p rfl rfl (p_shr (r := ((c1.r / 2 : Nat) : Int)) rfl rfl (by decide) ((shr1 (by omega)).trans (by omega))) ?_
    refine st_p rfl rfl ((by first | exact p_nil rfl | exact p_nilf rfl)) ?_
    refine st_p rfl rfl ((by first | exact p_fa0 rfl o_120_1 | exact p_fa rfl o_120_1)) ?_
    refine st_l rfl rfl ((by first | exact l_ob 0 rfl rfl rfl (by first | rfl | assumption) (by first | rfl | assumption) s_52 (by first | decide | omega | (simp only [List.length_cons, List.length_nil]; omega) | (simp; omega) | (simp; done)) | exact l_ob 1 rfl rfl rfl (by first | rfl | assumption) (by first | rfl | assumption) s_52 (by first | decide | omega | (simp only [List.length_cons, List.length_nil]; omega) | (simp; omega) | (simp; done)) | exact l_ob 2 rfl rfl rfl (by first | rfl | assumption) (by first | rfl | assumption) s_52 (by first | decide | omega | (simp only [List.length_cons, List.length_nil]; omega) | (simp; omega) | (simp; done)) | exact l_ob 3 rfl rfl rfl (by first | rfl | assumption) (by first | rfl | assumption) s_52 (by first | decide | omega | (simp only [List.length_cons, List.length_nil]; omega) | (simp; omega) | (simp; done)) | exact l_ob 4 rfl rfl rfl (by first | rfl | assumption) (by first | rfl | assumption) s_52 (by first | decide | omega | (simp only [List.length_cons, List.length_nil]; omega) | (simp; omega) | (simp; done)) | exact l_ob 5 rfl rfl rfl (by first | rfl | assumption) (by first | rfl | assumption) s_52 (by first | decide | omega | (simp only [List.length_cons, List.length_nil]; omega) | (simp; omega) | (simp; done)) | exact l_sl 0 rfl rfl rfl (by first | rfl | assumption) (by first | rfl | assumption) s_52 (by first | decide | omega | (simp only [List.length_cons, List.length_nil]; omega) | (simp; omega) | (simp; done)) | exact l_sl 1 rfl rfl rfl (by first | rfl | assumption) (by first | rfl | assumption) s_52 (by first | decide | omega | (simp only [List.length_cons, List.length_nil]; omega) | (simp; omega) | (simp; done)) | exact l_sl 2 rfl rfl rfl (by first | rfl | assumption) (by first | rfl | assumption) s_52 (by first | decide | omega | (simp only [List.length_cons, List.length_nil]; omega) | (simp; omega) | (simp; done)) | exact l_sl 3 rfl rfl rfl (by first | rfl | assumption) (by first | rfl | assumption) s_52 (by first | decide | omega | (simp only [List.length_cons, List.length_nil]; omega) | (simp; omega) | (simp; done)) | exact l_sl 4 rfl rfl rfl (by first | rfl | assumption) (by first | rfl | assumption) s_52 (by first | decide | omega | (simp only [List.length_cons, List.length_nil]; omega) | (simp; omega) | (simp; done)) | exact l_sl 5 rfl rfl rfl (by first | rfl | assumption) (by first | rfl | assumption) s_52 (by first | decide | omega | (simp only [List.length_cons, List.length_nil]; omega) | (simp; omega) | (simp; done)))) ?_
    rintro _ _ ⟨rfl, rfl⟩
    refine at_hp (by (try simp only [List.take_zero, List.take_succ_cons, List.drop_zero, List.drop_succ_cons, List.drop_nil, List.length_cons, List.length_nil, Nat.zero_add, Nat.reduceAdd, List.set_cons_zero, List.set_cons_succ, List.nil_append, List.cons_append, List.append_nil, pick, List.filterMap_cons, List.filterMap_nil, List.getElem?_cons_zero, List.getElem?_cons_succ]); exact rfl) ?_
    refine at_nil ?_
    refine at_ks [0, 1, 2, 6, 13, 28] (by (try simp only [keep, lk, pd, enumE, Nat.reduceBEq, Nat.reduceAdd, cond_true, cond_false]); exact rfl) ?_
    refine at_then ?_
    refine at_seq ?_
    refine at_seq ?_
    refine at_region ?_
    refine st_p rfl rfl (p_move rfl) ?_
    refine st_p rfl rfl (p_move rfl) ?_
    refine st_p rfl rfl (p_shr (r := ((v / 2 ^ j : Nat) : Int)) rfl rfl (by omega) (by rw [shrU _ _ (by omega), show (((j + 1 : Nat) : Int) - 1).toNat = j by omega]; exact divc v j)) ?_
    refine st_p rfl rfl (p_and (r := ((v / 2 ^ j % 2 : Nat) : Int)) rfl rfl (and1u (Nat.lt_of_le_of_lt (Nat.div_le_self _ _) hv))) ?_
    refine st_p rfl rfl (p_eql rfl rfl) ?_
    refine at_nil ?_
    refine at_ks [0, 1, 2, 6, 13, 28] (by (try simp only [keep, lk, pd, enumE, Nat.reduceBEq, Nat.reduceAdd, cond_true, cond_false]); exact rfl) ?_
    refine at_then ?_
    refine at_cond rfl (fun ht28 => ?_) (fun ht28 => ?_)
    · (try simp only [decide_eq_true_eq, decide_eq_false_iff_not, Bool.not_eq_true', Bool.not_eq_false', Bool.not_true, Bool.not_false, Bool.or_eq_true, Bool.and_eq_true, Int.not_lt, Int.not_le] at ht28)
      have hb : v / 2 ^ j % 2 = 1 := by omega
      refine at_region ?_
      refine st_p rfl rfl (p_move rfl) ?_
      refine st_p rfl rfl (p_move rfl) ?_
      refine st_p rfl rfl ((by first | exact p_nil rfl | exact p_nilf rfl)) ?_
      refine st_p rfl rfl ((by first | exact p_fa0 rfl o_120_1 | exact p_fa rfl o_120_1)) ?_
      refine st_q rfl rfl ((by first | exact q_ob 0 rfl rfl r_52 (by first | rfl | assumption) | exact q_ob 1 rfl rfl r_52 (by first | rfl | assumption) | exact q_ob 2 rfl rfl r_52 (by first | rfl | assumption) | exact q_ob 3 rfl rfl r_52 (by first | rfl | assumption) | exact q_ob 4 rfl rfl r_52 (by first | rfl | assumption) | exact q_ob 5 rfl rfl r_52 (by first | rfl | assumption) | exact q_sl 0 rfl rfl r_52 (by first | rfl | assumption) | exact q_sl 1 rfl rfl r_52 (by first | rfl | assumption) | exact q_sl 2 rfl rfl r_52 (by first | rfl | assumption) | exact q_sl 3 rfl rfl r_52 (by first | rfl | assumption) | exact q_sl 4 rfl rfl r_52 (by first | rfl | assumption) | exact q_sl 5 rfl rfl r_52 (by first | rfl | assumption) | exact q_fr rfl r_52 (by assumption))) ?_
      refine st_l rfl rfl (l_call (first := []) [0, 1] [] rfl c_62 rfl (by decide) (fun F1 hF1 hs1 => radd_calls b dv1 ⟨c1.k, c1.n, c1.r / 2⟩ (c1.r / 2) F1 ho1.k5 h5.1 (by omega) (by simp only; omega))) ?_
      rintro _ _ ⟨_, ⟨rfl, rfl⟩, rfl⟩
      refine at_hp (by (try simp only [List.take_zero, List.take_succ_cons, List.drop_zero, List.drop_succ_cons, List.drop_nil, List.length_cons, List.length_nil, Nat.zero_add, Nat.reduceAdd, List.set_cons_zero, List.set_cons_succ, List.nil_append, List.cons_append, List.append_nil, pick, List.filterMap_cons, List.filterMap_nil, List.getElem?_cons_zero, List.getElem?_cons_succ]); exact rfl) ?_
      refine at_nil ?_
      refine at_ks [0, 1, 2, 6, 13, 28] (by (try simp only [keep, lk, pd, enumE, Nat.reduceBEq, Nat.reduceAdd, cond_true, cond_false]); exact rfl) ?_
      refine at_then ?_
      refine at_region ?_
      refine st_p rfl rfl (p_move rfl) ?_
      refine st_l rfl rfl (l_call (first := []) [0, 1] [] rfl c_63 rfl (by decide) (fun F1 hF1 hs1 => rgrowE_calls b dv1 ⟨c1.k, c1.n + c1.r / 2, c1.r / 2⟩ F1 (by simp only; omega) (by simp only; omega))) ?_
      rintro _ _ ⟨_, ⟨rfl, dv2, rfl⟩, rfl⟩
      refine at_hp (by (try simp only [List.take_zero, List.take_succ_cons, List.drop_zero, List.drop_succ_cons, List.drop_nil, List.length_cons, List.length_nil, Nat.zero_add, Nat.reduceAdd, List.set_cons_zero, List.set_cons_succ, List.nil_append, List.cons_append, List.append_nil, pick, List.filterMap_cons, List.filterMap_nil, List.getElem?_cons_zero, List.getElem?_cons_succ]); exact rfl) ?_
      refine at_nil ?_
      refine at_ks [0, 1, 2, 6, 13, 28] (by (try simp only [keep, lk, pd, enumE, Nat.reduceBEq, Nat.reduceAdd, cond_true, cond_false]); exact rfl) ?_
      refine at_inb ?_
      refine at_then ?_
      refine at_region ?_
      refine st_p rfl rfl (p_move rfl) ?_
      refine st_p rfl rfl (p_sub (r := (j : Int) - 1) rfl rfl ((nw64 (by omega)).trans (by omega))) ?_
      refine st_p rfl rfl (p_assign rfl) ?_
      refine at_nil ?_
      refine at_ks [0, 1, 2, 6, 13, 28] (by (try simp only [keep, lk, pd, enumE, Nat.reduceBEq, Nat.reduceAdd, cond_true, cond_false]); exact rfl) ?_
      refine at_ks [0, 1, 6] (by (try simp only [keep, lk, pd, enumE, Nat.reduceBEq, Nat.reduceAdd, cond_true, cond_false]); exact rfl) ?_
      refine at_back (j + 1) (by omega) ⟨j, dv2, halfC c1 (v / 2 ^ j % 2), rfl, by unfold halfC; rw [hb]; rfl, rfl, by omega, ho1.half _, ?_, he⟩
      have := halfC_k c1 (v / 2 ^ j % 2)
      omega
    · (try simp only [decide_eq_true_eq, decide_eq_false_iff_not, Bool.not_eq_true', Bool.not_eq_false', Bool.not_true, Bool.not_false, Bool.or_eq_true, Bool.and_eq_true, Int.not_lt, Int.not_le] at ht28)
      have hb : v / 2 ^ j % 2 = 0 := by omega
      refine at_skip ?_
      refine at_then ?_
      refine at_region ?_
      refine st_p rfl rfl (p_move rfl) ?_
      refine st_l rfl rfl (l_call (first := []) [0, 1] [] rfl c_63 rfl (by decide) (fun F1 hF1 hs1 => rgrowE_calls b dv1 ⟨c1.k, c1.n, c1.r / 2⟩ F1 (by simp only; omega) (by simp only; omega))) ?_
      rintro _ _ ⟨_, ⟨rfl, dv2, rfl⟩, rfl⟩
      refine at_hp (by (try simp only [List.take_zero, List.take_succ_cons, List.drop_zero, List.drop_succ_cons, List.drop_nil, List.length_cons, List.length_nil, Nat.zero_add, Nat.reduceAdd, List.set_cons_zero, List.set_cons_succ, List.nil_append, List.cons_append, List.append_nil, pick, List.filterMap_cons, List.filterMap_nil, List.getElem?_cons_zero, List.getElem?_cons_succ]); exact rfl) ?_
      refine at_nil ?_
      refine at_ks [0, 1, 2, 6, 13, 28] (by (try simp only [keep, lk, pd, enumE, Nat.reduceBEq, Nat.reduceAdd, cond_true, cond_false]); exact rfl) ?_
      refine at_inb ?_
      refine at_then ?_
      refine at_region ?_
      refine st_p rfl rfl (p_move rfl) ?_
      refine st_p rfl rfl (p_sub (r := (j : Int) - 1) rfl rfl ((nw64 (by omega)).trans (by omega))) ?_
      refine st_p rfl rfl (p_assign rfl) ?_
      refine at_nil ?_
      refine at_ks [0, 1, 2, 6, 13, 28] (by (try simp only [keep, lk, pd, enumE, Nat.reduceBEq, Nat.reduceAdd, cond_true, cond_false]); exact rfl) ?_
      refine at_ks [0, 1, 6] (by (try simp only [keep, lk, pd, enumE, Nat.reduceBEq, Nat.reduceAdd, cond_true, cond_false]); exact rfl) ?_
      refine at_back (j + 1) (by omega) ⟨j, dv2, halfC c1 (v / 2 ^ j % 2), rfl, by unfold halfC; rw [hb]; rfl, rfl, by omega, ho1.half _, ?_, he⟩
      have := halfC_k c1 (v / 2 ^ j % 2)
      omega
  · (try simp only [decide_eq_true_eq, decide_eq_false_iff_not, Bool.not_eq_true', Bool.not_eq_false', Bool.not_true, Bool.not_false, Bool.or_eq_true, Bool.and_eq_true, Int.not_lt, Int.not_le] at ht13)
    obtain rfl : j = 0 := by omega
    refine at_exit ?_
    refine at_then_x ?_
    refine at_then_x ?_
    refine at_inb_exit ?_
    exact fin_n rfl (by
        exact ⟨rfl, dv1, by rw [← he]; rfl⟩)

theorem rBytes_calls (b : Nat) (dv : Value) (c : Cd) (F : Frm) :
    SC Try.prog 39 #[.pointer (some ⟨b, 0, none⟩)] (refH b dv c) F (fun w H => w = .string (strOfNums (be c.k c.n)) ∧ H = refH b dv c) := by
  unfold refH refR
  refine sc_in (args := [.pointer (some ⟨b, 0, none⟩)]) Try.func39 rfl rfl (Nat.le_of_ble_eq_true rfl) ?_
  refine at_ks [0, 2] (by (try simp only [keep, lk, pd, enumE, Nat.reduceBEq, Nat.reduceAdd, cond_true, cond_false]); exact rfl) ?_
  refine at_seq ?_
  refine at_region ?_
  refine st_p rfl rfl (p_assign rfl) ?_
  refine at_nil ?_
  refine at_ks [0, 2] (by (try simp only [keep, lk, pd, enumE, Nat.reduceBEq, Nat.reduceAdd, cond_true, cond_false]); exact rfl) ?_
  refine at_then ?_
  refine at_seq ?_
  refine at_region ?_
  refine st_p rfl rfl (p_move rfl) ?_
  refine st_p rfl rfl ((by first | exact p_nil rfl | exact p_nilf rfl)) ?_
  refine st_p rfl rfl ((by first | exact p_fa0 rfl o_120_0 | exact p_fa rfl o_120_0)) ?_
  refine st_q rfl rfl ((by first | exact q_ob 0 rfl rfl r_46 (by first | rfl | assumption) | exact q_ob 1 rfl rfl r_46 (by first | rfl | assumption) | exact q_ob 2 rfl rfl r_46 (by first | rfl | assumption) | exact q_ob 3 rfl rfl r_46 (by first | rfl | assumption) | exact q_ob 4 rfl rfl r_46 (by first | rfl | assumption) | exact q_ob 5 rfl rfl r_46 (by first | rfl | assumption) | exact q_sl 0 rfl rfl r_46 (by first | rfl | assumption) | exact q_sl 1 rfl rfl r_46 (by first | rfl | assumption) | exact q_sl 2 rfl rfl r_46 (by first | rfl | assumption) | exact q_sl 3 rfl rfl r_46 (by first | rfl | assumption) | exact q_sl 4 rfl rfl r_46 (by first | rfl | assumption) | exact q_sl 5 rfl rfl r_46 (by first | rfl | assumption) | exact q_fr rfl r_46 (by assumption))) ?_
  refine st_q rfl rfl (q_str 1 rfl rfl Try.underlying46 Try.underlying5 Try.underlying9) ?_
  refine st_p rfl rfl (p_assign rfl) ?_
  refine at_nil ?_
  refine at_ks [0, 2] (by (try simp only [keep, lk, pd, enumE, Nat.reduceBEq, Nat.reduceAdd, cond_true, cond_false]); exact rfl) ?_
  refine at_then ?_
  refine at_retc ?_
  exact fin_1 rfl rfl (by
      exact ⟨rfl, rfl⟩)

end Go.Proofs.Ytbpbhjnkmonlbaa