/- The encoder: its walks. No condition. -/
import Derived.Test.YtbpbhjnkmonlbaaLh
import Derived.Test.YtbpbhjnkmonlbaaCw
namespace Go.Proofs.Ytbpbhjnkmonlbaa
open Go.RowKit Sl
set_option linter.unusedVariables false
set_option linter.unusedSimpArgs false
set_option maxRecDepth 10000
/-- The encoder's growing, k rounds at most. -/
def grow : Nat → List Int → Int → Int → Option (List Int × Int × Int)
  | 0, _, _, _ => none
  | k + 1, d, low, size => if size < 16777216 then (if 0 ≤ size ∧ 0 ≤ low ∧ low < 4294967296 ∧ d.length < 70000000000000 then grow k (d ++ [low / 16777216]) (low * 256 % 4294967296) (size * 256) else none) else some (d, low, size)
def encR (b : Nat) (dv : Value) (d : List Int) (low size : Int) : Hp := [.ob b [dv, .int .u64 low, .int .u64 size] 106, .sl dv 5 1 d.length (ints .u8 d)]
theorem shr24 {x : Int} (h0 : 0 ≤ x) (h : x < 4294967296) : x.fdiv (2 ^ min (24 : Int).toNat IntKind.u64.bits) = x / 16777216 := by
  simp [IntKind.bits, Int.fdiv_eq_ediv_of_nonneg]
theorem shl8 {x : Int} (h0 : 0 ≤ x) (h : x < 4294967296) : IntKind.u64.wrap (x * 2 ^ min (8 : Int).toNat IntKind.u64.bits) = x * 256 := by
  rw [wu64]; simp [IntKind.bits]; omega
theorem and32 {x : Int} (h0 : 0 ≤ x) (h : x < 18446744073709551616) : IntKind.u64.wrap ↑((x % 2 ^ IntKind.u64.bits).toNat &&& ((4294967295 : Int) % 2 ^ IntKind.u64.bits).toNat) = x % 4294967296 := by
  rw [wu64]
  have e1 : (x % 2 ^ IntKind.u64.bits).toNat = x.toNat := by simp [IntKind.bits]; omega
  have e2 : ((4294967295 : Int) % 2 ^ IntKind.u64.bits).toNat = 2 ^ 32 - 1 := by simp [IntKind.bits]
  rw [e1, e2, Nat.and_two_pow_sub_one_eq_mod]
  omega

theorem grow_calls (k b : Nat) (dv : Value) (d : List Int) (low size : Int) (F : Frm) (d' : List Int) (low' size' : Int) (h : grow k d low size = some (d', low', size')) :
    SC Try.prog 57 #[.pointer (some ⟨b, 0, none⟩)] (encR b dv d low size) F (fun v H => v = .tuple #[] ∧ ∃ dv', H = encR b dv' d' low' size') := by
  unfold encR
  refine sc_in (args := [.pointer (some ⟨b, 0, none⟩)]) Try.func57 rfl rfl (Nat.le_of_ble_eq_true rfl) ?_
  refine at_ks [0, 6] (by (try simp only [keep, lk, pd, enumE, Nat.reduceBEq, Nat.reduceAdd, cond_true, cond_false]); exact rfl) ?_
  refine at_block ?_
  refine at_ks [0] (by (try simp only [keep, lk, pd, enumE, Nat.reduceBEq, Nat.reduceAdd, cond_true, cond_false]); exact rfl) ?_
  refine at_loop (fun kq E H => ∃ (dv1 : Value) (d1 : List Int) (low1 size1 : Int), E = [(0, .pointer (some ⟨b, 0, none⟩))] ∧ H = encR b dv1 d1 low1 size1 ∧ grow kq d1 low1 size1 = some (d', low', size')) (k) (⟨dv, d, low, size, rfl, rfl, h⟩) ?_
  rintro kq _ _ ⟨dv1, d1, low1, size1, rfl, rfl, he⟩
  unfold encR
  obtain ⟨kq, rfl⟩ : ∃ j, kq = j + 1 := by cases kq with | zero => exact absurd he (by simp [grow]) | succ j => exact ⟨j, rfl⟩
  unfold grow at he
  refine at_seq ?_
  refine at_seq ?_
  refine at_region ?_
  refine st_p rfl rfl (p_move rfl) ?_
  refine st_p rfl rfl ((by first | exact p_nil rfl | exact p_nilf rfl)) ?_
  refine st_p rfl rfl ((by first | exact p_fa0 rfl o_106_2 | exact p_fa rfl o_106_2)) ?_
  refine st_q rfl rfl ((by first | exact q_ob 0 rfl rfl r_52 (by first | rfl | assumption) | exact q_ob 1 rfl rfl r_52 (by first | rfl | assumption) | exact q_ob 2 rfl rfl r_52 (by first | rfl | assumption) | exact q_ob 3 rfl rfl r_52 (by first | rfl | assumption) | exact q_ob 4 rfl rfl r_52 (by first | rfl | assumption) | exact q_ob 5 rfl rfl r_52 (by first | rfl | assumption) | exact q_sl 0 rfl rfl r_52 (by first | rfl | assumption) | exact q_sl 1 rfl rfl r_52 (by first | rfl | assumption) | exact q_sl 2 rfl rfl r_52 (by first | rfl | assumption) | exact q_sl 3 rfl rfl r_52 (by first | rfl | assumption) | exact q_sl 4 rfl rfl r_52 (by first | rfl | assumption) | exact q_sl 5 rfl rfl r_52 (by first | rfl | assumption) | exact q_fr rfl r_52 (by assumption))) ?_
  refine st_p rfl rfl (p_lss rfl rfl) ?_
  refine at_nil ?_
  refine at_ks [0, 6] (by (try simp only [keep, lk, pd, enumE, Nat.reduceBEq, Nat.reduceAdd, cond_true, cond_false]); exact rfl) ?_
  refine at_then ?_
  refine at_cond rfl (fun ht6 => ?_) (fun ht6 => ?_)
  · (try simp only [decide_eq_true_eq, decide_eq_false_iff_not, Bool.not_eq_true', Bool.not_eq_false', Bool.not_true, Bool.not_false, Bool.or_eq_true, Bool.and_eq_true, Int.not_lt, Int.not_le] at ht6)
    rw [if_pos ht6] at he
    obtain ⟨hb, he⟩ := (Option.ite_none_right_eq_some).1 he
    obtain ⟨hb1, hb2, hb3, hb4⟩ := hb
    have g1 := shl8 hb1 (show size1 < 4294967296 by omega)
    have g2 := shr24 hb2 hb3
    have g3 := shl8 hb2 hb3
    have g4 := and32 (show 0 ≤ low1 * 256 by omega) (by omega)
    refine at_skip ?_
    refine at_then ?_
    refine at_block ?_
    refine at_seq ?_
    refine at_region ?_
    refine st_p rfl rfl (p_move rfl) ?_
    refine st_p rfl rfl ((by first | exact p_nil rfl | exact p_nilf rfl)) ?_
    refine st_p rfl rfl ((by first | exact p_fa0 rfl o_106_2 | exact p_fa rfl o_106_2)) ?_
    refine st_q rfl rfl ((by first | exact q_ob 0 rfl rfl r_52 (by first | rfl | assumption) | exact q_ob 1 rfl rfl r_52 (by first | rfl | assumption) | exact q_ob 2 rfl rfl r_52 (by first | rfl | assumption) | exact q_ob 3 rfl rfl r_52 (by first | rfl | assumption) | exact q_ob 4 rfl rfl r_52 (by first | rfl | assumption) | exact q_ob 5 rfl rfl r_52 (by first | rfl | assumption) | exact q_sl 0 rfl rfl r_52 (by first | rfl | assumption) | exact q_sl 1 rfl rfl r_52 (by first | rfl | assumption) | exact q_sl 2 rfl rfl r_52 (by first | rfl | assumption) | exact q_sl 3 rfl rfl r_52 (by first | rfl | assumption) | exact q_sl 4 rfl rfl r_52 (by first | rfl | assumption) | exact q_sl 5 rfl rfl r_52 (by first | rfl | assumption) | exact q_fr rfl r_52 (by assumption))) ?_
    refine st_p rfl rfl (p_shl rfl rfl (by first | decide | omega) (by first | assumption | rfl)) ?_
    refine st_p rfl rfl ((by first | exact p_nil rfl | exact p_nilf rfl)) ?_
    refine st_p rfl rfl ((by first | exact p_fa0 rfl o_106_2 | exact p_fa rfl o_106_2)) ?_
    refine st_l rfl rfl ((by first | exact l_ob 0 rfl rfl rfl (by first | rfl | assumption) (by first | rfl | assumption) s_52 (by first | decide | omega | (simp only [List.length_cons, List.length_nil]; omega) | (simp; omega) | (simp; done)) | exact l_ob 1 rfl rfl rfl (by first | rfl | assumption) (by first | rfl | assumption) s_52 (by first | decide | omega | (simp only [List.length_cons, List.length_nil]; omega) | (simp; omega) | (simp; done)) | exact l_ob 2 rfl rfl rfl (by first | rfl | assumption) (by first | rfl | assumption) s_52 (by first | decide | omega | (simp only [List.length_cons, List.length_nil]; omega) | (simp; omega) | (simp; done)) | exact l_ob 3 rfl rfl rfl (by first | rfl | assumption) (by first | rfl | assumption) s_52 (by first | decide | omega | (simp only [List.length_cons, List.length_nil]; omega) | (simp; omega) | (simp; done)) | exact l_ob 4 rfl rfl rfl (by first | rfl | assumption) (by first | rfl | assumption) s_52 (by first | decide | omega | (simp only [List.length_cons, List.length_nil]; omega) | (simp; omega) | (simp; done)) | exact l_ob 5 rfl rfl rfl (by first | rfl | assumption) (by first | rfl | assumption) s_52 (by first | decide | omega | (simp only [List.length_cons, List.length_nil]; omega) | (simp; omega) | (simp; done)) | exact l_sl 0 rfl rfl rfl (by first | rfl | assumption) (by first | rfl | assumption) s_52 (by first | decide | omega | (simp only [List.length_cons, List.length_nil]; omega) | (simp; omega) | (simp; done)) | exact l_sl 1 rfl rfl rfl (by first | rfl | assumption) (by first | rfl | assumption) s_52 (by first | decide | omega | (simp only [List.length_cons, List.length_nil]; omega) | (simp; omega) | (simp; done)) | exact l_sl 2 rfl rfl rfl (by first | rfl | assumption) (by first | rfl | assumption) s_52 (by first | decide | omega | (simp only [List.length_cons, List.length_nil]; omega) | (simp; omega) | (simp; done)) | exact l_sl 3 rfl rfl rfl (by first | rfl | assumption) (by first | rfl | assumption) s_52 (by first | decide | omega | (simp only [List.length_cons, List.length_nil]; omega) | (simp; omega) | (simp; done)) | exact l_sl 4 rfl rfl rfl (by first | rfl | assumption) (by first | rfl | assumption) s_52 (by first | decide | omega | (simp only [List.length_cons, List.length_nil]; omega) | (simp; omega) | (simp; done)) | exact l_sl 5 rfl rfl rfl (by first | rfl | assumption) (by first | rfl | assumption) s_52 (by first | decide | omega | (simp only [List.length_cons, List.length_nil]; omega) | (simp; omega) | (simp; done)))) ?_
    rintro _ _ ⟨rfl, rfl⟩
    refine at_hp (by (try simp only [List.take_zero, List.take_succ_cons, List.drop_zero, List.drop_succ_cons, List.drop_nil, List.length_cons, List.length_nil, Nat.zero_add, Nat.reduceAdd, List.set_cons_zero, List.set_cons_succ, List.nil_append, List.cons_append, List.append_nil, pick, List.filterMap_cons, List.filterMap_nil, List.getElem?_cons_zero, List.getElem?_cons_succ]); exact rfl) ?_
    refine at_nil ?_
    refine at_ks [0, 6] (by (try simp only [keep, lk, pd, enumE, Nat.reduceBEq, Nat.reduceAdd, cond_true, cond_false]); exact rfl) ?_
    refine at_then ?_
    refine at_seq ?_
    refine at_drawH [0, 1, 2, 3, 4, 5, 6, 7, 8, 9, 10, 11, 12, 13, 14, 15] [0, 0, 2, 6, 14, 0, 32, 96, 224, 480, 992, 2016, 4094, 8191, 16383, 32767] [4, 8] [11, 12, 15] mixd (by kernel_rfl) ?_
    refine rd_p rfl rfl rfl rfl rfl (p_move rfl) ?_
    refine rd_p rfl rfl rfl rfl rfl (p_move rfl) ?_
    refine rd_p rfl rfl rfl rfl rfl ((by first | exact p_nil rfl | exact p_nilf rfl)) ?_
    refine rd_p rfl rfl rfl rfl rfl ((by first | exact p_fa0 rfl o_106_0 | exact p_fa rfl o_106_0)) ?_
    refine rd_q rfl rfl rfl rfl rfl ((by first | exact q_ob 0 rfl rfl r_46 (by first | rfl | assumption) | exact q_ob 1 rfl rfl r_46 (by first | rfl | assumption) | exact q_ob 2 rfl rfl r_46 (by first | rfl | assumption) | exact q_ob 3 rfl rfl r_46 (by first | rfl | assumption) | exact q_ob 4 rfl rfl r_46 (by first | rfl | assumption) | exact q_ob 5 rfl rfl r_46 (by first | rfl | assumption) | exact q_sl 0 rfl rfl r_46 (by first | rfl | assumption) | exact q_sl 1 rfl rfl r_46 (by first | rfl | assumption) | exact q_sl 2 rfl rfl r_46 (by first | rfl | assumption) | exact q_sl 3 rfl rfl r_46 (by first | rfl | assumption) | exact q_sl 4 rfl rfl r_46 (by first | rfl | assumption) | exact q_sl 5 rfl rfl r_46 (by first | rfl | assumption) | exact q_fr rfl r_46 (by assumption))) (fun _ h => h) ?_
    refine rd_p rfl rfl rfl rfl rfl (p_move rfl) ?_
    refine rd_p rfl rfl rfl rfl rfl ((by first | exact p_nil rfl | exact p_nilf rfl)) ?_
    refine rd_p rfl rfl rfl rfl rfl ((by first | exact p_fa0 rfl o_106_1 | exact p_fa rfl o_106_1)) ?_
    refine rd_q rfl rfl rfl rfl rfl ((by first | exact q_ob 0 rfl rfl r_52 (by first | rfl | assumption) | exact q_ob 1 rfl rfl r_52 (by first | rfl | assumption) | exact q_ob 2 rfl rfl r_52 (by first | rfl | assumption) | exact q_ob 3 rfl rfl r_52 (by first | rfl | assumption) | exact q_ob 4 rfl rfl r_52 (by first | rfl | assumption) | exact q_ob 5 rfl rfl r_52 (by first | rfl | assumption) | exact q_sl 0 rfl rfl r_52 (by first | rfl | assumption) | exact q_sl 1 rfl rfl r_52 (by first | rfl | assumption) | exact q_sl 2 rfl rfl r_52 (by first | rfl | assumption) | exact q_sl 3 rfl rfl r_52 (by first | rfl | assumption) | exact q_sl 4 rfl rfl r_52 (by first | rfl | assumption) | exact q_sl 5 rfl rfl r_52 (by first | rfl | assumption) | exact q_fr rfl r_52 (by assumption))) (fun _ h => h) ?_
    refine rd_p rfl rfl rfl rfl rfl (p_shr rfl rfl (by first | decide | omega) (by first | assumption | rfl)) ?_
    refine rd_p rfl rfl rfl rfl rfl (p_conv rfl Try.underlying52 Try.underlying5 (by first | exact nw64 (by omega) | exact nwu64 (by omega) | exact nwu8 (by omega) | exact nwu16 (by omega) | exact wu64 _ | exact wu8 _ | exact wi64 _ | rfl)) ?_
    refine rd_l rfl rfl rfl rfl (l_bsV [_] _ rfl e_46 (by decide) (by decide) rfl (by simp [Value.cells]) (by simp only [List.flatMap_cons, List.flatMap_nil, Value.cells, List.nil_append, List.cons_append, List.append_nil]; exact rfl)) (fun _ => by rintro _ _ ⟨b25, rfl, rfl⟩; exact (by first | exact sub_re [1, 2, 3, 4, 5, 6, 7, 8] (by decide) rfl | exact sub_re [1, 2, 3, 4, 5, 6, 7] (by decide) rfl | exact sub_re [1, 2, 3, 4, 5, 6] (by decide) rfl | exact sub_re [1, 2, 3, 4, 5] (by decide) rfl | exact sub_re [1, 2, 3, 4] (by decide) rfl | exact sub_re [1, 2, 3] (by decide) rfl | exact sub_re [1, 2] (by decide) rfl | exact sub_re [1] (by decide) rfl | exact sub_re [] (by decide) rfl)) ?_
    rintro _ _ ⟨b25, rfl, rfl⟩
    refine rd_hp (by (try simp only [List.take_zero, List.take_succ_cons, List.drop_zero, List.drop_succ_cons, List.drop_nil, List.length_cons, List.length_nil, Nat.zero_add, Nat.reduceAdd, List.set_cons_zero, List.set_cons_succ, List.nil_append, List.cons_append, List.append_nil, pick, List.filterMap_cons, List.filterMap_nil, List.getElem?_cons_zero, List.getElem?_cons_succ]); exact rfl) ?_
    refine rd_l rfl rfl rfl rfl ((by first | exact l_app 1 0 rfl rfl e_46 rfl (by decide) rfl rfl (by first | rfl | (simp; done)) (by simp [Value.oneCell']) (by decide) (by first | omega | (simp only [List.length_append, List.length_cons, List.length_nil]; omega)) (by first | decide | omega) | exact l_app 2 0 rfl rfl e_46 rfl (by decide) rfl rfl (by first | rfl | (simp; done)) (by simp [Value.oneCell']) (by decide) (by first | omega | (simp only [List.length_append, List.length_cons, List.length_nil]; omega)) (by first | decide | omega) | exact l_app 3 0 rfl rfl e_46 rfl (by decide) rfl rfl (by first | rfl | (simp; done)) (by simp [Value.oneCell']) (by decide) (by first | omega | (simp only [List.length_append, List.length_cons, List.length_nil]; omega)) (by first | decide | omega) | exact l_app 4 0 rfl rfl e_46 rfl (by decide) rfl rfl (by first | rfl | (simp; done)) (by simp [Value.oneCell']) (by decide) (by first | omega | (simp only [List.length_append, List.length_cons, List.length_nil]; omega)) (by first | decide | omega) | exact l_app 5 0 rfl rfl e_46 rfl (by decide) rfl rfl (by first | rfl | (simp; done)) (by simp [Value.oneCell']) (by decide) (by first | omega | (simp only [List.length_append, List.length_cons, List.length_nil]; omega)) (by first | decide | omega) | exact l_app 0 1 rfl rfl e_46 rfl (by decide) rfl rfl (by first | rfl | (simp; done)) (by simp [Value.oneCell']) (by decide) (by first | omega | (simp only [List.length_append, List.length_cons, List.length_nil]; omega)) (by first | decide | omega) | exact l_app 2 1 rfl rfl e_46 rfl (by decide) rfl rfl (by first | rfl | (simp; done)) (by simp [Value.oneCell']) (by decide) (by first | omega | (simp only [List.length_append, List.length_cons, List.length_nil]; omega)) (by first | decide | omega) | exact l_app 3 1 rfl rfl e_46 rfl (by decide) rfl rfl (by first | rfl | (simp; done)) (by simp [Value.oneCell']) (by decide) (by first | omega | (simp only [List.length_append, List.length_cons, List.length_nil]; omega)) (by first | decide | omega) | exact l_app 4 1 rfl rfl e_46 rfl (by decide) rfl rfl (by first | rfl | (simp; done)) (by simp [Value.oneCell']) (by decide) (by first | omega | (simp only [List.length_append, List.length_cons, List.length_nil]; omega)) (by first | decide | omega) | exact l_app 5 1 rfl rfl e_46 rfl (by decide) rfl rfl (by first | rfl | (simp; done)) (by simp [Value.oneCell']) (by decide) (by first | omega | (simp only [List.length_append, List.length_cons, List.length_nil]; omega)) (by first | decide | omega) | exact l_app 0 2 rfl rfl e_46 rfl (by decide) rfl rfl (by first | rfl | (simp; done)) (by simp [Value.oneCell']) (by decide) (by first | omega | (simp only [List.length_append, List.length_cons, List.length_nil]; omega)) (by first | decide | omega) | exact l_app 1 2 rfl rfl e_46 rfl (by decide) rfl rfl (by first | rfl | (simp; done)) (by simp [Value.oneCell']) (by decide) (by first | omega | (simp only [List.length_append, List.length_cons, List.length_nil]; omega)) (by first | decide | omega) | exact l_app 3 2 rfl rfl e_46 rfl (by decide) rfl rfl (by first | rfl | (simp; done)) (by simp [Value.oneCell']) (by decide) (by first | omega | (simp only [List.length_append, List.length_cons, List.length_nil]; omega)) (by first | decide | omega) | exact l_app 4 2 rfl rfl e_46 rfl (by decide) rfl rfl (by first | rfl | (simp; done)) (by simp [Value.oneCell']) (by decide) (by first | omega | (simp only [List.length_append, List.length_cons, List.length_nil]; omega)) (by first | decide | omega) | exact l_app 5 2 rfl rfl e_46 rfl (by decide) rfl rfl (by first | rfl | (simp; done)) (by simp [Value.oneCell']) (by decide) (by first | omega | (simp only [List.length_append, List.length_cons, List.length_nil]; omega)) (by first | decide | omega))) (fun h => nomatch (show false = true from h)) ?_
    rintro _ _ ⟨g26, c26, rfl, rfl⟩
    refine rd_hp (by (try simp only [List.take_zero, List.take_succ_cons, List.drop_zero, List.drop_succ_cons, List.drop_nil, List.length_cons, List.length_nil, Nat.zero_add, Nat.reduceAdd, List.set_cons_zero, List.set_cons_succ, List.nil_append, List.cons_append, List.append_nil, pick, List.filterMap_cons, List.filterMap_nil, List.getElem?_cons_zero, List.getElem?_cons_succ]); exact rfl) ?_
    refine rd_drop ?_
    refine rd_p rfl rfl rfl rfl rfl ((by first | exact p_nil rfl | exact p_nilf rfl)) ?_
    refine rd_p rfl rfl rfl rfl rfl ((by first | exact p_fa0 rfl o_106_0 | exact p_fa rfl o_106_0)) ?_
    refine rd_l rfl rfl rfl rfl ((by first | exact l_ob 0 rfl rfl rfl (by first | rfl | assumption) (by first | rfl | assumption) s_46 (by first | decide | omega | (simp only [List.length_cons, List.length_nil]; omega) | (simp; omega) | (simp; done)) | exact l_ob 1 rfl rfl rfl (by first | rfl | assumption) (by first | rfl | assumption) s_46 (by first | decide | omega | (simp only [List.length_cons, List.length_nil]; omega) | (simp; omega) | (simp; done)) | exact l_ob 2 rfl rfl rfl (by first | rfl | assumption) (by first | rfl | assumption) s_46 (by first | decide | omega | (simp only [List.length_cons, List.length_nil]; omega) | (simp; omega) | (simp; done)) | exact l_ob 3 rfl rfl rfl (by first | rfl | assumption) (by first | rfl | assumption) s_46 (by first | decide | omega | (simp only [List.length_cons, List.length_nil]; omega) | (simp; omega) | (simp; done)) | exact l_ob 4 rfl rfl rfl (by first | rfl | assumption) (by first | rfl | assumption) s_46 (by first | decide | omega | (simp only [List.length_cons, List.length_nil]; omega) | (simp; omega) | (simp; done)) | exact l_ob 5 rfl rfl rfl (by first | rfl | assumption) (by first | rfl | assumption) s_46 (by first | decide | omega | (simp only [List.length_cons, List.length_nil]; omega) | (simp; omega) | (simp; done)) | exact l_sl 0 rfl rfl rfl (by first | rfl | assumption) (by first | rfl | assumption) s_46 (by first | decide | omega | (simp only [List.length_cons, List.length_nil]; omega) | (simp; omega) | (simp; done)) | exact l_sl 1 rfl rfl rfl (by first | rfl | assumption) (by first | rfl | assumption) s_46 (by first | decide | omega | (simp only [List.length_cons, List.length_nil]; omega) | (simp; omega) | (simp; done)) | exact l_sl 2 rfl rfl rfl (by first | rfl | assumption) (by first | rfl | assumption) s_46 (by first | decide | omega | (simp only [List.length_cons, List.length_nil]; omega) | (simp; omega) | (simp; done)) | exact l_sl 3 rfl rfl rfl (by first | rfl | assumption) (by first | rfl | assumption) s_46 (by first | decide | omega | (simp only [List.length_cons, List.length_nil]; omega) | (simp; omega) | (simp; done)) | exact l_sl 4 rfl rfl rfl (by first | rfl | assumption) (by first | rfl | assumption) s_46 (by first | decide | omega | (simp only [List.length_cons, List.length_nil]; omega) | (simp; omega) | (simp; done)) | exact l_sl 5 rfl rfl rfl (by first | rfl | assumption) (by first | rfl | assumption) s_46 (by first | decide | omega | (simp only [List.length_cons, List.length_nil]; omega) | (simp; omega) | (simp; done)))) (fun h => nomatch (show false = true from h)) ?_
    rintro _ _ ⟨rfl, rfl⟩
    refine rd_hp (by (try simp only [List.take_zero, List.take_succ_cons, List.drop_zero, List.drop_succ_cons, List.drop_nil, List.length_cons, List.length_nil, Nat.zero_add, Nat.reduceAdd, List.set_cons_zero, List.set_cons_succ, List.nil_append, List.cons_append, List.append_nil, pick, List.filterMap_cons, List.filterMap_nil, List.getElem?_cons_zero, List.getElem?_cons_succ]); exact rfl) ?_
    refine rd_nil ?_
    refine at_ks [0, 6] (by (try simp only [keep, lk, pd, enumE, Nat.reduceBEq, Nat.reduceAdd, cond_true, cond_false]); exact rfl) ?_
    refine at_then ?_
    refine at_region ?_
    refine st_p rfl rfl (p_move rfl) ?_
    refine st_p rfl rfl (p_move rfl) ?_
    refine st_p rfl rfl ((by first | exact p_nil rfl | exact p_nilf rfl)) ?_
    refine st_p rfl rfl ((by first | exact p_fa0 rfl o_106_1 | exact p_fa rfl o_106_1)) ?_
    refine st_q rfl rfl ((by first | exact q_ob 0 rfl rfl r_52 (by first | rfl | assumption) | exact q_ob 1 rfl rfl r_52 (by first | rfl | assumption) | exact q_ob 2 rfl rfl r_52 (by first | rfl | assumption) | exact q_ob 3 rfl rfl r_52 (by first | rfl | assumption) | exact q_ob 4 rfl rfl r_52 (by first | rfl | assumption) | exact q_ob 5 rfl rfl r_52 (by first | rfl | assumption) | exact q_sl 0 rfl rfl r_52 (by first | rfl | assumption) | exact q_sl 1 rfl rfl r_52 (by first | rfl | assumption) | exact q_sl 2 rfl rfl r_52 (by first | rfl | assumption) | exact q_sl 3 rfl rfl r_52 (by first | rfl | assumption) | exact q_sl 4 rfl rfl r_52 (by first | rfl | assumption) | exact q_sl 5 rfl rfl r_52 (by first | rfl | assumption) | exact q_fr rfl r_52 (by assumption))) ?_
    refine st_p rfl rfl (p_shl rfl rfl (by first | decide | omega) (by first | assumption | rfl)) ?_
    refine st_p rfl rfl (p_and rfl rfl (by first | assumption | rfl)) ?_
    refine st_p rfl rfl ((by first | exact p_nil rfl | exact p_nilf rfl)) ?_
    refine st_p rfl rfl ((by first | exact p_fa0 rfl o_106_1 | exact p_fa rfl o_106_1)) ?_
    refine st_l rfl rfl ((by first | exact l_ob 0 rfl rfl rfl (by first | rfl | assumption) (by first | rfl | assumption) s_52 (by first | decide | omega | (simp only [List.length_cons, List.length_nil]; omega) | (simp; omega) | (simp; done)) | exact l_ob 1 rfl rfl rfl (by first | rfl | assumption) (by first | rfl | assumption) s_52 (by first | decide | omega | (simp only [List.length_cons, List.length_nil]; omega) | (simp; omega) | (simp; done)) | exact l_ob 2 rfl rfl rfl (by first | rfl | assumption) (by first | rfl | assumption) s_52 (by first | decide | omega | (simp only [List.length_cons, List.length_nil]; omega) | (simp; omega) | (simp; done)) | exact l_ob 3 rfl rfl rfl (by first | rfl | assumption) (by first | rfl | assumption) s_52 (by first | decide | omega | (simp only [List.length_cons, List.length_nil]; omega) | (simp; omega) | (simp; done)) | exact l_ob 4 rfl rfl rfl (by first | rfl | assumption) (by first | rfl | assumption) s_52 (by first | decide | omega | (simp only [List.length_cons, List.length_nil]; omega) | (simp; omega) | (simp; done)) | exact l_ob 5 rfl rfl rfl (by first | rfl | assumption) (by first | rfl | assumption) s_52 (by first | decide | omega | (simp only [List.length_cons, List.length_nil]; omega) | (simp; omega) | (simp; done)) | exact l_sl 0 rfl rfl rfl (by first | rfl | assumption) (by first | rfl | assumption) s_52 (by first | decide | omega | (simp only [List.length_cons, List.length_nil]; omega) | (simp; omega) | (simp; done)) | exact l_sl 1 rfl rfl rfl (by first | rfl | assumption) (by first | rfl | assumption) s_52 (by first | decide | omega | (simp only [List.length_cons, List.length_nil]; omega) | (simp; omega) | (simp; done)) | exact l_sl 2 rfl rfl rfl (by first | rfl | assumption) (by first | rfl | assumption) s_52 (by first | decide | omega | (simp only [List.length_cons, List.length_nil]; omega) | (simp; omega) | (simp; done)) | exact l_sl 3 rfl rfl rfl (by first | rfl | assumption) (by first | rfl | assumption) s_52 (by first | decide | omega | (simp only [List.length_cons, List.length_nil]; omega) | (simp; omega) | (simp; done)) | exact l_sl 4 rfl rfl rfl (by first | rfl | assumption) (by first | rfl | assumption) s_52 (by first | decide | omega | (simp only [List.length_cons, List.length_nil]; omega) | (simp; omega) | (simp; done)) | exact l_sl 5 rfl rfl rfl (by first | rfl | assumption) (by first | rfl | assumption) s_52 (by first | decide | omega | (simp only [List.length_cons, List.length_nil]; omega) | (simp; omega) | (simp; done)))) ?_
    rintro _ _ ⟨rfl, rfl⟩
    refine at_hp (by (try simp only [List.take_zero, List.take_succ_cons, List.drop_zero, List.drop_succ_cons, List.drop_nil, List.length_cons, List.length_nil, Nat.zero_add, Nat.reduceAdd, List.set_cons_zero, List.set_cons_succ, List.nil_append, List.cons_append, List.append_nil, pick, List.filterMap_cons, List.filterMap_nil, List.getElem?_cons_zero, List.getElem?_cons_succ]); exact rfl) ?_
    refine at_nil ?_
    refine at_ks [0, 6] (by (try simp only [keep, lk, pd, enumE, Nat.reduceBEq, Nat.reduceAdd, cond_true, cond_false]); exact rfl) ?_
    refine at_inb ?_
    refine at_ks [0] (by (try simp only [keep, lk, pd, enumE, Nat.reduceBEq, Nat.reduceAdd, cond_true, cond_false]); exact rfl) ?_
    refine at_back kq (by omega) ⟨.slice (some ⟨g26, 0, none⟩) (d1.length + 1) c26, d1 ++ [low1 / 16777216], low1 * 256 % 4294967296, size1 * 256, rfl, ?_, he⟩
    simp [encR, ints]
  · (try simp only [decide_eq_true_eq, decide_eq_false_iff_not, Bool.not_eq_true', Bool.not_eq_false', Bool.not_true, Bool.not_false, Bool.or_eq_true, Bool.and_eq_true, Int.not_lt, Int.not_le] at ht6)
    rw [if_neg (by omega)] at he
    cases he
    refine at_exit ?_
    refine at_then_x ?_
    refine at_then_x ?_
    refine at_inb_exit ?_
    exact fin_n rfl (by
        exact ⟨rfl, _, rfl⟩)

/-- An encoder in memory. -/
def encH (b : Nat) (dv : Value) (c : Cd) : Hp := encR b dv (be (c.k - 4) (c.n / 4294967296)) ((c.n % 4294967296 : Nat) : Int) (c.r : Int)
theorem grow_one {k : Nat} {c : Cd} (h4 : 4 ≤ c.k) (hr : c.r < 16777216) (hk : c.k < 70000000000000) : grow (k + 1) (be (c.k - 4) (c.n / 4294967296)) ((c.n % 4294967296 : Nat) : Int) (c.r : Int) = grow k (be (c.k + 1 - 4) (c.n * 256 / 4294967296)) ((c.n * 256 % 4294967296 : Nat) : Int) ((c.r * 256 : Nat) : Int) := by
  rw [grow, if_pos (by omega), if_pos ⟨by omega, by omega, by omega, by rw [be_len]; omega⟩]
  rw [show c.k + 1 - 4 = (c.k - 4) + 1 by omega, be]
  congr 1
  · rw [show c.n * 256 / 4294967296 / 256 = c.n / 4294967296 by omega]
    congr 2
    omega
  · omega
theorem grow_all {c : Cd} (h4 : 4 ≤ c.k) (hr : 256 ≤ c.r) (hk : c.k < 60000000000000) : grow 3 (be (c.k - 4) (c.n / 4294967296)) ((c.n % 4294967296 : Nat) : Int) (c.r : Int) = some (be ((growC c).k - 4) ((growC c).n / 4294967296), (((growC c).n % 4294967296 : Nat) : Int), ((growC c).r : Int)) := by
  unfold growC
  by_cases h1 : c.r < 65536
  · rw [if_pos h1, grow_one h4 (by omega) (by omega)]
    have h2 := grow_one (k := 1) (c := ⟨c.k + 1, c.n * 256, c.r * 256⟩) (by simp only; omega) (by simp only; omega) (by simp only; omega)
    simp only at h2
    rw [h2, grow, if_neg (by omega)]
    simp only [Nat.mul_assoc]
  · rw [if_neg h1]
    by_cases h2 : c.r < 16777216
    · rw [if_pos h2, grow_one h4 (by omega) (by omega), grow, if_neg (by omega)]
    · rw [if_neg h2, grow, if_neg (by omega)]
theorem growE_calls (b : Nat) (dv : Value) (c : Cd) (F : Frm) (h4 : 4 ≤ c.k) (hr : 256 ≤ c.r) (hk : c.k < 60000000000000) :
    SC Try.prog 57 #[.pointer (some ⟨b, 0, none⟩)] (encH b dv c) F (fun v H => v = .tuple #[] ∧ ∃ dv', H = encH b dv' (growC c)) :=
  grow_calls 3 b dv _ _ _ F _ _ _ (grow_all h4 hr hk)

theorem more_calls (b : Nat) (dv : Value) (c : Cd) (m : Nat) (F : Frm) (h5 : 5 ≤ c.k) (hn : (c.n + m) / 4294967296 < 256 ^ (c.k - 4)) (hm : m < 4294967296) (hk : c.k < 60000000000000) :
    SC Try.prog 56 #[.pointer (some ⟨b, 0, none⟩), U m] (encH b dv c) F (fun v H => v = .tuple #[] ∧ H = encH b dv ⟨c.k, c.n + m, c.r⟩) := by
  unfold encH encR
  simp only [be_len]
  obtain ⟨z, hz⟩ : ∃ z, c.k - 4 = z + 1 := ⟨c.k - 5, by omega⟩
  rw [hz] at hn ⊢
  have hlow : ((c.n % 4294967296 : Nat) : Int) + (m : Int) = ((c.n % 4294967296 + m : Nat) : Int) := by omega
  refine sc_in (args := [.pointer (some ⟨b, 0, none⟩), U m]) Try.func56 rfl rfl (Nat.le_of_ble_eq_true rfl) ?_
  refine at_ks [0, 1, 4, 17, 38] (by (try simp only [keep, lk, pd, enumE, Nat.reduceBEq, Nat.reduceAdd, cond_true, cond_false]); exact rfl) ?_
  refine at_seq ?_
  refine at_region ?_
  refine st_p rfl rfl (p_move rfl) ?_
  refine st_p rfl rfl ((by first | exact p_nil rfl | exact p_nilf rfl)) ?_
  refine st_p rfl rfl ((by first | exact p_fa0 rfl o_106_1 | exact p_fa rfl o_106_1)) ?_
  refine st_q rfl rfl ((by first | exact q_ob 0 rfl rfl r_52 (by first | rfl | assumption) | exact q_ob 1 rfl rfl r_52 (by first | rfl | assumption) | exact q_ob 2 rfl rfl r_52 (by first | rfl | assumption) | exact q_ob 3 rfl rfl r_52 (by first | rfl | assumption) | exact q_ob 4 rfl rfl r_52 (by first | rfl | assumption) | exact q_ob 5 rfl rfl r_52 (by first | rfl | assumption) | exact q_sl 0 rfl rfl r_52 (by first | rfl | assumption) | exact q_sl 1 rfl rfl r_52 (by first | rfl | assumption) | exact q_sl 2 rfl rfl r_52 (by first | rfl | assumption) | exact q_sl 3 rfl rfl r_52 (by first | rfl | assumption) | exact q_sl 4 rfl rfl r_52 (by first | rfl | assumption) | exact q_sl 5 rfl rfl r_52 (by first | rfl | assumption) | exact q_fr rfl r_52 (by assumption))) ?_
  refine st_p rfl rfl (p_move rfl) ?_
  refine st_p rfl rfl (p_add (r := ((c.n % 4294967296 + m : Nat) : Int)) rfl rfl ((nwu64 (by omega)).trans hlow)) ?_
  refine st_p rfl rfl ((by first | exact p_nil rfl | exact p_nilf rfl)) ?_
  refine st_p rfl rfl ((by first | exact p_fa0 rfl o_106_1 | exact p_fa rfl o_106_1)) ?_
  refine st_l rfl rfl ((by first | exact l_ob 0 rfl rfl rfl (by first | rfl | assumption) (by first | rfl | assumption) s_52 (by first | decide | omega | (simp only [List.length_cons, List.length_nil]; omega) | (simp; omega) | (simp; done)) | exact l_ob 1 rfl rfl rfl (by first | rfl | assumption) (by first | rfl | assumption) s_52 (by first | decide | omega | (simp only [List.length_cons, List.length_nil]; omega) | (simp; omega) | (simp; done)) | exact l_ob 2 rfl rfl rfl (by first | rfl | assumption) (by first | rfl | assumption) s_52 (by first | decide | omega | (simp only [List.length_cons, List.length_nil]; omega) | (simp; omega) | (simp; done)) | exact l_ob 3 rfl rfl rfl (by first | rfl | assumption) (by first | rfl | assumption) s_52 (by first | decide | omega | (simp only [List.length_cons, List.length_nil]; omega) | (simp; omega) | (simp; done)) | exact l_ob 4 rfl rfl rfl (by first | rfl | assumption) (by first | rfl | assumption) s_52 (by first | decide | omega | (simp only [List.length_cons, List.length_nil]; omega) | (simp; omega) | (simp; done)) | exact l_ob 5 rfl rfl rfl (by first | rfl | assumption) (by first | rfl | assumption) s_52 (by first | decide | omega | (simp only [List.length_cons, List.length_nil]; omega) | (simp; omega) | (simp; done)) | exact l_sl 0 rfl rfl rfl (by first | rfl | assumption) (by first | rfl | assumption) s_52 (by first | decide | omega | (simp only [List.length_cons, List.length_nil]; omega) | (simp; omega) | (simp; done)) | exact l_sl 1 rfl rfl rfl (by first | rfl | assumption) (by first | rfl | assumption) s_52 (by first | decide | omega | (simp only [List.length_cons, List.length_nil]; omega) | (simp; omega) | (simp; done)) | exact l_sl 2 rfl rfl rfl (by first | rfl | assumption) (by first | rfl | assumption) s_52 (by first | decide | omega | (simp only [List.length_cons, List.length_nil]; omega) | (simp; omega) | (simp; done)) | exact l_sl 3 rfl rfl rfl (by first | rfl | assumption) (by first | rfl | assumption) s_52 (by first | decide | omega | (simp only [List.length_cons, List.length_nil]; omega) | (simp; omega) | (simp; done)) | exact l_sl 4 rfl rfl rfl (by first | rfl | assumption) (by first | rfl | assumption) s_52 (by first | decide | omega | (simp only [List.length_cons, List.length_nil]; omega) | (simp; omega) | (simp; done)) | exact l_sl 5 rfl rfl rfl (by first | rfl | assumption) (by first | rfl | assumption) s_52 (by first | decide | omega | (simp only [List.length_cons, List.length_nil]; omega) | (simp; omega) | (simp; done)))) ?_
  rintro _ _ ⟨rfl, rfl⟩
  refine at_hp (by (try simp only [List.take_zero, List.take_succ_cons, List.drop_zero, List.drop_succ_cons, List.drop_nil, List.length_cons, List.length_nil, Nat.zero_add, Nat.reduceAdd, List.set_cons_zero, List.set_cons_succ, List.nil_append, List.cons_append, List.append_nil, pick, List.filterMap_cons, List.filterMap_nil, List.getElem?_cons_zero, List.getElem?_cons_succ]); exact rfl) ?_
  refine at_nil ?_
  refine at_ks [0, 1, 4, 17, 38] (by (try simp only [keep, lk, pd, enumE, Nat.reduceBEq, Nat.reduceAdd, cond_true, cond_false]); exact rfl) ?_
  refine at_then ?_
  refine at_seq ?_
  refine at_seq ?_
  refine at_region ?_
  refine st_p rfl rfl (p_move rfl) ?_
  refine st_p rfl rfl ((by first | exact p_nil rfl | exact p_nilf rfl)) ?_
  refine st_p rfl rfl ((by first | exact p_fa0 rfl o_106_1 | exact p_fa rfl o_106_1)) ?_
  refine st_q rfl rfl ((by first | exact q_ob 0 rfl rfl r_52 (by first | rfl | assumption) | exact q_ob 1 rfl rfl r_52 (by first | rfl | assumption) | exact q_ob 2 rfl rfl r_52 (by first | rfl | assumption) | exact q_ob 3 rfl rfl r_52 (by first | rfl | assumption) | exact q_ob 4 rfl rfl r_52 (by first | rfl | assumption) | exact q_ob 5 rfl rfl r_52 (by first | rfl | assumption) | exact q_sl 0 rfl rfl r_52 (by first | rfl | assumption) | exact q_sl 1 rfl rfl r_52 (by first | rfl | assumption) | exact q_sl 2 rfl rfl r_52 (by first | rfl | assumption) | exact q_sl 3 rfl rfl r_52 (by first | rfl | assumption) | exact q_sl 4 rfl rfl r_52 (by first | rfl | assumption) | exact q_sl 5 rfl rfl r_52 (by first | rfl | assumption) | exact q_fr rfl r_52 (by assumption))) ?_
  refine st_p rfl rfl (p_leq rfl rfl) ?_
  refine at_nil ?_
  refine at_ks [0, 1, 4, 17, 38] (by (try simp only [keep, lk, pd, enumE, Nat.reduceBEq, Nat.reduceAdd, cond_true, cond_false]); exact rfl) ?_
  refine at_then ?_
  refine at_cond rfl (fun ht17 => ?_) (fun ht17 => ?_)
  · (try simp only [decide_eq_true_eq, decide_eq_false_iff_not, Bool.not_eq_true', Bool.not_eq_false', Bool.not_true, Bool.not_false, Bool.or_eq_true, Bool.and_eq_true, Int.not_lt, Int.not_le] at ht17)
    refine at_retc ?_
    refine at_then_r ?_
    exact fin_0 rfl (by
        exact ⟨rfl, by rw [show (c.n + m) / 4294967296 = c.n / 4294967296 by omega, show (c.n + m) % 4294967296 = c.n % 4294967296 + m by omega]⟩)
  · (try simp only [decide_eq_true_eq, decide_eq_false_iff_not, Bool.not_eq_true', Bool.not_eq_false', Bool.not_true, Bool.not_false, Bool.or_eq_true, Bool.and_eq_true, Int.not_lt, Int.not_le] at ht17)
    have hM : (c.n + m) / 4294967296 = c.n / 4294967296 + 1 := by omega
    rw [hM] at hn
    refine at_skip ?_
    refine at_then ?_
    refine at_seq ?_
    refine at_region ?_
    refine st_p rfl rfl (p_move rfl) ?_
    refine st_p rfl rfl ((by first | exact p_nil rfl | exact p_nilf rfl)) ?_
    refine st_p rfl rfl ((by first | exact p_fa0 rfl o_106_1 | exact p_fa rfl o_106_1)) ?_
    refine st_q rfl rfl ((by first | exact q_ob 0 rfl rfl r_52 (by first | rfl | assumption) | exact q_ob 1 rfl rfl r_52 (by first | rfl | assumption) | exact q_ob 2 rfl rfl r_52 (by first | rfl | assumption) | exact q_ob 3 rfl rfl r_52 (by first | rfl | assumption) | exact q_ob 4 rfl rfl r_52 (by first | rfl | assumption) | exact q_ob 5 rfl rfl r_52 (by first | rfl | assumption) | exact q_sl 0 rfl rfl r_52 (by first | rfl | assumption) | exact q_sl 1 rfl rfl r_52 (by first | rfl | assumption) | exact q_sl 2 rfl rfl r_52 (by first | rfl | assumption) | exact q_sl 3 rfl rfl r_52 (by first | rfl | assumption) | exact q_sl 4 rfl rfl r_52 (by first | rfl | assumption) | exact q_sl 5 rfl rfl r_52 (by first | rfl | assumption) | exact q_fr rfl r_52 (by assumption))) ?_
    refine st_p rfl rfl (p_and (r := (((c.n + m) % 4294967296 : Nat) : Int)) rfl rfl ((and32 (by omega) (by omega)).trans (by omega))) ?_
    refine st_p rfl rfl ((by first | exact p_nil rfl | exact p_nilf rfl)) ?_
    refine st_p rfl rfl ((by first | exact p_fa0 rfl o_106_1 | exact p_fa rfl o_106_1)) ?_
    refine st_l rfl rfl ((by first | exact l_ob 0 rfl rfl rfl (by first | rfl | assumption) (by first | rfl | assumption) s_52 (by first | decide | omega | (simp only [List.length_cons, List.length_nil]; omega) | (simp; omega) | (simp; done)) | exact l_ob 1 rfl rfl rfl (by first | rfl | assumption) (by first | rfl | assumption) s_52 (by first | decide | omega | (simp only [List.length_cons, List.length_nil]; omega) | (simp; omega) | (simp; done)) | exact l_ob 2 rfl rfl rfl (by first | rfl | assumption) (by first | rfl | assumption) s_52 (by first | decide | omega | (simp only [List.length_cons, List.length_nil]; omega) | (simp; omega) | (simp; done)) | exact l_ob 3 rfl rfl rfl (by first | rfl | assumption) (by first | rfl | assumption) s_52 (by first | decide | omega | (simp only [List.length_cons, List.length_nil]; omega) | (simp; omega) | (simp; done)) | exact l_ob 4 rfl rfl rfl (by first | rfl | assumption) (by first | rfl | assumption) s_52 (by first | decide | omega | (simp only [List.length_cons, List.length_nil]; omega) | (simp; omega) | (simp; done)) | exact l_ob 5 rfl rfl rfl (by first | rfl | assumption) (by first | rfl | assumption) s_52 (by first | decide | omega | (simp only [List.length_cons, List.length_nil]; omega) | (simp; omega) | (simp; done)) | exact l_sl 0 rfl rfl rfl (by first | rfl | assumption) (by first | rfl | assumption) s_52 (by first | decide | omega | (simp only [List.length_cons, List.length_nil]; omega) | (simp; omega) | (simp; done)) | exact l_sl 1 rfl rfl rfl (by first | rfl | assumption) (by first | rfl | assumption) s_52 (by first | decide | omega | (simp only [List.length_cons, List.length_nil]; omega) | (simp; omega) | (simp; done)) | exact l_sl 2 rfl rfl rfl (by first | rfl | assumption) (by first | rfl | assumption) s_52 (by first | decide | omega | (simp only [List.length_cons, List.length_nil]; omega) | (simp; omega) | (simp; done)) | exact l_sl 3 rfl rfl rfl (by first | rfl | assumption) (by first | rfl | assumption) s_52 (by first | decide | omega | (simp only [List.length_cons, List.length_nil]; omega) | (simp; omega) | (simp; done)) | exact l_sl 4 rfl rfl rfl (by first | rfl | assumption) (by first | rfl | assumption) s_52 (by first | decide | omega | (simp only [List.length_cons, List.length_nil]; omega) | (simp; omega) | (simp; done)) | exact l_sl 5 rfl rfl rfl (by first | rfl | assumption) (by first | rfl | assumption) s_52 (by first | decide | omega | (simp only [List.length_cons, List.length_nil]; omega) | (simp; omega) | (simp; done)))) ?_
    rintro _ _ ⟨rfl, rfl⟩
    refine at_hp (by (try simp only [List.take_zero, List.take_succ_cons, List.drop_zero, List.drop_succ_cons, List.drop_nil, List.length_cons, List.length_nil, Nat.zero_add, Nat.reduceAdd, List.set_cons_zero, List.set_cons_succ, List.nil_append, List.cons_append, List.append_nil, pick, List.filterMap_cons, List.filterMap_nil, List.getElem?_cons_zero, List.getElem?_cons_succ]); exact rfl) ?_
    refine at_nil ?_
    refine at_ks [0, 1, 4, 17, 38] (by (try simp only [keep, lk, pd, enumE, Nat.reduceBEq, Nat.reduceAdd, cond_true, cond_false]); exact rfl) ?_
    refine at_then ?_
    refine at_seq ?_
    refine at_row 1 rfl (by omega) fun g cp hdv hcp => ?_
    subst hdv
    refine at_region ?_
    refine st_p rfl rfl (p_move rfl) ?_
    refine st_p rfl rfl ((by first | exact p_nil rfl | exact p_nilf rfl)) ?_
    refine st_p rfl rfl ((by first | exact p_fa0 rfl o_106_0 | exact p_fa rfl o_106_0)) ?_
    refine st_q rfl rfl ((by first | exact q_ob 0 rfl rfl r_46 (by first | rfl | assumption) | exact q_ob 1 rfl rfl r_46 (by first | rfl | assumption) | exact q_ob 2 rfl rfl r_46 (by first | rfl | assumption) | exact q_ob 3 rfl rfl r_46 (by first | rfl | assumption) | exact q_ob 4 rfl rfl r_46 (by first | rfl | assumption) | exact q_ob 5 rfl rfl r_46 (by first | rfl | assumption) | exact q_sl 0 rfl rfl r_46 (by first | rfl | assumption) | exact q_sl 1 rfl rfl r_46 (by first | rfl | assumption) | exact q_sl 2 rfl rfl r_46 (by first | rfl | assumption) | exact q_sl 3 rfl rfl r_46 (by first | rfl | assumption) | exact q_sl 4 rfl rfl r_46 (by first | rfl | assumption) | exact q_sl 5 rfl rfl r_46 (by first | rfl | assumption) | exact q_fr rfl r_46 (by assumption))) ?_
    refine st_p rfl rfl (p_len rfl m_46) ?_
    refine st_p rfl rfl (p_sub rfl rfl (by first | exact nw64 (by omega) | exact nwu64 (by omega) | exact nwu8 (by omega) | exact nwu16 (by omega) | exact wu64 _ | exact wu8 _ | exact wi64 _ | rfl)) ?_
    refine st_p rfl rfl (p_assign rfl) ?_
    refine at_nil ?_
    refine at_ks [0, 1, 4, 17, 38] (by (try simp only [keep, lk, pd, enumE, Nat.reduceBEq, Nat.reduceAdd, cond_true, cond_false]); exact rfl) ?_
    refine at_then ?_
    refine at_seq ?_
    refine at_block ?_
    refine at_ks [0, 4] (by (try simp only [keep, lk, pd, enumE, Nat.reduceBEq, Nat.reduceAdd, cond_true, cond_false]); exact rfl) ?_
    refine at_loop (fun kq E H => ∃ (i X w : Nat), E = [(0, .pointer (some ⟨b, 0, none⟩)), (4, N (i : Int))] ∧ H = [.ob b [.slice (some ⟨g, 0, none⟩) (z + 1) cp, .int .u64 (((c.n + m) % 4294967296 : Nat) : Int), .int .u64 (c.r : Int)] 106, .sl (.slice (some ⟨g, 0, none⟩) (z + 1) cp) 5 1 (z + 1) (ints .u8 (be (i + 1) X ++ List.replicate w 0))] ∧ z = i + w ∧ kq = i + 1 ∧ X + 1 < 256 ^ (i + 1) ∧ be (i + 1) (X + 1) ++ List.replicate w 0 = be (z + 1) (c.n / 4294967296 + 1)) (z + 1) (⟨z, c.n / 4294967296, 0, by simp, by simp, by omega, rfl, hn, by simp⟩) ?_
    rintro kq _ _ ⟨i, X, w, rfl, rfl, hw, rfl, hX, hE⟩
    have hl : (ints .u8 (be (i + 1) X ++ List.replicate w 0)).length = z + 1 := by simp [be_len]; omega
    have hget : (ints .u8 (be (i + 1) X ++ List.replicate w 0))[((i : Nat) : Int).toNat]? = some (.int .u8 ((X % 256 : Nat) : Int)) := by
      rw [Int.toNat_natCast, List.getElem?_map, at_last]; rfl
    refine at_seq ?_
    refine at_seq ?_
    refine at_region ?_
    refine st_p rfl rfl (p_move rfl) ?_
    refine st_p rfl rfl ((by first | exact p_nil rfl | exact p_nilf rfl)) ?_
    refine st_p rfl rfl ((by first | exact p_fa0 rfl o_106_0 | exact p_fa rfl o_106_0)) ?_
    refine st_q rfl rfl ((by first | exact q_ob 0 rfl rfl r_46 (by first | rfl | assumption) | exact q_ob 1 rfl rfl r_46 (by first | rfl | assumption) | exact q_ob 2 rfl rfl r_46 (by first | rfl | assumption) | exact q_ob 3 rfl rfl r_46 (by first | rfl | assumption) | exact q_ob 4 rfl rfl r_46 (by first | rfl | assumption) | exact q_ob 5 rfl rfl r_46 (by first | rfl | assumption) | exact q_sl 0 rfl rfl r_46 (by first | rfl | assumption) | exact q_sl 1 rfl rfl r_46 (by first | rfl | assumption) | exact q_sl 2 rfl rfl r_46 (by first | rfl | assumption) | exact q_sl 3 rfl rfl r_46 (by first | rfl | assumption) | exact q_sl 4 rfl rfl r_46 (by first | rfl | assumption) | exact q_sl 5 rfl rfl r_46 (by first | rfl | assumption) | exact q_fr rfl r_46 (by assumption))) ?_
    refine st_p rfl rfl (p_move rfl) ?_
    refine st_p rfl rfl ((by first | exact p_ia1 rfl rfl z_46 (by first | decide | omega) (by first | decide | omega) | exact p_iaN rfl rfl z_46 (by first | decide | omega) (by first | decide | omega) | exact p_iaO1 rfl rfl z_46 (by first | decide | omega) (by first | decide | omega) | exact p_iaO rfl rfl z_46 (by first | decide | omega) (by first | decide | omega))) ?_
    refine st_q rfl rfl (q_sl 1 rfl rfl r_5 hget) ?_
    refine st_p rfl rfl (p_eql rfl rfl) ?_
    refine at_nil ?_
    refine at_ks [0, 1, 4, 17, 38] (by (try simp only [keep, lk, pd, enumE, Nat.reduceBEq, Nat.reduceAdd, cond_true, cond_false]); exact rfl) ?_
    refine at_then ?_
    refine at_cond rfl (fun ht38 => ?_) (fun ht38 => ?_)
    · (try simp only [decide_eq_true_eq, decide_eq_false_iff_not, Bool.not_eq_true', Bool.not_eq_false', Bool.not_true, Bool.not_false, Bool.or_eq_true, Bool.and_eq_true, Int.not_lt, Int.not_le] at ht38)
      have h255 : X % 256 = 255 := by omega
      have hi0 : i ≠ 0 := by
        rintro rfl
        simp at hX; omega
      obtain ⟨i, rfl⟩ : ∃ q, i = q + 1 := ⟨i - 1, by omega⟩
      refine at_skip ?_
      refine at_then ?_
      refine at_seq ?_
      refine at_block ?_
      refine at_region ?_
      refine st_p rfl rfl (p_move rfl) ?_
      refine st_p rfl rfl ((by first | exact p_nil rfl | exact p_nilf rfl)) ?_
      refine st_p rfl rfl ((by first | exact p_fa0 rfl o_106_0 | exact p_fa rfl o_106_0)) ?_
      refine st_q rfl rfl ((by first | exact q_ob 0 rfl rfl r_46 (by first | rfl | assumption) | exact q_ob 1 rfl rfl r_46 (by first | rfl | assumption) | exact q_ob 2 rfl rfl r_46 (by first | rfl | assumption) | exact q_ob 3 rfl rfl r_46 (by first | rfl | assumption) | exact q_ob 4 rfl rfl r_46 (by first | rfl | assumption) | exact q_ob 5 rfl rfl r_46 (by first | rfl | assumption) | exact q_sl 0 rfl rfl r_46 (by first | rfl | assumption) | exact q_sl 1 rfl rfl r_46 (by first | rfl | assumption) | exact q_sl 2 rfl rfl r_46 (by first | rfl | assumption) | exact q_sl 3 rfl rfl r_46 (by first | rfl | assumption) | exact q_sl 4 rfl rfl r_46 (by first | rfl | assumption) | exact q_sl 5 rfl rfl r_46 (by first | rfl | assumption) | exact q_fr rfl r_46 (by assumption))) ?_
      refine st_p rfl rfl (p_move rfl) ?_
      refine st_p rfl rfl ((by first | exact p_ia1 rfl rfl z_46 (by first | decide | omega) (by first | decide | omega) | exact p_iaN rfl rfl z_46 (by first | decide | omega) (by first | decide | omega) | exact p_iaO1 rfl rfl z_46 (by first | decide | omega) (by first | decide | omega) | exact p_iaO rfl rfl z_46 (by first | decide | omega) (by first | decide | omega))) ?_
      refine st_l rfl rfl ((by first | exact l_ob 0 rfl rfl rfl (by first | rfl | assumption) (by first | rfl | assumption) s_5 (by first | decide | omega | (simp only [List.length_cons, List.length_nil]; omega) | (simp; omega) | (simp; done)) | exact l_ob 1 rfl rfl rfl (by first | rfl | assumption) (by first | rfl | assumption) s_5 (by first | decide | omega | (simp only [List.length_cons, List.length_nil]; omega) | (simp; omega) | (simp; done)) | exact l_ob 2 rfl rfl rfl (by first | rfl | assumption) (by first | rfl | assumption) s_5 (by first | decide | omega | (simp only [List.length_cons, List.length_nil]; omega) | (simp; omega) | (simp; done)) | exact l_ob 3 rfl rfl rfl (by first | rfl | assumption) (by first | rfl | assumption) s_5 (by first | decide | omega | (simp only [List.length_cons, List.length_nil]; omega) | (simp; omega) | (simp; done)) | exact l_ob 4 rfl rfl rfl (by first | rfl | assumption) (by first | rfl | assumption) s_5 (by first | decide | omega | (simp only [List.length_cons, List.length_nil]; omega) | (simp; omega) | (simp; done)) | exact l_ob 5 rfl rfl rfl (by first | rfl | assumption) (by first | rfl | assumption) s_5 (by first | decide | omega | (simp only [List.length_cons, List.length_nil]; omega) | (simp; omega) | (simp; done)) | exact l_sl 0 rfl rfl rfl (by first | rfl | assumption) (by first | rfl | assumption) s_5 (by first | decide | omega | (simp only [List.length_cons, List.length_nil]; omega) | (simp; omega) | (simp; done)) | exact l_sl 1 rfl rfl rfl (by first | rfl | assumption) (by first | rfl | assumption) s_5 (by first | decide | omega | (simp only [List.length_cons, List.length_nil]; omega) | (simp; omega) | (simp; done)) | exact l_sl 2 rfl rfl rfl (by first | rfl | assumption) (by first | rfl | assumption) s_5 (by first | decide | omega | (simp only [List.length_cons, List.length_nil]; omega) | (simp; omega) | (simp; done)) | exact l_sl 3 rfl rfl rfl (by first | rfl | assumption) (by first | rfl | assumption) s_5 (by first | decide | omega | (simp only [List.length_cons, List.length_nil]; omega) | (simp; omega) | (simp; done)) | exact l_sl 4 rfl rfl rfl (by first | rfl | assumption) (by first | rfl | assumption) s_5 (by first | decide | omega | (simp only [List.length_cons, List.length_nil]; omega) | (simp; omega) | (simp; done)) | exact l_sl 5 rfl rfl rfl (by first | rfl | assumption) (by first | rfl | assumption) s_5 (by first | decide | omega | (simp only [List.length_cons, List.length_nil]; omega) | (simp; omega) | (simp; done)))) ?_
      rintro _ _ ⟨rfl, rfl⟩
      refine at_hp (by (try simp only [List.take_zero, List.take_succ_cons, List.drop_zero, List.drop_succ_cons, List.drop_nil, List.length_cons, List.length_nil, Nat.zero_add, Nat.reduceAdd, List.set_cons_zero, List.set_cons_succ, List.nil_append, List.cons_append, List.append_nil, pick, List.filterMap_cons, List.filterMap_nil, List.getElem?_cons_zero, List.getElem?_cons_succ]); exact rfl) ?_
      refine at_nil ?_
      refine at_ks [0, 1, 4, 17, 38] (by (try simp only [keep, lk, pd, enumE, Nat.reduceBEq, Nat.reduceAdd, cond_true, cond_false]); exact rfl) ?_
      refine at_inb ?_
      refine at_then ?_
      refine at_region ?_
      refine st_p rfl rfl (p_move rfl) ?_
      refine st_p rfl rfl (p_sub rfl rfl (by first | exact nw64 (by omega) | exact nwu64 (by omega) | exact nwu8 (by omega) | exact nwu16 (by omega) | exact wu64 _ | exact wu8 _ | exact wi64 _ | rfl)) ?_
      refine st_p rfl rfl (p_assign rfl) ?_
      refine at_nil ?_
      refine at_ks [0, 1, 4, 17, 38] (by (try simp only [keep, lk, pd, enumE, Nat.reduceBEq, Nat.reduceAdd, cond_true, cond_false]); exact rfl) ?_
      refine at_ks [0, 4] (by (try simp only [keep, lk, pd, enumE, Nat.reduceBEq, Nat.reduceAdd, cond_true, cond_false]); exact rfl) ?_
      refine at_back (i + 1) (by omega) ⟨i, X / 256, w + 1, by simp, ?_, by omega, rfl, ?_, ?_⟩
      · rw [Int.toNat_natCast, ← List.map_set, set_last]
        simp [List.replicate_succ]
      · rw [Nat.pow_succ] at hX; omega
      · rw [be_carry _ _ h255] at hE
        rw [← hE]; simp [List.replicate_succ]
    · (try simp only [decide_eq_true_eq, decide_eq_false_iff_not, Bool.not_eq_true', Bool.not_eq_false', Bool.not_true, Bool.not_false, Bool.or_eq_true, Bool.and_eq_true, Int.not_lt, Int.not_le] at ht38)
      have h255 : X % 256 ≠ 255 := by omega
      rw [be_next i X h255] at hE
      refine at_exit ?_
      refine at_then_x ?_
      refine at_then_x ?_
      refine at_inb_exit ?_
      refine at_then ?_
      refine at_region ?_
      refine st_p rfl rfl (p_move rfl) ?_
      refine st_p rfl rfl ((by first | exact p_nil rfl | exact p_nilf rfl)) ?_
      refine st_p rfl rfl ((by first | exact p_fa0 rfl o_106_0 | exact p_fa rfl o_106_0)) ?_
      refine st_q rfl rfl ((by first | exact q_ob 0 rfl rfl r_46 (by first | rfl | assumption) | exact q_ob 1 rfl rfl r_46 (by first | rfl | assumption) | exact q_ob 2 rfl rfl r_46 (by first | rfl | assumption) | exact q_ob 3 rfl rfl r_46 (by first | rfl | assumption) | exact q_ob 4 rfl rfl r_46 (by first | rfl | assumption) | exact q_ob 5 rfl rfl r_46 (by first | rfl | assumption) | exact q_sl 0 rfl rfl r_46 (by first | rfl | assumption) | exact q_sl 1 rfl rfl r_46 (by first | rfl | assumption) | exact q_sl 2 rfl rfl r_46 (by first | rfl | assumption) | exact q_sl 3 rfl rfl r_46 (by first | rfl | assumption) | exact q_sl 4 rfl rfl r_46 (by first | rfl | assumption) | exact q_sl 5 rfl rfl r_46 (by first | rfl | assumption) | exact q_fr rfl r_46 (by assumption))) ?_
      refine st_p rfl rfl (p_move rfl) ?_
      refine st_p rfl rfl ((by first | exact p_ia1 rfl rfl z_46 (by first | decide | omega) (by first | decide | omega) | exact p_iaN rfl rfl z_46 (by first | decide | omega) (by first | decide | omega) | exact p_iaO1 rfl rfl z_46 (by first | decide | omega) (by first | decide | omega) | exact p_iaO rfl rfl z_46 (by first | decide | omega) (by first | decide | omega))) ?_
      refine st_q rfl rfl ((by first | exact q_ob 0 rfl rfl r_5 (by first | rfl | assumption) | exact q_ob 1 rfl rfl r_5 (by first | rfl | assumption) | exact q_ob 2 rfl rfl r_5 (by first | rfl | assumption) | exact q_ob 3 rfl rfl r_5 (by first | rfl | assumption) | exact q_ob 4 rfl rfl r_5 (by first | rfl | assumption) | exact q_ob 5 rfl rfl r_5 (by first | rfl | assumption) | exact q_sl 0 rfl rfl r_5 (by first | rfl | assumption) | exact q_sl 1 rfl rfl r_5 (by first | rfl | assumption) | exact q_sl 2 rfl rfl r_5 (by first | rfl | assumption) | exact q_sl 3 rfl rfl r_5 (by first | rfl | assumption) | exact q_sl 4 rfl rfl r_5 (by first | rfl | assumption) | exact q_sl 5 rfl rfl r_5 (by first | rfl | assumption) | exact q_fr rfl r_5 (by assumption))) ?_
      refine st_p rfl rfl (p_add rfl rfl (by first | exact nw64 (by omega) | exact nwu64 (by omega) | exact nwu8 (by omega) | exact nwu16 (by omega) | exact wu64 _ | exact wu8 _ | exact wi64 _ | rfl)) ?_
      refine st_p rfl rfl ((by first | exact p_ia1 rfl rfl z_46 (by first | decide | omega) (by first | decide | omega) | exact p_iaN rfl rfl z_46 (by first | decide | omega) (by first | decide | omega) | exact p_iaO1 rfl rfl z_46 (by first | decide | omega) (by first | decide | omega) | exact p_iaO rfl rfl z_46 (by first | decide | omega) (by first | decide | omega))) ?_
      refine st_l rfl rfl ((by first | exact l_ob 0 rfl rfl rfl (by first | rfl | assumption) (by first | rfl | assumption) s_5 (by first | decide | omega | (simp only [List.length_cons, List.length_nil]; omega) | (simp; omega) | (simp; done)) | exact l_ob 1 rfl rfl rfl (by first | rfl | assumption) (by first | rfl | assumption) s_5 (by first | decide | omega | (simp only [List.length_cons, List.length_nil]; omega) | (simp; omega) | (simp; done)) | exact l_ob 2 rfl rfl rfl (by first | rfl | assumption) (by first | rfl | assumption) s_5 (by first | decide | omega | (simp only [List.length_cons, List.length_nil]; omega) | (simp; omega) | (simp; done)) | exact l_ob 3 rfl rfl rfl (by first | rfl | assumption) (by first | rfl | assumption) s_5 (by first | decide | omega | (simp only [List.length_cons, List.length_nil]; omega) | (simp; omega) | (simp; done)) | exact l_ob 4 rfl rfl rfl (by first | rfl | assumption) (by first | rfl | assumption) s_5 (by first | decide | omega | (simp only [List.length_cons, List.length_nil]; omega) | (simp; omega) | (simp; done)) | exact l_ob 5 rfl rfl rfl (by first | rfl | assumption) (by first | rfl | assumption) s_5 (by first | decide | omega | (simp only [List.length_cons, List.length_nil]; omega) | (simp; omega) | (simp; done)) | exact l_sl 0 rfl rfl rfl (by first | rfl | assumption) (by first | rfl | assumption) s_5 (by first | decide | omega | (simp only [List.length_cons, List.length_nil]; omega) | (simp; omega) | (simp; done)) | exact l_sl 1 rfl rfl rfl (by first | rfl | assumption) (by first | rfl | assumption) s_5 (by first | decide | omega | (simp only [List.length_cons, List.length_nil]; omega) | (simp; omega) | (simp; done)) | exact l_sl 2 rfl rfl rfl (by first | rfl | assumption) (by first | rfl | assumption) s_5 (by first | decide | omega | (simp only [List.length_cons, List.length_nil]; omega) | (simp; omega) | (simp; done)) | exact l_sl 3 rfl rfl rfl (by first | rfl | assumption) (by first | rfl | assumption) s_5 (by first | decide | omega | (simp only [List.length_cons, List.length_nil]; omega) | (simp; omega) | (simp; done)) | exact l_sl 4 rfl rfl rfl (by first | rfl | assumption) (by first | rfl | assumption) s_5 (by first | decide | omega | (simp only [List.length_cons, List.length_nil]; omega) | (simp; omega) | (simp; done)) | exact l_sl 5 rfl rfl rfl (by first | rfl | assumption) (by first | rfl | assumption) s_5 (by first | decide | omega | (simp only [List.length_cons, List.length_nil]; omega) | (simp; omega) | (simp; done)))) ?_
      rintro _ _ ⟨rfl, rfl⟩
      refine at_hp (by (try simp only [List.take_zero, List.take_succ_cons, List.drop_zero, List.drop_succ_cons, List.drop_nil, List.length_cons, List.length_nil, Nat.zero_add, Nat.reduceAdd, List.set_cons_zero, List.set_cons_succ, List.nil_append, List.cons_append, List.append_nil, pick, List.filterMap_cons, List.filterMap_nil, List.getElem?_cons_zero, List.getElem?_cons_succ]); exact rfl) ?_
      refine at_nil ?_
      refine at_ks [0, 1, 4, 17, 38] (by (try simp only [keep, lk, pd, enumE, Nat.reduceBEq, Nat.reduceAdd, cond_true, cond_false]); exact rfl) ?_
      exact fin_n rfl (by
          refine ⟨rfl, ?_⟩
          rw [Int.toNat_natCast, ← List.map_set, set_last, hM, ← hE]
          simp)

theorem share_calls (r : Nat) (p : Int) (hr : r < 4294967296) (F : Frm) : SC Try.prog 55 #[U r, N p] [] F (fun u H => u = U (shr_ r p : Nat) ∧ H = []) := by
  have hp := cpn_in p
  have hm : r / 4096 * cpn p ≤ r / 4096 * 4095 := Nat.mul_le_mul_left _ hp.2.1
  have hc : ((r / 4096 : Nat) : Int) * cp p = (shr_ r p : Nat) := by rw [← hp.2.2]; exact (Int.natCast_mul _ _).symm
  have hu : shr_ r p = r / 4096 * cpn p := rfl
  refine sc_in (args := [U r, N p]) Try.func55 rfl rfl (Nat.le_of_ble_eq_true rfl) ?_
  refine at_ks [0, 1, 4] (by (try simp only [keep, lk, pd, enumE, Nat.reduceBEq, Nat.reduceAdd, cond_true, cond_false]); exact rfl) ?_
  refine at_seq ?_
  refine at_region ?_
  refine st_p rfl rfl (p_assign rfl) ?_
  refine at_nil ?_
  refine at_ks [0, 1, 4] (by (try simp only [keep, lk, pd, enumE, Nat.reduceBEq, Nat.reduceAdd, cond_true, cond_false]); exact rfl) ?_
  refine at_then ?_
  refine at_seq ?_
  refine at_region ?_
  refine st_p rfl rfl (p_move rfl) ?_
  refine st_p rfl rfl (p_quo (r := ((r / 4096 : Nat) : Int)) rfl rfl (by decide) (by rw [Int.tdiv_eq_ediv_of_nonneg (by omega)]; exact (nwu64 (by omega)).trans (by omega))) ?_
  refine st_p rfl rfl (p_move rfl) ?_
  refine st_q rfl rfl (q_call (first := []) rfl c_74 rfl (fun F1 hF1 hs1 => cut_calls _ F1)) ?_
  refine st_p rfl rfl (p_mul rfl rfl ((congrArg _ hc).trans (nwu64 (by omega)))) ?_
  refine st_p rfl rfl (p_assign rfl) ?_
  refine at_nil ?_
  refine at_ks [0, 1, 4] (by (try simp only [keep, lk, pd, enumE, Nat.reduceBEq, Nat.reduceAdd, cond_true, cond_false]); exact rfl) ?_
  refine at_then ?_
  refine at_retc ?_
  exact fin_1 rfl rfl (by
      exact ⟨rfl, rfl⟩)

theorem new_calls (F : Frm) : SC Try.prog 24 #[] [] F (fun v H => ∃ b dv, v = .pointer (some ⟨b, 0, none⟩) ∧ H = encH b dv cd0) := by
  refine sc_in (args := []) Try.func24 rfl rfl (Nat.le_of_ble_eq_true rfl) ?_
  refine at_ks [0] (by (try simp only [keep, lk, pd, enumE, Nat.reduceBEq, Nat.reduceAdd, cond_true, cond_false]); exact rfl) ?_
  refine at_seq ?_
  refine at_region ?_
  refine st_p rfl rfl (p_assign rfl) ?_
  refine at_nil ?_
  refine at_ks [0] (by (try simp only [keep, lk, pd, enumE, Nat.reduceBEq, Nat.reduceAdd, cond_true, cond_false]); exact rfl) ?_
  refine at_then ?_
  refine at_seq ?_
  refine at_region ?_
  refine st_l rfl rfl (l_bsV [_] _ rfl e_46 (by decide) (by decide) rfl (by simp [Value.cells]) (by simp only [List.flatMap_cons, List.flatMap_nil, Value.cells, List.nil_append, List.cons_append, List.append_nil]; exact rfl)) ?_
  rintro _ _ ⟨b1, rfl, rfl⟩
  refine at_hp (by (try simp only [List.take_zero, List.take_succ_cons, List.drop_zero, List.drop_succ_cons, List.drop_nil, List.length_cons, List.length_nil, Nat.zero_add, Nat.reduceAdd, List.set_cons_zero, List.set_cons_succ, List.nil_append, List.cons_append, List.append_nil, pick, List.filterMap_cons, List.filterMap_nil, List.getElem?_cons_zero, List.getElem?_cons_succ]); exact rfl) ?_
  refine st_p rfl rfl (p_build (cs := #[.slice (some ⟨b1, 0, none⟩) 1 1, U 0, U 4294967295]) rfl (fun _ => by kernel_rfl)) ?_
  refine st_l rfl rfl (l_box [.slice (some ⟨b1, 0, none⟩) 1 1, U 0, U 4294967295] rfl rfl) ?_
  rintro _ _ ⟨b3, rfl, rfl⟩
  refine at_hp (by (try simp only [List.take_zero, List.take_succ_cons, List.drop_zero, List.drop_succ_cons, List.drop_nil, List.length_cons, List.length_nil, Nat.zero_add, Nat.reduceAdd, List.set_cons_zero, List.set_cons_succ, List.nil_append, List.cons_append, List.append_nil, pick, List.filterMap_cons, List.filterMap_nil, List.getElem?_cons_zero, List.getElem?_cons_succ]); exact rfl) ?_
  refine st_p rfl rfl (p_assign rfl) ?_
  refine at_nil ?_
  refine at_ks [0] (by (try simp only [keep, lk, pd, enumE, Nat.reduceBEq, Nat.reduceAdd, cond_true, cond_false]); exact rfl) ?_
  refine at_then ?_
  refine at_retc ?_
  exact fin_1 rfl rfl (by
      exact ⟨_, _, rfl, rfl⟩)

theorem encBit_calls (b : Nat) (dv : Value) (c : Cd) (p bit : Int) (ho : c.ok) (hk : c.k < 50000000000000) (F : Frm) :
    SC Try.prog 27 #[.pointer (some ⟨b, 0, none⟩), N p, N bit] (encH b dv c) F (fun v H => v = .tuple #[] ∧ ∃ dv', H = encH b dv' (bitC c p bit)) := by
  have hs := shr_in ho.lo p
  have h1 := ho.k5; have h2 := ho.top; have h3 := ho.lo; have h4 := ho.hi
  have h5 := top_lt ho.k5 (m := c.n + shr_ c.r p) (by omega)
  unfold encH encR
  refine sc_in (args := [.pointer (some ⟨b, 0, none⟩), N p, N bit]) Try.func27 rfl rfl (Nat.le_of_ble_eq_true rfl) ?_
  refine at_ks [0, 1, 2, 6, 8, 16] (by (try simp only [keep, lk, pd, enumE, Nat.reduceBEq, Nat.reduceAdd, cond_true, cond_false]); exact rfl) ?_
  refine at_seq ?_
  refine at_seq ?_
  refine at_region ?_
  refine st_p rfl rfl (p_move rfl) ?_
  refine st_p rfl rfl (p_eqn rfl rfl q_61) ?_
  refine at_nil ?_
  refine at_ks [0, 1, 2, 6, 8, 16] (by (try simp only [keep, lk, pd, enumE, Nat.reduceBEq, Nat.reduceAdd, cond_true, cond_false]); exact rfl) ?_
  refine at_then ?_
  refine at_cond_f rfl ?_
  refine at_skip ?_
  refine at_then ?_
  refine at_seq ?_
  refine at_region ?_
  refine st_p rfl rfl (p_move rfl) ?_
  refine st_p rfl rfl ((by first | exact p_nil rfl | exact p_nilf rfl)) ?_
  refine st_p rfl rfl ((by first | exact p_fa0 rfl o_106_2 | exact p_fa rfl o_106_2)) ?_
  refine st_q rfl rfl ((by first | exact q_ob 0 rfl rfl r_52 (by first | rfl | assumption) | exact q_ob 1 rfl rfl r_52 (by first | rfl | assumption) | exact q_ob 2 rfl rfl r_52 (by first | rfl | assumption) | exact q_ob 3 rfl rfl r_52 (by first | rfl | assumption) | exact q_ob 4 rfl rfl r_52 (by first | rfl | assumption) | exact q_ob 5 rfl rfl r_52 (by first | rfl | assumption) | exact q_sl 0 rfl rfl r_52 (by first | rfl | assumption) | exact q_sl 1 rfl rfl r_52 (by first | rfl | assumption) | exact q_sl 2 rfl rfl r_52 (by first | rfl | assumption) | exact q_sl 3 rfl rfl r_52 (by first | rfl | assumption) | exact q_sl 4 rfl rfl r_52 (by first | rfl | assumption) | exact q_sl 5 rfl rfl r_52 (by first | rfl | assumption) | exact q_fr rfl r_52 (by assumption))) ?_
  refine st_p rfl rfl (p_move rfl) ?_
  refine st_q rfl rfl (q_call (first := []) rfl c_55 rfl (fun F1 hF1 hs1 => share_calls _ _ (by omega) F1)) ?_
  refine st_p rfl rfl (p_assign rfl) ?_
  refine at_nil ?_
  refine at_ks [0, 1, 2, 6, 8, 16] (by (try simp only [keep, lk, pd, enumE, Nat.reduceBEq, Nat.reduceAdd, cond_true, cond_false]); exact rfl) ?_
  refine at_then ?_
  refine at_seq ?_
  refine at_seq ?_
  refine at_region ?_
  refine st_p rfl rfl (p_move rfl) ?_
  refine st_p rfl rfl (p_neq rfl rfl) ?_
  refine at_nil ?_
  refine at_ks [0, 1, 2, 6, 8, 16] (by (try simp only [keep, lk, pd, enumE, Nat.reduceBEq, Nat.reduceAdd, cond_true, cond_false]); exact rfl) ?_
  refine at_then ?_
  refine at_cond rfl (fun ht16 => ?_) (fun ht16 => ?_)
  · (try simp only [decide_eq_true_eq, decide_eq_false_iff_not, Bool.not_eq_true', Bool.not_eq_false', Bool.not_true, Bool.not_false, Bool.or_eq_true, Bool.and_eq_true, Int.not_lt, Int.not_le] at ht16)
    refine at_region ?_
    refine st_p rfl rfl (p_move rfl) ?_
    refine st_p rfl rfl (p_move rfl) ?_
    refine st_p rfl rfl ((by first | exact p_nil rfl | exact p_nilf rfl)) ?_
    refine st_p rfl rfl ((by first | exact p_fa0 rfl o_106_2 | exact p_fa rfl o_106_2)) ?_
    refine st_l rfl rfl ((by first | exact l_ob 0 rfl rfl rfl (by first | rfl | assumption) (by first | rfl | assumption) s_52 (by first | decide | omega | (simp only [List.length_cons, List.length_nil]; omega) | (simp; omega) | (simp; done)) | exact l_ob 1 rfl rfl rfl (by first | rfl | assumption) (by first | rfl | assumption) s_52 (by first | decide | omega | (simp only [List.length_cons, List.length_nil]; omega) | (simp; omega) | (simp; done)) | exact l_ob 2 rfl rfl rfl (by first | rfl | assumption) (by first | rfl | assumption) s_52 (by first | decide | omega | (simp only [List.length_cons, List.length_nil]; omega) | (simp; omega) | (simp; done)) | exact l_ob 3 rfl rfl rfl (by first | rfl | assumption) (by first | rfl | assumption) s_52 (by first | decide | omega | (simp only [List.length_cons, List.length_nil]; omega) | (simp; omega) | (simp; done)) | exact l_ob 4 rfl rfl rfl (by first | rfl | assumption) (by first | rfl | assumption) s_52 (by first | decide | omega | (simp only [List.length_cons, List.length_nil]; omega) | (simp; omega) | (simp; done)) | exact l_ob 5 rfl rfl rfl (by first | rfl | assumption) (by first | rfl | assumption) s_52 (by first | decide | omega | (simp only [List.length_cons, List.length_nil]; omega) | (simp; omega) | (simp; done)) | exact l_sl 0 rfl rfl rfl (by first | rfl | assumption) (by first | rfl | assumption) s_52 (by first | decide | omega | (simp only [List.length_cons, List.length_nil]; omega) | (simp; omega) | (simp; done)) | exact l_sl 1 rfl rfl rfl (by first | rfl | assumption) (by first | rfl | assumption) s_52 (by first | decide | omega | (simp only [List.length_cons, List.length_nil]; omega) | (simp; omega) | (simp; done)) | exact l_sl 2 rfl rfl rfl (by first | rfl | assumption) (by first | rfl | assumption) s_52 (by first | decide | omega | (simp only [List.length_cons, List.length_nil]; omega) | (simp; omega) | (simp; done)) | exact l_sl 3 rfl rfl rfl (by first | rfl | assumption) (by first | rfl | assumption) s_52 (by first | decide | omega | (simp only [List.length_cons, List.length_nil]; omega) | (simp; omega) | (simp; done)) | exact l_sl 4 rfl rfl rfl (by first | rfl | assumption) (by first | rfl | assumption) s_52 (by first | decide | omega | (simp only [List.length_cons, List.length_nil]; omega) | (simp; omega) | (simp; done)) | exact l_sl 5 rfl rfl rfl (by first | rfl | assumption) (by first | rfl | assumption) s_52 (by first | decide | omega | (simp only [List.length_cons, List.length_nil]; omega) | (simp; omega) | (simp; done)))) ?_
    rintro _ _ ⟨rfl, rfl⟩
    refine at_hp (by (try simp only [List.take_zero, List.take_succ_cons, List.drop_zero, List.drop_succ_cons, List.drop_nil, List.length_cons, List.length_nil, Nat.zero_add, Nat.reduceAdd, List.set_cons_zero, List.set_cons_succ, List.nil_append, List.cons_append, List.append_nil, pick, List.filterMap_cons, List.filterMap_nil, List.getElem?_cons_zero, List.getElem?_cons_succ]); exact rfl) ?_
    refine at_nil ?_
    refine at_ks [0, 1, 2, 6, 8, 16] (by (try simp only [keep, lk, pd, enumE, Nat.reduceBEq, Nat.reduceAdd, cond_true, cond_false]); exact rfl) ?_
    refine at_then ?_
    refine at_region ?_
    refine st_p rfl rfl (p_move rfl) ?_
    refine st_l rfl rfl (l_call (first := []) [0, 1] [] rfl c_57 rfl (by decide) (fun F1 hF1 hs1 => growE_calls b dv ⟨c.k, c.n, shr_ c.r p⟩ F1 (by simp only; omega) (by simp only; omega) (by simp only; omega))) ?_
    rintro _ _ ⟨_, ⟨rfl, dv2, rfl⟩, rfl⟩
    refine at_hp (by (try simp only [List.take_zero, List.take_succ_cons, List.drop_zero, List.drop_succ_cons, List.drop_nil, List.length_cons, List.length_nil, Nat.zero_add, Nat.reduceAdd, List.set_cons_zero, List.set_cons_succ, List.nil_append, List.cons_append, List.append_nil, pick, List.filterMap_cons, List.filterMap_nil, List.getElem?_cons_zero, List.getElem?_cons_succ]); exact rfl) ?_
    refine at_nil ?_
    refine at_ks [0, 1, 2, 6, 8, 16] (by (try simp only [keep, lk, pd, enumE, Nat.reduceBEq, Nat.reduceAdd, cond_true, cond_false]); exact rfl) ?_
    exact fin_n rfl (by
        exact ⟨rfl, dv2, by unfold bitC; rw [if_neg ht16]; rfl⟩)
  · (try simp only [decide_eq_true_eq, decide_eq_false_iff_not, Bool.not_eq_true', Bool.not_eq_false', Bool.not_true, Bool.not_false, Bool.or_eq_true, Bool.and_eq_true, Int.not_lt, Int.not_le] at ht16)
    refine at_seq ?_
    refine at_region ?_
    refine st_p rfl rfl (p_move rfl) ?_
    refine st_p rfl rfl (p_move rfl) ?_
    refine st_l rfl rfl (l_call (first := []) [0, 1] [] rfl c_56 rfl (by decide) (fun F1 hF1 hs1 => more_calls b dv c (shr_ c.r p) F1 ho.k5 (by rw [show c.k - 4 = (c.k - 5) + 1 by omega, Nat.pow_succ]; omega) (by omega) (by omega))) ?_
    rintro _ _ ⟨_, ⟨rfl, rfl⟩, rfl⟩
    refine at_hp (by (try simp only [List.take_zero, List.take_succ_cons, List.drop_zero, List.drop_succ_cons, List.drop_nil, List.length_cons, List.length_nil, Nat.zero_add, Nat.reduceAdd, List.set_cons_zero, List.set_cons_succ, List.nil_append, List.cons_append, List.append_nil, pick, List.filterMap_cons, List.filterMap_nil, List.getElem?_cons_zero, List.getElem?_cons_succ]); exact rfl) ?_
    refine at_nil ?_
    refine at_ks [0, 1, 2, 6, 8, 16] (by (try simp only [keep, lk, pd, enumE, Nat.reduceBEq, Nat.reduceAdd, cond_true, cond_false]); exact rfl) ?_
    refine at_then ?_
    refine at_region ?_
    refine st_p rfl rfl (p_move rfl) ?_
    refine st_p rfl rfl ((by first | exact p_nil rfl | exact p_nilf rfl)) ?_
    refine st_p rfl rfl ((by first | exact p_fa0 rfl o_106_2 | exact p_fa rfl o_106_2)) ?_
    refine st_q rfl rfl (q_ob (v := U (c.r : Nat)) 0 rfl rfl r_52 rfl) ?_
    refine st_p rfl rfl (p_move rfl) ?_
    refine st_p rfl rfl (p_sub (r := ((c.r - shr_ c.r p : Nat) : Int)) rfl rfl ((nwu64 (by omega)).trans (by omega))) ?_
    refine st_p rfl rfl ((by first | exact p_nil rfl | exact p_nilf rfl)) ?_
    refine st_p rfl rfl ((by first | exact p_fa0 rfl o_106_2 | exact p_fa rfl o_106_2)) ?_
    refine st_l rfl rfl ((by first | exact l_ob 0 rfl rfl rfl (by first | rfl | assumption) (by first | rfl | assumption) s_52 (by first | decide | omega | (simp only [List.length_cons, List.length_nil]; omega) | (simp; omega) | (simp; done)) | exact l_ob 1 rfl rfl rfl (by first | rfl | assumption) (by first | rfl | assumption) s_52 (by first | decide | omega | (simp only [List.length_cons, List.length_nil]; omega) | (simp; omega) | (simp; done)) | exact l_ob 2 rfl rfl rfl (by first | rfl | assumption) (by first | rfl | assumption) s_52 (by first | decide | omega | (simp only [List.length_cons, List.length_nil]; omega) | (simp; omega) | (simp; done)) | exact l_ob 3 rfl rfl rfl (by first | rfl | assumption) (by first | rfl | assumption) s_52 (by first | decide | omega | (simp only [List.length_cons, List.length_nil]; omega) | (simp; omega) | (simp; done)) | exact l_ob 4 rfl rfl rfl (by first | rfl | assumption) (by first | rfl | assumption) s_52 (by first | decide | omega | (simp only [List.length_cons, List.length_nil]; omega) | (simp; omega) | (simp; done)) | exact l_ob 5 rfl rfl rfl (by first | rfl | assumption) (by first | rfl | assumption) s_52 (by first | decide | omega | (simp only [List.length_cons, List.length_nil]; omega) | (simp; omega) | (simp; done)) | exact l_sl 0 rfl rfl rfl (by first | rfl | assumption) (by first | rfl | assumption) s_52 (by first | decide | omega | (simp only [List.length_cons, List.length_nil]; omega) | (simp; omega) | (simp; done)) | exact l_sl 1 rfl rfl rfl (by first | rfl | assumption) (by first | rfl | assumption) s_52 (by first | decide | omega | (simp only [List.length_cons, List.length_nil]; omega) | (simp; omega) | (simp; done)) | exact l_sl 2 rfl rfl rfl (by first | rfl | assumption) (by first | rfl | assumption) s_52 (by first | decide | omega | (simp only [List.length_cons, List.length_nil]; omega) | (simp; omega) | (simp; done)) | exact l_sl 3 rfl rfl rfl (by first | rfl | assumption) (by first | rfl | assumption) s_52 (by first | decide | omega | (simp only [List.length_cons, List.length_nil]; omega) | (simp; omega) | (simp; done)) | exact l_sl 4 rfl rfl rfl (by first | rfl | assumption) (by first | rfl | assumption) s_52 (by first | decide | omega | (simp only [List.length_cons, List.length_nil]; omega) | (simp; omega) | (simp; done)) | exact l_sl 5 rfl rfl rfl (by first | rfl | assumption) (by first | rfl | assumption) s_52 (by first | decide | omega | (simp only [List.length_cons, List.length_nil]; omega) | (simp; omega) | (simp; done)))) ?_
    rintro _ _ ⟨rfl, rfl⟩
    refine at_hp (by (try simp only [List.take_zero, List.take_succ_cons, List.drop_zero, List.drop_succ_cons, List.drop_nil, List.length_cons, List.length_nil, Nat.zero_add, Nat.reduceAdd, List.set_cons_zero, List.set_cons_succ, List.nil_append, List.cons_append, List.append_nil, pick, List.filterMap_cons, List.filterMap_nil, List.getElem?_cons_zero, List.getElem?_cons_succ]); exact rfl) ?_
    refine at_nil ?_
    refine at_ks [0, 1, 2, 6, 8, 16] (by (try simp only [keep, lk, pd, enumE, Nat.reduceBEq, Nat.reduceAdd, cond_true, cond_false]); exact rfl) ?_
    refine at_then ?_
    refine at_region ?_
    refine st_p rfl rfl (p_move rfl) ?_
    refine st_l rfl rfl (l_call (first := []) [0, 1] [] rfl c_57 rfl (by decide) (fun F1 hF1 hs1 => growE_calls b dv ⟨c.k, c.n + shr_ c.r p, c.r - shr_ c.r p⟩ F1 (by simp only; omega) (by simp only; omega) (by simp only; omega))) ?_
    rintro _ _ ⟨_, ⟨rfl, dv2, rfl⟩, rfl⟩
    refine at_hp (by (try simp only [List.take_zero, List.take_succ_cons, List.drop_zero, List.drop_succ_cons, List.drop_nil, List.length_cons, List.length_nil, Nat.zero_add, Nat.reduceAdd, List.set_cons_zero, List.set_cons_succ, List.nil_append, List.cons_append, List.append_nil, pick, List.filterMap_cons, List.filterMap_nil, List.getElem?_cons_zero, List.getElem?_cons_succ]); exact rfl) ?_
    refine at_nil ?_
    refine at_ks [0, 1, 2, 6, 8, 16] (by (try simp only [keep, lk, pd, enumE, Nat.reduceBEq, Nat.reduceAdd, cond_true, cond_false]); exact rfl) ?_
    exact fin_n rfl (by
        exact ⟨rfl, dv2, by unfold bitC; rw [if_pos ht16]; rfl⟩)

theorem and1u {x : Nat} (h : x < 18446744073709551616) : IntKind.u64.wrap ↑((((x : Nat) : Int) % 2 ^ IntKind.u64.bits).toNat &&& ((1 : Int) % 2 ^ IntKind.u64.bits).toNat) = ((x % 2 : Nat) : Int) := by
  have e1 : (((x : Nat) : Int) % 2 ^ IntKind.u64.bits).toNat = x := by simp [IntKind.bits]; omega
  have e2 : ((1 : Int) % 2 ^ IntKind.u64.bits).toNat = 1 := by simp [IntKind.bits]
  rw [e1, e2, Nat.and_one_is_mod, nwu64 (by omega)]
theorem divc (v j : Nat) : (v : Int) / 2 ^ j = ((v / 2 ^ j : Nat) : Int) := by push_cast; rfl
def dirN (n : Int) : Nat := (mx 0 (mn n 64)).toNat
theorem dirN_in (n : Int) : ((dirN n : Nat) : Int) = mx 0 (mn n 64) ∧ dirN n ≤ 64 := by unfold dirN mx mn; omega

theorem encDirect_calls (b : Nat) (dv : Value) (c : Cd) (v : Nat) (n : Int) (ho : c.ok) (hk : c.k < 40000000000000) (hv : v < 18446744073709551616) (F : Frm) :
    SC Try.prog 28 #[.pointer (some ⟨b, 0, none⟩), U v, N n] (encH b dv c) F (fun w H => w = .tuple #[] ∧ ∃ dv', H = encH b dv' (dirC c v (dirN n))) := by
  have hn := dirN_in n
  refine sc_in (args := [.pointer (some ⟨b, 0, none⟩), U v, N n]) Try.func28 rfl rfl (Nat.le_of_ble_eq_true rfl) ?_
  refine at_ks [0, 1, 2, 6, 8, 14, 28] (by (try simp only [keep, lk, pd, enumE, Nat.reduceBEq, Nat.reduceAdd, cond_true, cond_false]); exact rfl) ?_
  refine at_seq ?_
  refine at_seq ?_
  refine at_region ?_
  refine st_p rfl rfl (p_move rfl) ?_
  refine st_p rfl rfl (p_eqn rfl rfl q_61) ?_
  refine at_nil ?_
  refine at_ks [0, 1, 2, 6, 8, 14, 28] (by (try simp only [keep, lk, pd, enumE, Nat.reduceBEq, Nat.reduceAdd, cond_true, cond_false]); exact rfl) ?_
  refine at_then ?_
  refine at_cond_f rfl ?_
  refine at_skip ?_
  refine at_then ?_
  refine at_seq ?_
  refine at_region ?_
  refine st_p rfl rfl (p_move rfl) ?_
  refine st_p rfl rfl (p_min rfl rfl (by first | assumption | rfl)) ?_
  refine st_p rfl rfl (p_max (r := ((dirN n : Nat) : Int)) rfl rfl hn.1.symm) ?_
  refine st_p rfl rfl (p_sub rfl rfl (by first | exact nw64 (by omega) | exact nwu64 (by omega) | exact nwu8 (by omega) | exact nwu16 (by omega) | exact wu64 _ | exact wu8 _ | exact wi64 _ | rfl)) ?_
  refine st_p rfl rfl (p_assign rfl) ?_
  refine at_nil ?_
  refine at_ks [0, 1, 2, 6, 8, 14, 28] (by (try simp only [keep, lk, pd, enumE, Nat.reduceBEq, Nat.reduceAdd, cond_true, cond_false]); exact rfl) ?_
  refine at_then ?_
  refine at_block ?_
  refine at_ks [0, 1, 6] (by (try simp only [keep, lk, pd, enumE, Nat.reduceBEq, Nat.reduceAdd, cond_true, cond_false]); exact rfl) ?_
  refine at_loop (fun k E H => ∃ (j : Nat) (dv1 : Value) (c1 : Cd), E = [(0, .pointer (some ⟨b, 0, none⟩)), (1, U v), (6, N ((j : Int) - 1))] ∧ H = encH b dv1 c1 ∧ k = j + 1 ∧ j ≤ 64 ∧ c1.ok ∧ c1.k + 2 * j ≤ c.k + 128 ∧ dirC c1 v j = dirC c v (dirN n)) (dirN n + 1) (⟨dirN n, dv, c, rfl, rfl, rfl, hn.2, ho, by omega, rfl⟩) ?_
  rintro k _ _ ⟨j, dv1, c1, rfl, rfl, rfl, hj, ho1, hk1, he⟩
  unfold encH encR
  refine at_seq ?_
  refine at_seq ?_
  refine at_region ?_
  refine st_p rfl rfl (p_move rfl) ?_
  refine st_p rfl rfl (p_geq rfl rfl) ?_
  refine at_nil ?_
  refine at_ks [0, 1, 2, 6, 8, 14, 28] (by (try simp only [keep, lk, pd, enumE, Nat.reduceBEq, Nat.reduceAdd, cond_true, cond_false]); exact rfl) ?_
  refine at_then ?_
  refine at_cond rfl (fun ht14 => ?_) (fun ht14 => ?_)
  · (try simp only [decide_eq_true_eq, decide_eq_false_iff_not, Bool.not_eq_true', Bool.not_eq_false', Bool.not_true, Bool.not_false, Bool.or_eq_true, Bool.and_eq_true, Int.not_lt, Int.not_le] at ht14)
    obtain ⟨j, rfl⟩ : ∃ q, j = q + 1 := ⟨j - 1, by omega⟩
    have h1 := ho1.k5; have h2 := ho1.top; have h3 := ho1.lo; have h4 := ho1.hi
    have h5 := top_lt ho1.k5 (m := c1.n + c1.r / 2) (by omega)
    refine at_skip ?_
    refine at_then ?_
    refine at_seq ?_
    refine at_block ?_
    refine at_seq ?_
    refine at_region ?_
    refine st_p rfl rfl (p_move rfl) ?_
    refine st_p rfl rfl ((by first | exact p_nil rfl | exact p_nilf rfl)) ?_
    refine st_p rfl rfl ((by first | exact p_fa0 rfl o_106_2 | exact p_fa rfl o_106_2)) ?_
    refine st_q rfl rfl ((by first | exact q_ob 0 rfl rfl r_52 (by first | rfl | assumption) | exact q_ob 1 rfl rfl r_52 (by first | rfl | assumption) | exact q_ob 2 rfl rfl r_52 (by first | rfl | assumption) | exact q_ob 3 rfl rfl r_52 (by first | rfl | assumption) | exact q_ob 4 rfl rfl r_52 (by first | rfl | assumption) | exact q_ob 5 rfl rfl r_52 (by first | rfl | assumption) | exact q_sl 0 rfl rfl r_52 (by first | rfl | assumption) | exact q_sl 1 rfl rfl r_52 (by first | rfl | assumption) | exact q_sl 2 rfl rfl r_52 (by first | rfl | assumption) | exact q_sl 3 rfl rfl r_52 (by first | rfl | assumption) | exact q_sl 4 rfl rfl r_52 (by first | rfl | assumption) | exact q_sl 5 rfl rfl r_52 (by first | rfl | assumption) | exact q_fr rfl r_52 (by assumption))) ?_
    refine st_p rfl rfl (p_quo (r := ((c1.r / 2 : Nat) : Int)) rfl rfl (by decide) (by rw [Int.tdiv_eq_ediv_of_nonneg (by omega)]; exact (nwu64 (by omega)).trans (by omega))) ?_
    refine st_p rfl rfl ((by first | exact p_nil rfl | exact p_nilf rfl)) ?_
    refine st_p rfl rfl ((by first | exact p_fa0 rfl o_106_2 | exact p_fa rfl o_106_2)) ?_
    refine st_l rfl rfl ((by first | exact l_ob 0 rfl rfl rfl (by first | rfl | assumption) (by first | rfl | assumption) s_52 (by first | decide | omega | (simp only [List.length_cons, List.length_nil]; omega) | (simp; omega) | (simp; done)) | exact l_ob 1 rfl rfl rfl (by first | rfl | assumption) (by first | rfl | assumption) s_52 (by first | decide | omega | (simp only [List.length_cons, List.length_nil]; omega) | (simp; omega) | (simp; done)) | exact l_ob 2 rfl rfl rfl (by first | rfl | assumption) (by first | rfl | assumption) s_52 (by first | decide | omega | (simp only [List.length_cons, List.length_nil]; omega) | (simp; omega) | (simp; done)) | exact l_ob 3 rfl rfl rfl (by first | rfl | assumption) (by first | rfl | assumption) s_52 (by first | decide | omega | (simp only [List.length_cons, List.length_nil]; omega) | (simp; omega) | (simp; done)) | exact l_ob 4 rfl rfl rfl (by first | rfl | assumption) (by first | rfl | assumption) s_52 (by first | decide | omega | (simp only [List.length_cons, List.length_nil]; omega) | (simp; omega) | (simp; done)) | exact l_ob 5 rfl rfl rfl (by first | rfl | assumption) (by first | rfl | assumption) s_52 (by first | decide | omega | (simp only [List.length_cons, List.length_nil]; omega) | (simp; omega) | (simp; done)) | exact l_sl 0 rfl rfl rfl (by first | rfl | assumption) (by first | rfl | assumption) s_52 (by first | decide | omega | (simp only [List.length_cons, List.length_nil]; omega) | (simp; omega) | (simp; done)) | exact l_sl 1 rfl rfl rfl (by first | rfl | assumption) (by first | rfl | assumption) s_52 (by first | decide | omega | (simp only [List.length_cons, List.length_nil]; omega) | (simp; omega) | (simp; done)) | exact l_sl 2 rfl rfl rfl (by first | rfl | assumption) (by first | rfl | assumption) s_52 (by first | decide | omega | (simp only [List.length_cons, List.length_nil]; omega) | (simp; omega) | (simp; done)) | exact l_sl 3 rfl rfl rfl (by first | rfl | assumption) (by first | rfl | assumption) s_52 (by first | decide | omega | (simp only [List.length_cons, List.length_nil]; omega) | (simp; omega) | (simp; done)) | exact l_sl 4 rfl rfl rfl (by first | rfl | assumption) (by first | rfl | assumption) s_52 (by first | decide | omega | (simp only [List.length_cons, List.length_nil]; omega) | (simp; omega) | (simp; done)) | exact l_sl 5 rfl rfl rfl (by first | rfl | assumption) (by first | rfl | assumption) s_52 (by first | decide | omega | (simp only [List.length_cons, List.length_nil]; omega) | (simp; omega) | (simp; done)))) ?_
    rintro _ _ ⟨rfl, rfl⟩
    refine at_hp (by (try simp only [List.take_zero, List.take_succ_cons, List.drop_zero, List.drop_succ_cons, List.drop_nil, List.length_cons, List.length_nil, Nat.zero_add, Nat.reduceAdd, List.set_cons_zero, List.set_cons_succ, List.nil_append, List.cons_append, List.append_nil, pick, List.filterMap_cons, List.filterMap_nil, List.getElem?_cons_zero, List.getElem?_cons_succ]); exact rfl) ?_
    refine at_nil ?_
    refine at_ks [0, 1, 2, 6, 8, 14, 28] (by (try simp only [keep, lk, pd, enumE, Nat.reduceBEq, Nat.reduceAdd, cond_true, cond_false]); exact rfl) ?_
    refine at_then ?_
    refine at_seq ?_
    refine at_seq ?_
    refine at_region ?_
    refine st_p rfl rfl (p_move rfl) ?_
    refine st_p rfl rfl (p_move rfl) ?_
    refine st_p rfl rfl (p_shr (r := ((v / 2 ^ j : Nat) : Int)) rfl rfl (by omega) (by rw [shrU _ _ (by omega), show (((j + 1 : Nat) : Int) - 1).toNat = j by omega]; exact divc v j)) ?_
    refine st_p rfl rfl (p_and (r := ((v / 2 ^ j % 2 : Nat) : Int)) rfl rfl (and1u (Nat.lt_of_le_of_lt (Nat.div_le_self _ _) hv))) ?_
    refine st_p rfl rfl (p_gtr rfl rfl) ?_
    refine at_nil ?_
    refine at_ks [0, 1, 2, 6, 8, 14, 28] (by (try simp only [keep, lk, pd, enumE, Nat.reduceBEq, Nat.reduceAdd, cond_true, cond_false]); exact rfl) ?_
    refine at_then ?_
    refine at_cond rfl (fun ht28 => ?_) (fun ht28 => ?_)
    · (try simp only [decide_eq_true_eq, decide_eq_false_iff_not, Bool.not_eq_true', Bool.not_eq_false', Bool.not_true, Bool.not_false, Bool.or_eq_true, Bool.and_eq_true, Int.not_lt, Int.not_le] at ht28)
      have hb : v / 2 ^ j % 2 = 1 := by omega
      refine at_region ?_
      refine st_p rfl rfl (p_move rfl) ?_
      refine st_p rfl rfl (p_move rfl) ?_
      refine st_p rfl rfl ((by first | exact p_nil rfl | exact p_nilf rfl)) ?_
      refine st_p rfl rfl ((by first | exact p_fa0 rfl o_106_2 | exact p_fa rfl o_106_2)) ?_
      refine st_q rfl rfl ((by first | exact q_ob 0 rfl rfl r_52 (by first | rfl | assumption) | exact q_ob 1 rfl rfl r_52 (by first | rfl | assumption) | exact q_ob 2 rfl rfl r_52 (by first | rfl | assumption) | exact q_ob 3 rfl rfl r_52 (by first | rfl | assumption) | exact q_ob 4 rfl rfl r_52 (by first | rfl | assumption) | exact q_ob 5 rfl rfl r_52 (by first | rfl | assumption) | exact q_sl 0 rfl rfl r_52 (by first | rfl | assumption) | exact q_sl 1 rfl rfl r_52 (by first | rfl | assumption) | exact q_sl 2 rfl rfl r_52 (by first | rfl | assumption) | exact q_sl 3 rfl rfl r_52 (by first | rfl | assumption) | exact q_sl 4 rfl rfl r_52 (by first | rfl | assumption) | exact q_sl 5 rfl rfl r_52 (by first | rfl | assumption) | exact q_fr rfl r_52 (by assumption))) ?_
      refine st_l rfl rfl (l_call (first := []) [0, 1] [] rfl c_56 rfl (by decide) (fun F1 hF1 hs1 => more_calls b dv1 ⟨c1.k, c1.n, c1.r / 2⟩ (c1.r / 2) F1 ho1.k5 (by simp only; rw [show c1.k - 4 = (c1.k - 5) + 1 by omega, Nat.pow_succ]; omega) (by omega) (by simp only; omega))) ?_
      rintro _ _ ⟨_, ⟨rfl, rfl⟩, rfl⟩
      refine at_hp (by (try simp only [List.take_zero, List.take_succ_cons, List.drop_zero, List.drop_succ_cons, List.drop_nil, List.length_cons, List.length_nil, Nat.zero_add, Nat.reduceAdd, List.set_cons_zero, List.set_cons_succ, List.nil_append, List.cons_append, List.append_nil, pick, List.filterMap_cons, List.filterMap_nil, List.getElem?_cons_zero, List.getElem?_cons_succ]); exact rfl) ?_
      refine at_nil ?_
      refine at_ks [0, 1, 2, 6, 8, 14, 28] (by (try simp only [keep, lk, pd, enumE, Nat.reduceBEq, Nat.reduceAdd, cond_true, cond_false]); exact rfl) ?_
      refine at_then ?_
      refine at_region ?_
      refine st_p rfl rfl (p_move rfl) ?_
      refine st_l rfl rfl (l_call (first := []) [0, 1] [] rfl c_57 rfl (by decide) (fun F1 hF1 hs1 => growE_calls b dv1 ⟨c1.k, c1.n + c1.r / 2, c1.r / 2⟩ F1 (by simp only; omega) (by simp only; omega) (by simp only; omega))) ?_
      rintro _ _ ⟨_, ⟨rfl, dv2, rfl⟩, rfl⟩
      refine at_hp (by (try simp only [List.take_zero, List.take_succ_cons, List.drop_zero, List.drop_succ_cons, List.drop_nil, List.length_cons, List.length_nil, Nat.zero_add, Nat.reduceAdd, List.set_cons_zero, List.set_cons_succ, List.nil_append, List.cons_append, List.append_nil, pick, List.filterMap_cons, List.filterMap_nil, List.getElem?_cons_zero, List.getElem?_cons_succ]); exact rfl) ?_
      refine at_nil ?_
      refine at_ks [0, 1, 2, 6, 8, 14, 28] (by (try simp only [keep, lk, pd, enumE, Nat.reduceBEq, Nat.reduceAdd, cond_true, cond_false]); exact rfl) ?_
      refine at_inb ?_
      refine at_then ?_
      refine at_region ?_
      refine st_p rfl rfl (p_move rfl) ?_
      refine st_p rfl rfl (p_sub (r := (j : Int) - 1) rfl rfl ((nw64 (by omega)).trans (by omega))) ?_
      refine st_p rfl rfl (p_assign rfl) ?_
      refine at_nil ?_
      refine at_ks [0, 1, 2, 6, 8, 14, 28] (by (try simp only [keep, lk, pd, enumE, Nat.reduceBEq, Nat.reduceAdd, cond_true, cond_false]); exact rfl) ?_
      refine at_ks [0, 1, 6] (by (try simp only [keep, lk, pd, enumE, Nat.reduceBEq, Nat.reduceAdd, cond_true, cond_false]); exact rfl) ?_
      refine at_back (j + 1) (by omega) ⟨j, dv2, halfC c1 (v / 2 ^ j % 2), rfl, by unfold halfC; rw [hb]; rfl, rfl, by omega, ho1.half _, ?_, he⟩
      have := halfC_k c1 (v / 2 ^ j % 2)
      omega
    · (try simp only [decide_eq_true_eq, decide_eq_false_iff_not, Bool.not_eq_true', Bool.not_eq_false', Bool.not_true, Bool.not_false, Bool.or_eq_true, Bool.and_eq_true, Int.not_lt, Int.not_le] at ht28)
      have hb : v / 2 ^ j % 2 = 0 := by omega
      refine at_skip ?_
      refine at_then ?_
      refine at_region ?_
      refine st_p rfl rfl (p_move rfl) ?_
      refine st_l rfl rfl (l_call (first := []) [0, 1] [] rfl c_57 rfl (by decide) (fun F1 hF1 hs1 => growE_calls b dv1 ⟨c1.k, c1.n, c1.r / 2⟩ F1 (by simp only; omega) (by simp only; omega) (by simp only; omega))) ?_
      rintro _ _ ⟨_, ⟨rfl, dv2, rfl⟩, rfl⟩
      refine at_hp (by (try simp only [List.take_zero, List.take_succ_cons, List.drop_zero, List.drop_succ_cons, List.drop_nil, List.length_cons, List.length_nil, Nat.zero_add, Nat.reduceAdd, List.set_cons_zero, List.set_cons_succ, List.nil_append, List.cons_append, List.append_nil, pick, List.filterMap_cons, List.filterMap_nil, List.getElem?_cons_zero, List.getElem?_cons_succ]); exact rfl) ?_
      refine at_nil ?_
      refine at_ks [0, 1, 2, 6, 8, 14, 28] (by (try simp only [keep, lk, pd, enumE, Nat.reduceBEq, Nat.reduceAdd, cond_true, cond_false]); exact rfl) ?_
      refine at_inb ?_
      refine at_then ?_
      refine at_region ?_
      refine st_p rfl rfl (p_move rfl) ?_
      refine st_p rfl rfl (p_sub (r := (j : Int) - 1) rfl rfl ((nw64 (by omega)).trans (by omega))) ?_
      refine st_p rfl rfl (p_assign rfl) ?_
      refine at_nil ?_
      refine at_ks [0, 1, 2, 6, 8, 14, 28] (by (try simp only [keep, lk, pd, enumE, Nat.reduceBEq, Nat.reduceAdd, cond_true, cond_false]); exact rfl) ?_
      refine at_ks [0, 1, 6] (by (try simp only [keep, lk, pd, enumE, Nat.reduceBEq, Nat.reduceAdd, cond_true, cond_false]); exact rfl) ?_
      refine at_back (j + 1) (by omega) ⟨j, dv2, halfC c1 (v / 2 ^ j % 2), rfl, by unfold halfC; rw [hb]; rfl, rfl, by omega, ho1.half _, ?_, he⟩
      have := halfC_k c1 (v / 2 ^ j % 2)
      omega
  · (try simp only [decide_eq_true_eq, decide_eq_false_iff_not, Bool.not_eq_true', Bool.not_eq_false', Bool.not_true, Bool.not_false, Bool.or_eq_true, Bool.and_eq_true, Int.not_lt, Int.not_le] at ht14)
    obtain rfl : j = 0 := by omega
    refine at_exit ?_
    refine at_then_x ?_
    refine at_then_x ?_
    refine at_inb_exit ?_
    exact fin_n rfl (by
        exact ⟨rfl, dv1, by rw [← he]; rfl⟩)

theorem encBytes_calls (b : Nat) (dv : Value) (c : Cd) (h5 : 5 ≤ c.k) (hk : c.k < 50000000000000) (F : Frm) :
    SC Try.prog 29 #[.pointer (some ⟨b, 0, none⟩)] (encH b dv c) F (fun w H => w = .string (strOfNums (be c.k c.n)) ∧ H = []) := by
  unfold encH encR
  refine sc_in (args := [.pointer (some ⟨b, 0, none⟩)]) Try.func29 rfl rfl (Nat.le_of_ble_eq_true rfl) ?_
  refine at_ks [0, 2, 4] (by (try simp only [keep, lk, pd, enumE, Nat.reduceBEq, Nat.reduceAdd, cond_true, cond_false]); exact rfl) ?_
  refine at_seq ?_
  refine at_region ?_
  refine st_p rfl rfl (p_assign rfl) ?_
  refine at_nil ?_
  refine at_ks [0, 2, 4] (by (try simp only [keep, lk, pd, enumE, Nat.reduceBEq, Nat.reduceAdd, cond_true, cond_false]); exact rfl) ?_
  refine at_then ?_
  refine at_seq ?_
  refine at_seq ?_
  refine at_region ?_
  refine st_p rfl rfl (p_move rfl) ?_
  refine st_p rfl rfl (p_eqn rfl rfl q_61) ?_
  refine at_nil ?_
  refine at_ks [0, 2, 4] (by (try simp only [keep, lk, pd, enumE, Nat.reduceBEq, Nat.reduceAdd, cond_true, cond_false]); exact rfl) ?_
  refine at_then ?_
  refine at_cond_f rfl ?_
  refine at_skip ?_
  refine at_then ?_
  refine at_seq ?_
  refine at_drawH [0, 1, 2, 3, 4, 5, 6, 7, 8, 9, 10, 11, 12, 13, 14, 15, 16, 17, 18, 19, 20, 21, 22, 23, 24, 25, 26, 27, 28, 29, 30, 31] [0, 1, 3, 7, 15, 0, 32, 96, 224, 480, 992, 0, 2048, 6144, 14336, 30720, 63488, 0, 131072, 393216, 917504, 1966080, 4063232, 0, 8388608, 25165824, 58720256, 125829120, 268435424, 536870880, 1073741823, 2147483647] [3, 4, 8, 14, 20, 26] [28, 29] mixd (by kernel_rfl) ?_
  refine rd_p rfl rfl rfl rfl rfl (p_move rfl) ?_
  refine rd_p rfl rfl rfl rfl rfl ((by first | exact p_nil rfl | exact p_nilf rfl)) ?_
  refine rd_p rfl rfl rfl rfl rfl ((by first | exact p_fa0 rfl o_106_0 | exact p_fa rfl o_106_0)) ?_
  refine rd_q rfl rfl rfl rfl rfl ((by first | exact q_ob 0 rfl rfl r_46 (by first | rfl | assumption) | exact q_ob 1 rfl rfl r_46 (by first | rfl | assumption) | exact q_ob 2 rfl rfl r_46 (by first | rfl | assumption) | exact q_ob 3 rfl rfl r_46 (by first | rfl | assumption) | exact q_ob 4 rfl rfl r_46 (by first | rfl | assumption) | exact q_ob 5 rfl rfl r_46 (by first | rfl | assumption) | exact q_sl 0 rfl rfl r_46 (by first | rfl | assumption) | exact q_sl 1 rfl rfl r_46 (by first | rfl | assumption) | exact q_sl 2 rfl rfl r_46 (by first | rfl | assumption) | exact q_sl 3 rfl rfl r_46 (by first | rfl | assumption) | exact q_sl 4 rfl rfl r_46 (by first | rfl | assumption) | exact q_sl 5 rfl rfl r_46 (by first | rfl | assumption) | exact q_fr rfl r_46 (by assumption))) (fun _ h => h) ?_
  refine rd_q rfl rfl rfl rfl rfl ((by first | exact q_str 0 rfl rfl Try.underlying46 Try.underlying5 Try.underlying9 | exact q_str 1 rfl rfl Try.underlying46 Try.underlying5 Try.underlying9 | exact q_str 2 rfl rfl Try.underlying46 Try.underlying5 Try.underlying9 | exact q_str 3 rfl rfl Try.underlying46 Try.underlying5 Try.underlying9 | exact q_str 4 rfl rfl Try.underlying46 Try.underlying5 Try.underlying9 | exact q_str 5 rfl rfl Try.underlying46 Try.underlying5 Try.underlying9)) (fun _ h => h) ?_
  refine rd_p rfl rfl rfl rfl rfl (p_move rfl) ?_
  refine rd_p rfl rfl rfl rfl rfl ((by first | exact p_nil rfl | exact p_nilf rfl)) ?_
  refine rd_p rfl rfl rfl rfl rfl ((by first | exact p_fa0 rfl o_106_1 | exact p_fa rfl o_106_1)) ?_
  refine rd_q rfl rfl rfl rfl rfl ((by first | exact q_ob 0 rfl rfl r_52 (by first | rfl | assumption) | exact q_ob 1 rfl rfl r_52 (by first | rfl | assumption) | exact q_ob 2 rfl rfl r_52 (by first | rfl | assumption) | exact q_ob 3 rfl rfl r_52 (by first | rfl | assumption) | exact q_ob 4 rfl rfl r_52 (by first | rfl | assumption) | exact q_ob 5 rfl rfl r_52 (by first | rfl | assumption) | exact q_sl 0 rfl rfl r_52 (by first | rfl | assumption) | exact q_sl 1 rfl rfl r_52 (by first | rfl | assumption) | exact q_sl 2 rfl rfl r_52 (by first | rfl | assumption) | exact q_sl 3 rfl rfl r_52 (by first | rfl | assumption) | exact q_sl 4 rfl rfl r_52 (by first | rfl | assumption) | exact q_sl 5 rfl rfl r_52 (by first | rfl | assumption) | exact q_fr rfl r_52 (by assumption))) (fun _ h => h) ?_
  refine rd_p rfl rfl rfl rfl rfl (p_shr (r := ((c.n % 4294967296 / 16777216 : Nat) : Int)) rfl rfl (by decide) (by rw [shrU _ _ (by decide)]; show _ / (16777216 : Int) = _; omega)) ?_
  refine rd_p rfl rfl rfl rfl rfl (p_conv (r := ((c.n / 16777216 % 256 : Nat) : Int)) rfl Try.underlying52 Try.underlying5 ((wu8 _).trans (by omega))) ?_
  refine rd_p rfl rfl rfl rfl rfl (p_move rfl) ?_
  refine rd_p rfl rfl rfl rfl rfl ((by first | exact p_nil rfl | exact p_nilf rfl)) ?_
  refine rd_p rfl rfl rfl rfl rfl ((by first | exact p_fa0 rfl o_106_1 | exact p_fa rfl o_106_1)) ?_
  refine rd_q rfl rfl rfl rfl rfl ((by first | exact q_ob 0 rfl rfl r_52 (by first | rfl | assumption) | exact q_ob 1 rfl rfl r_52 (by first | rfl | assumption) | exact q_ob 2 rfl rfl r_52 (by first | rfl | assumption) | exact q_ob 3 rfl rfl r_52 (by first | rfl | assumption) | exact q_ob 4 rfl rfl r_52 (by first | rfl | assumption) | exact q_ob 5 rfl rfl r_52 (by first | rfl | assumption) | exact q_sl 0 rfl rfl r_52 (by first | rfl | assumption) | exact q_sl 1 rfl rfl r_52 (by first | rfl | assumption) | exact q_sl 2 rfl rfl r_52 (by first | rfl | assumption) | exact q_sl 3 rfl rfl r_52 (by first | rfl | assumption) | exact q_sl 4 rfl rfl r_52 (by first | rfl | assumption) | exact q_sl 5 rfl rfl r_52 (by first | rfl | assumption) | exact q_fr rfl r_52 (by assumption))) (fun _ h => h) ?_
  refine rd_p rfl rfl rfl rfl rfl (p_shr (r := ((c.n % 4294967296 / 65536 : Nat) : Int)) rfl rfl (by decide) (by rw [shrU _ _ (by decide)]; show _ / (65536 : Int) = _; omega)) ?_
  refine rd_p rfl rfl rfl rfl rfl (p_conv (r := ((c.n / 65536 % 256 : Nat) : Int)) rfl Try.underlying52 Try.underlying5 ((wu8 _).trans (by omega))) ?_
  refine rd_p rfl rfl rfl rfl rfl (p_move rfl) ?_
  refine rd_p rfl rfl rfl rfl rfl ((by first | exact p_nil rfl | exact p_nilf rfl)) ?_
  refine rd_p rfl rfl rfl rfl rfl ((by first | exact p_fa0 rfl o_106_1 | exact p_fa rfl o_106_1)) ?_
  refine rd_q rfl rfl rfl rfl rfl ((by first | exact q_ob 0 rfl rfl r_52 (by first | rfl | assumption) | exact q_ob 1 rfl rfl r_52 (by first | rfl | assumption) | exact q_ob 2 rfl rfl r_52 (by first | rfl | assumption) | exact q_ob 3 rfl rfl r_52 (by first | rfl | assumption) | exact q_ob 4 rfl rfl r_52 (by first | rfl | assumption) | exact q_ob 5 rfl rfl r_52 (by first | rfl | assumption) | exact q_sl 0 rfl rfl r_52 (by first | rfl | assumption) | exact q_sl 1 rfl rfl r_52 (by first | rfl | assumption) | exact q_sl 2 rfl rfl r_52 (by first | rfl | assumption) | exact q_sl 3 rfl rfl r_52 (by first | rfl | assumption) | exact q_sl 4 rfl rfl r_52 (by first | rfl | assumption) | exact q_sl 5 rfl rfl r_52 (by first | rfl | assumption) | exact q_fr rfl r_52 (by assumption))) (fun _ h => h) ?_
  refine rd_p rfl rfl rfl rfl rfl (p_shr (r := ((c.n % 4294967296 / 256 : Nat) : Int)) rfl rfl (by decide) (by rw [shrU _ _ (by decide)]; show _ / (256 : Int) = _; omega)) ?_
  refine rd_p rfl rfl rfl rfl rfl (p_conv (r := ((c.n / 256 % 256 : Nat) : Int)) rfl Try.underlying52 Try.underlying5 ((wu8 _).trans (by omega))) ?_
  refine rd_p rfl rfl rfl rfl rfl (p_move rfl) ?_
  refine rd_p rfl rfl rfl rfl rfl ((by first | exact p_nil rfl | exact p_nilf rfl)) ?_
  refine rd_p rfl rfl rfl rfl rfl ((by first | exact p_fa0 rfl o_106_1 | exact p_fa rfl o_106_1)) ?_
  refine rd_q rfl rfl rfl rfl rfl ((by first | exact q_ob 0 rfl rfl r_52 (by first | rfl | assumption) | exact q_ob 1 rfl rfl r_52 (by first | rfl | assumption) | exact q_ob 2 rfl rfl r_52 (by first | rfl | assumption) | exact q_ob 3 rfl rfl r_52 (by first | rfl | assumption) | exact q_ob 4 rfl rfl r_52 (by first | rfl | assumption) | exact q_ob 5 rfl rfl r_52 (by first | rfl | assumption) | exact q_sl 0 rfl rfl r_52 (by first | rfl | assumption) | exact q_sl 1 rfl rfl r_52 (by first | rfl | assumption) | exact q_sl 2 rfl rfl r_52 (by first | rfl | assumption) | exact q_sl 3 rfl rfl r_52 (by first | rfl | assumption) | exact q_sl 4 rfl rfl r_52 (by first | rfl | assumption) | exact q_sl 5 rfl rfl r_52 (by first | rfl | assumption) | exact q_fr rfl r_52 (by assumption))) (fun _ h => h) ?_
  refine rd_p rfl rfl rfl rfl rfl (p_conv (r := ((c.n % 256 : Nat) : Int)) rfl Try.underlying52 Try.underlying5 ((wu8 _).trans (by omega))) ?_
  refine rd_l rfl rfl rfl rfl (l_bsV [_, _, _, _] _ rfl e_46 (by decide) (by decide) rfl (by simp [Value.cells]) (by simp only [List.flatMap_cons, List.flatMap_nil, Value.cells, List.nil_append, List.cons_append, List.append_nil]; exact rfl)) (fun _ => by rintro _ _ ⟨b33, rfl, rfl⟩; exact (by first | exact sub_re [1, 2, 3, 4, 5, 6, 7, 8] (by decide) rfl | exact sub_re [1, 2, 3, 4, 5, 6, 7] (by decide) rfl | exact sub_re [1, 2, 3, 4, 5, 6] (by decide) rfl | exact sub_re [1, 2, 3, 4, 5] (by decide) rfl | exact sub_re [1, 2, 3, 4] (by decide) rfl | exact sub_re [1, 2, 3] (by decide) rfl | exact sub_re [1, 2] (by decide) rfl | exact sub_re [1] (by decide) rfl | exact sub_re [] (by decide) rfl)) ?_
  rintro _ _ ⟨b33, rfl, rfl⟩
  refine rd_hp (by (try simp only [List.take_zero, List.take_succ_cons, List.drop_zero, List.drop_succ_cons, List.drop_nil, List.length_cons, List.length_nil, Nat.zero_add, Nat.reduceAdd, List.set_cons_zero, List.set_cons_succ, List.nil_append, List.cons_append, List.append_nil, pick, List.filterMap_cons, List.filterMap_nil, List.getElem?_cons_zero, List.getElem?_cons_succ]); exact rfl) ?_
  refine rd_l rfl rfl rfl rfl ((q_str (xs := [((c.n / 16777216 % 256 : Nat) : Int), ((c.n / 65536 % 256 : Nat) : Int), ((c.n / 256 % 256 : Nat) : Int), ((c.n % 256 : Nat) : Int)]) 0 rfl rfl Try.underlying46 Try.underlying5 Try.underlying9).l) (fun _ => by rintro _ _ ⟨rfl, rfl⟩; exact (by first | exact sub_re [1, 2, 3, 4, 5, 6, 7, 8] (by decide) rfl | exact sub_re [1, 2, 3, 4, 5, 6, 7] (by decide) rfl | exact sub_re [1, 2, 3, 4, 5, 6] (by decide) rfl | exact sub_re [1, 2, 3, 4, 5] (by decide) rfl | exact sub_re [1, 2, 3, 4] (by decide) rfl | exact sub_re [1, 2, 3] (by decide) rfl | exact sub_re [1, 2] (by decide) rfl | exact sub_re [1] (by decide) rfl | exact sub_re [] (by decide) rfl)) ?_
  rintro _ _ ⟨rfl, rfl⟩
  refine rd_hp (by (try simp only [List.take_zero, List.take_succ_cons, List.drop_zero, List.drop_succ_cons, List.drop_nil, List.length_cons, List.length_nil, Nat.zero_add, Nat.reduceAdd, List.set_cons_zero, List.set_cons_succ, List.nil_append, List.cons_append, List.append_nil, pick, List.filterMap_cons, List.filterMap_nil, List.getElem?_cons_zero, List.getElem?_cons_succ]); exact rfl) ?_
  refine rd_p rfl rfl rfl rfl rfl (p_adds rfl rfl (by rw [strOfNums_size, strOfNums_size, be_len]; simp; omega)) ?_
  refine rd_p rfl rfl rfl rfl rfl (p_assign rfl) ?_
  refine rd_nil ?_
  refine at_ks [0, 2, 4] (by (try simp only [keep, lk, pd, enumE, Nat.reduceBEq, Nat.reduceAdd, cond_true, cond_false]); exact rfl) ?_
  refine at_then ?_
  refine at_retc ?_
  refine at_re [] (by decide) ?_
  exact fin_1 rfl rfl (by
      refine ⟨?_, rfl⟩
      rw [strOfNums_append, ← be_4, show c.k - 4 + 4 = c.k by omega])

end Go.Proofs.Ytbpbhjnkmonlbaa