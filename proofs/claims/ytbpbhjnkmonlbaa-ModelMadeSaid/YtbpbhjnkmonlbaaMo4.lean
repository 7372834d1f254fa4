/- The model at its beginning. No condition. -/
import Derived.Test.YtbpbhjnkmonlbaaMo3
namespace Go.Proofs.Ytbpbhjnkmonlbaa
open Go.RowKit Sl
set_option linter.unusedVariables false
set_option linter.unusedSimpArgs false
set_option maxRecDepth 10000
theorem e_97 : elB Try.prog 97 = some (104, 128, 1024, (List.replicate 128 (Value.int .i64 0)).toArray) := by kernel_rfl
/-- n rows, the first j chances laid. -/
def fillL (n j : Nat) : List Int := List.replicate j 2048 ++ List.replicate (n * 128 - j) 0
theorem fill_len {n j : Nat} (h : j ≤ n * 128) : (ints .i64 (fillL n j)).length = n * 128 := by simp [fillL]; omega
theorem fill_set {n j : Nat} (h : j < n * 128) : (ints .i64 (fillL n j)).set j (N 2048) = ints .i64 (fillL n (j + 1)) := by
  rw [← List.map_set]
  congr 1
  unfold fillL
  rw [List.set_append_right _ _ (by simp), List.length_replicate, Nat.sub_self, show n * 128 - j = (n * 128 - (j + 1)) + 1 by omega, List.replicate_succ, List.set_cons_zero, List.replicate_succ' (n := j)]
  simp
theorem fill_full (n : Nat) : fillL n (128 * n) = List.replicate (128 * n) 2048 := by
  unfold fillL
  rw [show n * 128 - 128 * n = 0 by omega]; simp
theorem made_rep (m k : Nat) (x : Value) (hm : 0 < m) : (madeCells (List.replicate m x).toArray k).toList = List.replicate k x := by
  unfold madeCells
  rw [Array.toList_map, Array.toList_range, List.eq_replicate_iff]
  refine ⟨by simp, fun y hy => ?_⟩
  obtain ⟨i, _, rfl⟩ := List.mem_map.1 hy
  have : i % m < m := Nat.mod_lt _ hm
  simp [this]
theorem made_fill (n : Nat) : (madeCells (List.replicate 128 (Value.int .i64 0)).toArray (n * 128)).toList = ints .i64 (fillL n 0) := by
  rw [made_rep 128 _ _ (by decide)]
  unfold fillL
  rw [Nat.sub_zero, List.replicate_zero, List.nil_append, ints, List.map_replicate]

theorem made_calls (F : Frm) : SC Try.prog 23 #[] [] F (fun v H => ∃ mb, v = .pointer (some ⟨mb, 0, none⟩) ∧ modH mb ms0 H) := by
  refine sc_in (args := []) Try.func23 rfl rfl (Nat.le_of_ble_eq_true rfl) ?_
  refine at_ks [0, 1, 2, 3, 4, 5, 6, 9, 10, 11, 27, 28, 29, 31, 32, 47, 48] (by (try simp only [keep, lk, pd, enumE, Nat.reduceBEq, Nat.reduceAdd, cond_true, cond_false]); exact rfl) ?_
  refine at_seq ?_
  refine at_region ?_
  refine st_p rfl rfl (p_assign rfl) ?_
  refine at_nil ?_
  refine at_ks [0, 1, 2, 3, 4, 5, 6, 9, 10, 11, 27, 28, 29, 31, 32, 47, 48] (by (try simp only [keep, lk, pd, enumE, Nat.reduceBEq, Nat.reduceAdd, cond_true, cond_false]); exact rfl) ?_
  refine at_then ?_
  refine at_seq ?_
  refine at_region ?_
  refine st_p rfl rfl (p_build (vs := []) (cs := #[.slice none 0 0, .slice none 0 0, .slice none 0 0, .slice none 0 0, .slice none 0 0, .slice none 0 0, .slice none 0 0, .slice none 0 0, .slice none 0 0, .slice none 0 0, N 0, N 0]) rfl (fun _ => by kernel_rfl)) ?_
  refine st_l rfl rfl (l_box [.slice none 0 0, .slice none 0 0, .slice none 0 0, .slice none 0 0, .slice none 0 0, .slice none 0 0, .slice none 0 0, .slice none 0 0, .slice none 0 0, .slice none 0 0, N 0, N 0] rfl rfl) ?_
  rintro _ _ ⟨b8, rfl, rfl⟩
  refine at_hp (by (try simp only [List.take_zero, List.take_succ_cons, List.drop_zero, List.drop_succ_cons, List.drop_nil, List.length_cons, List.length_nil, Nat.zero_add, Nat.reduceAdd, List.set_cons_zero, List.set_cons_succ, List.nil_append, List.cons_append, List.append_nil, pick, List.filterMap_cons, List.filterMap_nil, List.getElem?_cons_zero, List.getElem?_cons_succ]); exact rfl) ?_
  refine st_p rfl rfl (p_assign rfl) ?_
  refine at_nil ?_
  refine at_ks [0, 1, 2, 3, 4, 5, 6, 9, 10, 11, 27, 28, 29, 31, 32, 47, 48] (by (try simp only [keep, lk, pd, enumE, Nat.reduceBEq, Nat.reduceAdd, cond_true, cond_false]); exact rfl) ?_
  refine at_then ?_
  refine at_seq ?_
  refine at_seq ?_
  refine at_region ?_
  refine st_p rfl rfl (p_build (cs := #[N 1, N 65, N 65]) rfl (fun _ => by kernel_rfl)) ?_
  refine st_p rfl rfl (p_move rfl) ?_
  refine at_nil ?_
  refine at_ks [0, 1, 2, 3, 4, 5, 6, 9, 10, 11, 27, 28, 29, 31, 32, 47, 48] (by (try simp only [keep, lk, pd, enumE, Nat.reduceBEq, Nat.reduceAdd, cond_true, cond_false]); exact rfl) ?_
  refine at_then ?_
  refine at_block ?_
  refine at_rounds 4 ?_
  refine at_round ?_
  refine at_seq ?_
  refine at_region ?_
  refine st_p rfl rfl (p_lss rfl rfl) ?_
  refine at_nil ?_
  refine at_ks [0, 1, 2, 3, 4, 5, 6, 9, 10, 11, 27, 28, 29, 31, 32, 47, 48] (by (try simp only [keep, lk, pd, enumE, Nat.reduceBEq, Nat.reduceAdd, cond_true, cond_false]); exact rfl) ?_
  refine at_then ?_
  refine at_seq ?_
  refine at_cond_t rfl ?_
  refine at_skip ?_
  refine at_then ?_
  refine at_seq ?_
  refine at_block ?_
  refine at_seq ?_
  refine at_region ?_
  refine st_p rfl rfl (p_move rfl) ?_
  refine st_p rfl rfl (p_idxA rfl rfl Try.underlying102 r_3 s_3 (by first | decide | omega) (by first | decide | omega) (by first | rfl | assumption)) ?_
  refine st_p rfl rfl (p_assign rfl) ?_
  refine st_p rfl rfl (p_assign rfl) ?_
  refine at_nil ?_
  refine at_ks [0, 1, 2, 3, 4, 5, 6, 9, 10, 11, 27, 28, 29, 31, 32, 47, 48] (by (try simp only [keep, lk, pd, enumE, Nat.reduceBEq, Nat.reduceAdd, cond_true, cond_false]); exact rfl) ?_
  refine at_then ?_
  refine at_seq ?_
  refine at_drawH [0, 1, 2, 4, 5, 3, 6, 7] [0, 0, 0, 4, 1, 17, 63, 127] [] [3, 7] mixd (by kernel_rfl) ?_
  refine rd_p rfl rfl rfl rfl rfl (p_move rfl) ?_
  refine rd_p rfl rfl rfl rfl rfl (p_move rfl) ?_
  refine rd_p rfl rfl rfl rfl rfl (p_move rfl) ?_
  refine rd_p rfl rfl rfl rfl rfl ((by first | exact p_nil rfl | exact p_nilf rfl)) ?_
  refine rd_p rfl rfl rfl rfl rfl ((by first | exact p_fa0 rfl o_101_0 | exact p_fa rfl o_101_0)) ?_
  refine rd_l rfl rfl rfl rfl (l_make (m := 1) e_97 rfl rfl (by decide) (by decide)) (fun h => nomatch (show false = true from h)) ?_
  rintro _ _ ⟨r0, rfl, rfl⟩
  rw [made_fill 1]
  refine rd_hp (by (try simp only [List.take_zero, List.take_succ_cons, List.drop_zero, List.drop_succ_cons, List.drop_nil, List.length_cons, List.length_nil, Nat.zero_add, Nat.reduceAdd, List.set_cons_zero, List.set_cons_succ, List.nil_append, List.cons_append, List.append_nil, pick, List.filterMap_cons, List.filterMap_nil, List.getElem?_cons_zero, List.getElem?_cons_succ]); exact rfl) ?_
  refine rd_p rfl rfl rfl rfl rfl (p_iar rfl rfl a_98 (by first | decide | omega) (by first | decide | omega)) ?_
  refine rd_l rfl rfl rfl rfl ((by first | exact l_ob 0 rfl rfl rfl (by first | rfl | assumption) (by first | rfl | assumption) s_97 (by first | decide | omega | (simp only [List.length_cons, List.length_nil]; omega) | (simp; omega) | (simp; done)) | exact l_ob 1 rfl rfl rfl (by first | rfl | assumption) (by first | rfl | assumption) s_97 (by first | decide | omega | (simp only [List.length_cons, List.length_nil]; omega) | (simp; omega) | (simp; done)) | exact l_ob 2 rfl rfl rfl (by first | rfl | assumption) (by first | rfl | assumption) s_97 (by first | decide | omega | (simp only [List.length_cons, List.length_nil]; omega) | (simp; omega) | (simp; done)) | exact l_ob 3 rfl rfl rfl (by first | rfl | assumption) (by first | rfl | assumption) s_97 (by first | decide | omega | (simp only [List.length_cons, List.length_nil]; omega) | (simp; omega) | (simp; done)) | exact l_sl 0 rfl rfl rfl (by first | rfl | assumption) (by first | rfl | assumption) s_97 (by first | decide | omega | (simp only [List.length_cons, List.length_nil]; omega) | (simp; omega) | (simp; done)) | exact l_sl 1 rfl rfl rfl (by first | rfl | assumption) (by first | rfl | assumption) s_97 (by first | decide | omega | (simp only [List.length_cons, List.length_nil]; omega) | (simp; omega) | (simp; done)) | exact l_sl 2 rfl rfl rfl (by first | rfl | assumption) (by first | rfl | assumption) s_97 (by first | decide | omega | (simp only [List.length_cons, List.length_nil]; omega) | (simp; omega) | (simp; done)) | exact l_sl 3 rfl rfl rfl (by first | rfl | assumption) (by first | rfl | assumption) s_97 (by first | decide | omega | (simp only [List.length_cons, List.length_nil]; omega) | (simp; omega) | (simp; done)))) (fun h => nomatch (show false = true from h)) ?_
  rintro _ _ ⟨rfl, rfl⟩
  refine rd_hp (by (try simp only [List.take_zero, List.take_succ_cons, List.drop_zero, List.drop_succ_cons, List.drop_nil, List.length_cons, List.length_nil, Nat.zero_add, Nat.reduceAdd, List.set_cons_zero, List.set_cons_succ, List.nil_append, List.cons_append, List.append_nil, pick, List.filterMap_cons, List.filterMap_nil, List.getElem?_cons_zero, List.getElem?_cons_succ]); exact rfl) ?_
  refine rd_nil ?_
  refine at_ks [0, 1, 2, 3, 4, 5, 6, 9, 10, 11, 27, 28, 29, 31, 32, 47, 48] (by (try simp only [keep, lk, pd, enumE, Nat.reduceBEq, Nat.reduceAdd, cond_true, cond_false]); exact rfl) ?_
  refine at_then ?_
  refine at_seq ?_
  refine at_region ?_
  refine st_p rfl rfl (p_move rfl) ?_
  refine st_p rfl rfl (p_move rfl) ?_
  refine st_p rfl rfl ((by first | exact p_nil rfl | exact p_nilf rfl)) ?_
  refine st_p rfl rfl ((by first | exact p_fa0 rfl o_101_0 | exact p_fa rfl o_101_0)) ?_
  refine st_p rfl rfl (p_iar rfl rfl a_98 (by first | decide | omega) (by first | decide | omega)) ?_
  refine st_q rfl rfl ((by first | exact q_ob 0 rfl rfl r_97 (by first | rfl | assumption) | exact q_ob 1 rfl rfl r_97 (by first | rfl | assumption) | exact q_ob 2 rfl rfl r_97 (by first | rfl | assumption) | exact q_ob 3 rfl rfl r_97 (by first | rfl | assumption) | exact q_sl 0 rfl rfl r_97 (by first | rfl | assumption) | exact q_sl 1 rfl rfl r_97 (by first | rfl | assumption) | exact q_sl 2 rfl rfl r_97 (by first | rfl | assumption) | exact q_sl 3 rfl rfl r_97 (by first | rfl | assumption) | exact q_fr rfl r_97 (by assumption))) ?_
  refine st_p rfl rfl (p_len rfl m_97) ?_
  refine st_p rfl rfl (p_move rfl) ?_
  refine at_nil ?_
  refine at_ks [0, 1, 2, 3, 4, 5, 6, 9, 10, 11, 27, 28, 29, 31, 32, 47, 48] (by (try simp only [keep, lk, pd, enumE, Nat.reduceBEq, Nat.reduceAdd, cond_true, cond_false]); exact rfl) ?_
  refine at_then ?_
  refine at_block ?_
  refine at_ks [1, 2, 9, 10, 27, 28] (by (try simp only [keep, lk, pd, enumE, Nat.reduceBEq, Nat.reduceAdd, cond_true, cond_false]); exact rfl) ?_
  refine at_loop (fun k E H => ∃ i : Nat, E = [(1, .pointer (some ⟨b8, 0, none⟩)), (2, N 0), (9, .agg #[N 1, N 65, N 65]), (10, N 0), (27, N (1 : Nat)), (28, N (i : Int))] ∧ H = [.sl (.slice (some ⟨r0, 0, none⟩) 1 1) 104 128 1 (ints .i64 (fillL 1 (128 * i))), .ob b8 [.slice (some ⟨r0, 0, none⟩) 1 1, .slice none 0 0, .slice none 0 0, .slice none 0 0, .slice none 0 0, .slice none 0 0, .slice none 0 0, .slice none 0 0, .slice none 0 0, .slice none 0 0, N 0, N 0] 101] ∧ i ≤ 1 ∧ k + i = 2) (2) (⟨0, rfl, rfl, by omega, by omega⟩) ?_
  rintro k _ _ ⟨i, rfl, rfl, hi, hk⟩
  refine at_seq ?_
  refine at_region ?_
  refine st_p rfl rfl (p_lss rfl rfl) ?_
  refine at_nil ?_
  refine at_ks [0, 1, 2, 3, 4, 5, 6, 9, 10, 11, 27, 28, 29, 31, 32, 47, 48] (by (try simp only [keep, lk, pd, enumE, Nat.reduceBEq, Nat.reduceAdd, cond_true, cond_false]); exact rfl) ?_
  refine at_then ?_
  refine at_seq ?_
  refine at_cond rfl (fun ht29 => ?_) (fun ht29 => ?_)
  · (try simp only [decide_eq_true_eq, decide_eq_false_iff_not, Bool.not_eq_true', Bool.not_eq_false', Bool.not_true, Bool.not_false, Bool.or_eq_true, Bool.and_eq_true, Int.not_lt, Int.not_le] at ht29)
    refine at_skip ?_
    refine at_then ?_
    refine at_seq ?_
    refine at_block ?_
    refine at_seq ?_
    refine at_region ?_
    refine st_p rfl rfl (p_move rfl) ?_
    refine st_p rfl rfl (p_assign rfl) ?_
    refine at_nil ?_
    refine at_ks [0, 1, 2, 3, 4, 5, 6, 9, 10, 11, 27, 28, 29, 31, 32, 47, 48] (by (try simp only [keep, lk, pd, enumE, Nat.reduceBEq, Nat.reduceAdd, cond_true, cond_false]); exact rfl) ?_
    refine at_then ?_
    refine at_seq ?_
    refine at_region ?_
    refine st_p rfl rfl (p_move rfl) ?_
    refine at_nil ?_
    refine at_ks [0, 1, 2, 3, 4, 5, 6, 9, 10, 11, 27, 28, 29, 31, 32, 47, 48] (by (try simp only [keep, lk, pd, enumE, Nat.reduceBEq, Nat.reduceAdd, cond_true, cond_false]); exact rfl) ?_
    refine at_then ?_
    refine at_block ?_
    refine at_ks [1, 2, 4, 9, 10, 27, 28, 31] (by (try simp only [keep, lk, pd, enumE, Nat.reduceBEq, Nat.reduceAdd, cond_true, cond_false]); exact rfl) ?_
    refine at_loop (fun k2 E H => ∃ j : Nat, E = [(1, .pointer (some ⟨b8, 0, none⟩)), (2, N 0), (4, N (i : Int)), (9, .agg #[N 1, N 65, N 65]), (10, N 0), (27, N (1 : Nat)), (28, N (i : Int)), (31, N (j : Int))] ∧ H = [.sl (.slice (some ⟨r0, 0, none⟩) 1 1) 104 128 1 (ints .i64 (fillL 1 (128 * i + j))), .ob b8 [.slice (some ⟨r0, 0, none⟩) 1 1, .slice none 0 0, .slice none 0 0, .slice none 0 0, .slice none 0 0, .slice none 0 0, .slice none 0 0, .slice none 0 0, .slice none 0 0, .slice none 0 0, N 0, N 0] 101] ∧ j ≤ 128 ∧ k2 + j = 129) (129) (⟨0, rfl, rfl, by omega, by omega⟩) ?_
    rintro k2 _ _ ⟨j, rfl, rfl, hj, hk2⟩
    refine at_seq ?_
    refine at_region ?_
    refine st_p rfl rfl (p_lss rfl rfl) ?_
    refine at_nil ?_
    refine at_ks [0, 1, 2, 3, 4, 5, 6, 9, 10, 11, 27, 28, 29, 31, 32, 47, 48] (by (try simp only [keep, lk, pd, enumE, Nat.reduceBEq, Nat.reduceAdd, cond_true, cond_false]); exact rfl) ?_
    refine at_then ?_
    refine at_seq ?_
    refine at_cond rfl (fun ht32 => ?_) (fun ht32 => ?_)
    · (try simp only [decide_eq_true_eq, decide_eq_false_iff_not, Bool.not_eq_true', Bool.not_eq_false', Bool.not_true, Bool.not_false, Bool.or_eq_true, Bool.and_eq_true, Int.not_lt, Int.not_le] at ht32)
      have hi2 : i < 1 := by omega
      have hL := fill_len (n := 1) (j := 128 * i + j) (by omega)
      have hpos : ((i : Nat) : Int).toNat * 128 + ((j : Nat) : Int).toNat * 1 = 128 * i + j := by omega
      refine at_skip ?_
      refine at_then ?_
      refine at_seq ?_
      refine at_block ?_
      refine at_seq ?_
      refine at_region ?_
      refine st_p rfl rfl (p_move rfl) ?_
      refine st_p rfl rfl (p_assign rfl) ?_
      refine at_nil ?_
      refine at_ks [0, 1, 2, 3, 4, 5, 6, 9, 10, 11, 27, 28, 29, 31, 32, 47, 48] (by (try simp only [keep, lk, pd, enumE, Nat.reduceBEq, Nat.reduceAdd, cond_true, cond_false]); exact rfl) ?_
      refine at_then ?_
      refine at_region ?_
      refine st_p rfl rfl (p_move rfl) ?_
      refine st_p rfl rfl (p_move rfl) ?_
      refine st_p rfl rfl ((by first | exact p_nil rfl | exact p_nilf rfl)) ?_
      refine st_p rfl rfl ((by first | exact p_fa0 rfl o_101_0 | exact p_fa rfl o_101_0)) ?_
      refine st_p rfl rfl (p_iar rfl rfl a_98 (by first | decide | omega) (by first | decide | omega)) ?_
      refine st_q rfl rfl ((by first | exact q_ob 0 rfl rfl r_97 (by first | rfl | assumption) | exact q_ob 1 rfl rfl r_97 (by first | rfl | assumption) | exact q_ob 2 rfl rfl r_97 (by first | rfl | assumption) | exact q_ob 3 rfl rfl r_97 (by first | rfl | assumption) | exact q_sl 0 rfl rfl r_97 (by first | rfl | assumption) | exact q_sl 1 rfl rfl r_97 (by first | rfl | assumption) | exact q_sl 2 rfl rfl r_97 (by first | rfl | assumption) | exact q_sl 3 rfl rfl r_97 (by first | rfl | assumption) | exact q_fr rfl r_97 (by assumption))) ?_
      refine st_p rfl rfl (p_move rfl) ?_
      refine st_p rfl rfl (p_move rfl) ?_
      refine st_p rfl rfl ((by first | exact p_ia1 rfl rfl z_97 (by first | decide | omega) (by first | decide | omega) | exact p_iaN rfl rfl z_97 (by first | decide | omega) (by first | decide | omega) | exact p_iaO1 rfl rfl z_97 (by first | decide | omega) (by first | decide | omega) | exact p_iaO rfl rfl z_97 (by first | decide | omega) (by first | decide | omega))) ?_
      refine st_p rfl rfl (p_iar rfl rfl a_104 (by first | decide | omega) (by first | decide | omega)) ?_
      refine st_l rfl rfl (l_sl 0 rfl rfl rfl rfl rfl s_3 (by omega)) ?_
      rintro _ _ ⟨rfl, rfl⟩
      refine at_hp (by (try simp only [List.take_zero, List.take_succ_cons, List.drop_zero, List.drop_succ_cons, List.drop_nil, List.length_cons, List.length_nil, Nat.zero_add, Nat.reduceAdd, List.set_cons_zero, List.set_cons_succ, List.nil_append, List.cons_append, List.append_nil, pick, List.filterMap_cons, List.filterMap_nil, List.getElem?_cons_zero, List.getElem?_cons_succ]); exact rfl) ?_
      refine at_nil ?_
      refine at_ks [0, 1, 2, 3, 4, 5, 6, 9, 10, 11, 27, 28, 29, 31, 32, 47, 48] (by (try simp only [keep, lk, pd, enumE, Nat.reduceBEq, Nat.reduceAdd, cond_true, cond_false]); exact rfl) ?_
      refine at_inb ?_
      refine at_then ?_
      refine at_region ?_
      refine st_p rfl rfl (p_add rfl rfl (by first | exact nw64 (by omega) | exact nwu64 (by omega) | exact nwu8 (by omega) | exact nwu16 (by omega) | exact wu64 _ | exact wu8 _ | exact wi64 _ | rfl)) ?_
      refine st_p rfl rfl (p_move rfl) ?_
      refine at_nil ?_
      refine at_ks [0, 1, 2, 3, 4, 5, 6, 9, 10, 11, 27, 28, 29, 31, 32, 47, 48] (by (try simp only [keep, lk, pd, enumE, Nat.reduceBEq, Nat.reduceAdd, cond_true, cond_false]); exact rfl) ?_
      refine at_ks [1, 2, 4, 9, 10, 27, 28, 31] (by (try simp only [keep, lk, pd, enumE, Nat.reduceBEq, Nat.reduceAdd, cond_true, cond_false]); exact rfl) ?_
      refine at_back (k2 - 1) (by omega) ⟨j + 1, rfl, ?_, by omega, by omega⟩
      rw [hpos, fill_set (by omega)]; rfl
    · (try simp only [decide_eq_true_eq, decide_eq_false_iff_not, Bool.not_eq_true', Bool.not_eq_false', Bool.not_true, Bool.not_false, Bool.or_eq_true, Bool.and_eq_true, Int.not_lt, Int.not_le] at ht32)
      obtain rfl : j = 128 := by omega
      refine at_exit ?_
      refine at_then_x ?_
      refine at_then_x ?_
      refine at_inb_exit ?_
      refine at_inb ?_
      refine at_then ?_
      refine at_region ?_
      refine st_p rfl rfl (p_add rfl rfl (by first | exact nw64 (by omega) | exact nwu64 (by omega) | exact nwu8 (by omega) | exact nwu16 (by omega) | exact wu64 _ | exact wu8 _ | exact wi64 _ | rfl)) ?_
      refine st_p rfl rfl (p_move rfl) ?_
      refine at_nil ?_
      refine at_ks [0, 1, 2, 3, 4, 5, 6, 9, 10, 11, 27, 28, 29, 31, 32, 47, 48] (by (try simp only [keep, lk, pd, enumE, Nat.reduceBEq, Nat.reduceAdd, cond_true, cond_false]); exact rfl) ?_
      refine at_ks [1, 2, 9, 10, 27, 28] (by (try simp only [keep, lk, pd, enumE, Nat.reduceBEq, Nat.reduceAdd, cond_true, cond_false]); exact rfl) ?_
      refine at_back (k - 1) (by omega) ⟨i + 1, rfl, rfl, by omega, by omega⟩
  · (try simp only [decide_eq_true_eq, decide_eq_false_iff_not, Bool.not_eq_true', Bool.not_eq_false', Bool.not_true, Bool.not_false, Bool.or_eq_true, Bool.and_eq_true, Int.not_lt, Int.not_le] at ht29)
    obtain rfl : i = 1 := by omega
    refine at_exit ?_
    refine at_then_x ?_
    refine at_then_x ?_
    refine at_inb_exit ?_
    refine at_inb ?_
    refine at_then ?_
    refine at_region ?_
    refine st_p rfl rfl (p_add (r := 1) rfl rfl (by decide)) ?_
    refine st_p rfl rfl (p_move rfl) ?_
    refine at_nil ?_
    refine at_ks [0, 1, 2, 3, 4, 5, 6, 9, 10, 11, 27, 28, 29, 31, 32, 47, 48] (by (try simp only [keep, lk, pd, enumE, Nat.reduceBEq, Nat.reduceAdd, cond_true, cond_false]); exact rfl) ?_
    refine at_then ?_
    refine at_round ?_
    refine at_seq ?_
    refine at_region ?_
    refine st_p rfl rfl (p_lss rfl rfl) ?_
    refine at_nil ?_
    refine at_ks [0, 1, 2, 3, 4, 5, 6, 9, 10, 11, 27, 28, 29, 31, 32, 47, 48] (by (try simp only [keep, lk, pd, enumE, Nat.reduceBEq, Nat.reduceAdd, cond_true, cond_false]); exact rfl) ?_
    refine at_then ?_
    refine at_seq ?_
    refine at_cond_t rfl ?_
    refine at_skip ?_
    refine at_then ?_
    refine at_seq ?_
    refine at_block ?_
    refine at_seq ?_
    refine at_region ?_
    refine st_p rfl rfl (p_move rfl) ?_
    refine st_p rfl rfl (p_idxA rfl rfl Try.underlying102 r_3 s_3 (by first | decide | omega) (by first | decide | omega) (by first | rfl | assumption)) ?_
    refine st_p rfl rfl (p_assign rfl) ?_
    refine st_p rfl rfl (p_assign rfl) ?_
    refine at_nil ?_
    refine at_ks [0, 1, 2, 3, 4, 5, 6, 9, 10, 11, 27, 28, 29, 31, 32, 47, 48] (by (try simp only [keep, lk, pd, enumE, Nat.reduceBEq, Nat.reduceAdd, cond_true, cond_false]); exact rfl) ?_
    refine at_then ?_
    refine at_seq ?_
    refine at_drawH [0, 1, 2, 4, 5, 3, 6, 7] [0, 0, 0, 4, 1, 17, 63, 127] [] [3, 7] mixd (by kernel_rfl) ?_
    refine rd_p rfl rfl rfl rfl rfl (p_move rfl) ?_
    refine rd_p rfl rfl rfl rfl rfl (p_move rfl) ?_
    refine rd_p rfl rfl rfl rfl rfl (p_move rfl) ?_
    refine rd_p rfl rfl rfl rfl rfl ((by first | exact p_nil rfl | exact p_nilf rfl)) ?_
    refine rd_p rfl rfl rfl rfl rfl ((by first | exact p_fa0 rfl o_101_0 | exact p_fa rfl o_101_0)) ?_
    refine rd_l rfl rfl rfl rfl (l_make (m := 65) e_97 rfl rfl (by decide) (by decide)) (fun h => nomatch (show false = true from h)) ?_
    rintro _ _ ⟨r1, rfl, rfl⟩
    rw [made_fill 65]
    refine rd_hp (by (try simp only [List.take_zero, List.take_succ_cons, List.drop_zero, List.drop_succ_cons, List.drop_nil, List.length_cons, List.length_nil, Nat.zero_add, Nat.reduceAdd, List.set_cons_zero, List.set_cons_succ, List.nil_append, List.cons_append, List.append_nil, pick, List.filterMap_cons, List.filterMap_nil, List.getElem?_cons_zero, List.getElem?_cons_succ]); exact rfl) ?_
    refine rd_p rfl rfl rfl rfl rfl (p_iar rfl rfl a_98 (by first | decide | omega) (by first | decide | omega)) ?_
    refine rd_l rfl rfl rfl rfl ((by first | exact l_ob 0 rfl rfl rfl (by first | rfl | assumption) (by first | rfl | assumption) s_97 (by first | decide | omega | (simp only [List.length_cons, List.length_nil]; omega) | (simp; omega) | (simp; done)) | exact l_ob 1 rfl rfl rfl (by first | rfl | assumption) (by first | rfl | assumption) s_97 (by first | decide | omega | (simp only [List.length_cons, List.length_nil]; omega) | (simp; omega) | (simp; done)) | exact l_ob 2 rfl rfl rfl (by first | rfl | assumption) (by first | rfl | assumption) s_97 (by first | decide | omega | (simp only [List.length_cons, List.length_nil]; omega) | (simp; omega) | (simp; done)) | exact l_ob 3 rfl rfl rfl (by first | rfl | assumption) (by first | rfl | assumption) s_97 (by first | decide | omega | (simp only [List.length_cons, List.length_nil]; omega) | (simp; omega) | (simp; done)) | exact l_sl 0 rfl rfl rfl (by first | rfl | assumption) (by first | rfl | assumption) s_97 (by first | decide | omega | (simp only [List.length_cons, List.length_nil]; omega) | (simp; omega) | (simp; done)) | exact l_sl 1 rfl rfl rfl (by first | rfl | assumption) (by first | rfl | assumption) s_97 (by first | decide | omega | (simp only [List.length_cons, List.length_nil]; omega) | (simp; omega) | (simp; done)) | exact l_sl 2 rfl rfl rfl (by first | rfl | assumption) (by first | rfl | assumption) s_97 (by first | decide | omega | (simp only [List.length_cons, List.length_nil]; omega) | (simp; omega) | (simp; done)) | exact l_sl 3 rfl rfl rfl (by first | rfl | assumption) (by first | rfl | assumption) s_97 (by first | decide | omega | (simp only [List.length_cons, List.length_nil]; omega) | (simp; omega) | (simp; done)))) (fun h => nomatch (show false = true from h)) ?_
    rintro _ _ ⟨rfl, rfl⟩
    refine rd_hp (by (try simp only [List.take_zero, List.take_succ_cons, List.drop_zero, List.drop_succ_cons, List.drop_nil, List.length_cons, List.length_nil, Nat.zero_add, Nat.reduceAdd, List.set_cons_zero, List.set_cons_succ, List.nil_append, List.cons_append, List.append_nil, pick, List.filterMap_cons, List.filterMap_nil, List.getElem?_cons_zero, List.getElem?_cons_succ]); exact rfl) ?_
    refine rd_nil ?_
    refine at_ks [0, 1, 2, 3, 4, 5, 6, 9, 10, 11, 27, 28, 29, 31, 32, 47, 48] (by (try simp only [keep, lk, pd, enumE, Nat.reduceBEq, Nat.reduceAdd, cond_true, cond_false]); exact rfl) ?_
    refine at_then ?_
    refine at_seq ?_
    refine at_region ?_
    refine st_p rfl rfl (p_move rfl) ?_
    refine st_p rfl rfl (p_move rfl) ?_
    refine st_p rfl rfl ((by first | exact p_nil rfl | exact p_nilf rfl)) ?_
    refine st_p rfl rfl ((by first | exact p_fa0 rfl o_101_0 | exact p_fa rfl o_101_0)) ?_
    refine st_p rfl rfl (p_iar rfl rfl a_98 (by first | decide | omega) (by first | decide | omega)) ?_
    refine st_q rfl rfl ((by first | exact q_ob 0 rfl rfl r_97 (by first | rfl | assumption) | exact q_ob 1 rfl rfl r_97 (by first | rfl | assumption) | exact q_ob 2 rfl rfl r_97 (by first | rfl | assumption) | exact q_ob 3 rfl rfl r_97 (by first | rfl | assumption) | exact q_sl 0 rfl rfl r_97 (by first | rfl | assumption) | exact q_sl 1 rfl rfl r_97 (by first | rfl | assumption) | exact q_sl 2 rfl rfl r_97 (by first | rfl | assumption) | exact q_sl 3 rfl rfl r_97 (by first | rfl | assumption) | exact q_fr rfl r_97 (by assumption))) ?_
    refine st_p rfl rfl (p_len rfl m_97) ?_
    refine st_p rfl rfl (p_move rfl) ?_
    refine at_nil ?_
    refine at_ks [0, 1, 2, 3, 4, 5, 6, 9, 10, 11, 27, 28, 29, 31, 32, 47, 48] (by (try simp only [keep, lk, pd, enumE, Nat.reduceBEq, Nat.reduceAdd, cond_true, cond_false]); exact rfl) ?_
    refine at_then ?_
    refine at_block ?_
    refine at_ks [1, 2, 9, 10, 27, 28] (by (try simp only [keep, lk, pd, enumE, Nat.reduceBEq, Nat.reduceAdd, cond_true, cond_false]); exact rfl) ?_
    refine at_loop (fun k E H => ∃ i : Nat, E = [(1, .pointer (some ⟨b8, 0, none⟩)), (2, N 1), (9, .agg #[N 1, N 65, N 65]), (10, N 1), (27, N (65 : Nat)), (28, N (i : Int))] ∧ H = [.sl (.slice (some ⟨r1, 0, none⟩) 65 65) 104 128 65 (ints .i64 (fillL 65 (128 * i))), .sl (.slice (some ⟨r0, 0, none⟩) 1 1) 104 128 1 (ints .i64 (fillL 1 (128 * 1))), .ob b8 [.slice (some ⟨r0, 0, none⟩) 1 1, .slice (some ⟨r1, 0, none⟩) 65 65, .slice none 0 0, .slice none 0 0, .slice none 0 0, .slice none 0 0, .slice none 0 0, .slice none 0 0, .slice none 0 0, .slice none 0 0, N 0, N 0] 101] ∧ i ≤ 65 ∧ k + i = 66) (66) (⟨0, rfl, rfl, by omega, by omega⟩) ?_
    rintro k _ _ ⟨i, rfl, rfl, hi, hk⟩
    refine at_seq ?_
    refine at_region ?_
    refine st_p rfl rfl (p_lss rfl rfl) ?_
    refine at_nil ?_
    refine at_ks [0, 1, 2, 3, 4, 5, 6, 9, 10, 11, 27, 28, 29, 31, 32, 47, 48] (by (try simp only [keep, lk, pd, enumE, Nat.reduceBEq, Nat.reduceAdd, cond_true, cond_false]); exact rfl) ?_
    refine at_then ?_
    refine at_seq ?_
    refine at_cond rfl (fun ht29 => ?_) (fun ht29 => ?_)
    · (try simp only [decide_eq_true_eq, decide_eq_false_iff_not, Bool.not_eq_true', Bool.not_eq_false', Bool.not_true, Bool.not_false, Bool.or_eq_true, Bool.and_eq_true, Int.not_lt, Int.not_le] at ht29)
      refine at_skip ?_
      refine at_then ?_
      refine at_seq ?_
      refine at_block ?_
      refine at_seq ?_
      refine at_region ?_
      refine st_p rfl rfl (p_move rfl) ?_
      refine st_p rfl rfl (p_assign rfl) ?_
      refine at_nil ?_
      refine at_ks [0, 1, 2, 3, 4, 5, 6, 9, 10, 11, 27, 28, 29, 31, 32, 47, 48] (by (try simp only [keep, lk, pd, enumE, Nat.reduceBEq, Nat.reduceAdd, cond_true, cond_false]); exact rfl) ?_
      refine at_then ?_
      refine at_seq ?_
      refine at_region ?_
      refine st_p rfl rfl (p_move rfl) ?_
      refine at_nil ?_
      refine at_ks [0, 1, 2, 3, 4, 5, 6, 9, 10, 11, 27, 28, 29, 31, 32, 47, 48] (by (try simp only [keep, lk, pd, enumE, Nat.reduceBEq, Nat.reduceAdd, cond_true, cond_false]); exact rfl) ?_
      refine at_then ?_
      refine at_block ?_
      refine at_ks [1, 2, 4, 9, 10, 27, 28, 31] (by (try simp only [keep, lk, pd, enumE, Nat.reduceBEq, Nat.reduceAdd, cond_true, cond_false]); exact rfl) ?_
      refine at_loop (fun k2 E H => ∃ j : Nat, E = [(1, .pointer (some ⟨b8, 0, none⟩)), (2, N 1), (4, N (i : Int)), (9, .agg #[N 1, N 65, N 65]), (10, N 1), (27, N (65 : Nat)), (28, N (i : Int)), (31, N (j : Int))] ∧ H = [.sl (.slice (some ⟨r1, 0, none⟩) 65 65) 104 128 65 (ints .i64 (fillL 65 (128 * i + j))), .sl (.slice (some ⟨r0, 0, none⟩) 1 1) 104 128 1 (ints .i64 (fillL 1 (128 * 1))), .ob b8 [.slice (some ⟨r0, 0, none⟩) 1 1, .slice (some ⟨r1, 0, none⟩) 65 65, .slice none 0 0, .slice none 0 0, .slice none 0 0, .slice none 0 0, .slice none 0 0, .slice none 0 0, .slice none 0 0, .slice none 0 0, N 0, N 0] 101] ∧ j ≤ 128 ∧ k2 + j = 129) (129) (⟨0, rfl, rfl, by omega, by omega⟩) ?_
      rintro k2 _ _ ⟨j, rfl, rfl, hj, hk2⟩
      refine at_seq ?_
      refine at_region ?_
      refine st_p rfl rfl (p_lss rfl rfl) ?_
      refine at_nil ?_
      refine at_ks [0, 1, 2, 3, 4, 5, 6, 9, 10, 11, 27, 28, 29, 31, 32, 47, 48] (by (try simp only [keep, lk, pd, enumE, Nat.reduceBEq, Nat.reduceAdd, cond_true, cond_false]); exact rfl) ?_
      refine at_then ?_
      refine at_seq ?_
      refine at_cond rfl (fun ht32 => ?_) (fun ht32 => ?_)
      · (try simp only [decide_eq_true_eq, decide_eq_false_iff_not, Bool.not_eq_true', Bool.not_eq_false', Bool.not_true, Bool.not_false, Bool.or_eq_true, Bool.and_eq_true, Int.not_lt, Int.not_le] at ht32)
        have hi2 : i < 65 := by omega
        have hL := fill_len (n := 65) (j := 128 * i + j) (by omega)
        have hpos : ((i : Nat) : Int).toNat * 128 + ((j : Nat) : Int).toNat * 1 = 128 * i + j := by omega
        refine at_skip ?_
        refine at_then ?_
        refine at_seq ?_
        refine at_block ?_
        refine at_seq ?_
        refine at_region ?_
        refine st_p rfl rfl (p_move rfl) ?_
        refine st_p rfl rfl (p_assign rfl) ?_
        refine at_nil ?_
        refine at_ks [0, 1, 2, 3, 4, 5, 6, 9, 10, 11, 27, 28, 29, 31, 32, 47, 48] (by (try simp only [keep, lk, pd, enumE, Nat.reduceBEq, Nat.reduceAdd, cond_true, cond_false]); exact rfl) ?_
        refine at_then ?_
        refine at_region ?_
        refine st_p rfl rfl (p_move rfl) ?_
        refine st_p rfl rfl (p_move rfl) ?_
        refine st_p rfl rfl ((by first | exact p_nil rfl | exact p_nilf rfl)) ?_
        refine st_p rfl rfl ((by first | exact p_fa0 rfl o_101_0 | exact p_fa rfl o_101_0)) ?_
        refine st_p rfl rfl (p_iar rfl rfl a_98 (by first | decide | omega) (by first | decide | omega)) ?_
        refine st_q rfl rfl ((by first | exact q_ob 0 rfl rfl r_97 (by first | rfl | assumption) | exact q_ob 1 rfl rfl r_97 (by first | rfl | assumption) | exact q_ob 2 rfl rfl r_97 (by first | rfl | assumption) | exact q_ob 3 rfl rfl r_97 (by first | rfl | assumption) | exact q_sl 0 rfl rfl r_97 (by first | rfl | assumption) | exact q_sl 1 rfl rfl r_97 (by first | rfl | assumption) | exact q_sl 2 rfl rfl r_97 (by first | rfl | assumption) | exact q_sl 3 rfl rfl r_97 (by first | rfl | assumption) | exact q_fr rfl r_97 (by assumption))) ?_
        refine st_p rfl rfl (p_move rfl) ?_
        refine st_p rfl rfl (p_move rfl) ?_
        refine st_p rfl rfl ((by first | exact p_ia1 rfl rfl z_97 (by first | decide | omega) (by first | decide | omega) | exact p_iaN rfl rfl z_97 (by first | decide | omega) (by first | decide | omega) | exact p_iaO1 rfl rfl z_97 (by first | decide | omega) (by first | decide | omega) | exact p_iaO rfl rfl z_97 (by first | decide | omega) (by first | decide | omega))) ?_
        refine st_p rfl rfl (p_iar rfl rfl a_104 (by first | decide | omega) (by first | decide | omega)) ?_
        refine st_l rfl rfl (l_sl 0 rfl rfl rfl rfl rfl s_3 (by omega)) ?_
        rintro _ _ ⟨rfl, rfl⟩
        refine at_hp (by (try simp only [List.take_zero, List.take_succ_cons, List.drop_zero, List.drop_succ_cons, List.drop_nil, List.length_cons, List.length_nil, Nat.zero_add, Nat.reduceAdd, List.set_cons_zero, List.set_cons_succ, List.nil_append, List.cons_append, List.append_nil, pick, List.filterMap_cons, List.filterMap_nil, List.getElem?_cons_zero, List.getElem?_cons_succ]); exact rfl) ?_
        refine at_nil ?_
        refine at_ks [0, 1, 2, 3, 4, 5, 6, 9, 10, 11, 27, 28, 29, 31, 32, 47, 48] (by (try simp only [keep, lk, pd, enumE, Nat.reduceBEq, Nat.reduceAdd, cond_true, cond_false]); exact rfl) ?_
        refine at_inb ?_
        refine at_then ?_
        refine at_region ?_
        refine st_p rfl rfl (p_add rfl rfl (by first | exact nw64 (by omega) | exact nwu64 (by omega) | exact nwu8 (by omega) | exact nwu16 (by omega) | exact wu64 _ | exact wu8 _ | exact wi64 _ | rfl)) ?_
        refine st_p rfl rfl (p_move rfl) ?_
        refine at_nil ?_
        refine at_ks [0, 1, 2, 3, 4, 5, 6, 9, 10, 11, 27, 28, 29, 31, 32, 47, 48] (by (try simp only [keep, lk, pd, enumE, Nat.reduceBEq, Nat.reduceAdd, cond_true, cond_false]); exact rfl) ?_
        refine at_ks [1, 2, 4, 9, 10, 27, 28, 31] (by (try simp only [keep, lk, pd, enumE, Nat.reduceBEq, Nat.reduceAdd, cond_true, cond_false]); exact rfl) ?_
        refine at_back (k2 - 1) (by omega) ⟨j + 1, rfl, ?_, by omega, by omega⟩
        rw [hpos, fill_set (by omega)]; rfl
      · (try simp only [decide_eq_true_eq, decide_eq_false_iff_not, Bool.not_eq_true', Bool.not_eq_false', Bool.not_true, Bool.not_false, Bool.or_eq_true, Bool.and_eq_true, Int.not_lt, Int.not_le] at ht32)
        obtain rfl : j = 128 := by omega
        refine at_exit ?_
        refine at_then_x ?_
        refine at_then_x ?_
        refine at_inb_exit ?_
        refine at_inb ?_
        refine at_then ?_
        refine at_region ?_
        refine st_p rfl rfl (p_add rfl rfl (by first | exact nw64 (by omega) | exact nwu64 (by omega) | exact nwu8 (by omega) | exact nwu16 (by omega) | exact wu64 _ | exact wu8 _ | exact wi64 _ | rfl)) ?_
        refine st_p rfl rfl (p_move rfl) ?_
        refine at_nil ?_
        refine at_ks [0, 1, 2, 3, 4, 5, 6, 9, 10, 11, 27, 28, 29, 31, 32, 47, 48] (by (try simp only [keep, lk, pd, enumE, Nat.reduceBEq, Nat.reduceAdd, cond_true, cond_false]); exact rfl) ?_
        refine at_ks [1, 2, 9, 10, 27, 28] (by (try simp only [keep, lk, pd, enumE, Nat.reduceBEq, Nat.reduceAdd, cond_true, cond_false]); exact rfl) ?_
        refine at_back (k - 1) (by omega) ⟨i + 1, rfl, rfl, by omega, by omega⟩
    · (try simp only [decide_eq_true_eq, decide_eq_false_iff_not, Bool.not_eq_true', Bool.not_eq_false', Bool.not_true, Bool.not_false, Bool.or_eq_true, Bool.and_eq_true, Int.not_lt, Int.not_le] at ht29)
      obtain rfl : i = 65 := by omega
      refine at_exit ?_
      refine at_then_x ?_
      refine at_then_x ?_
      refine at_inb_exit ?_
      refine at_inb ?_
      refine at_then ?_
      refine at_region ?_
      refine st_p rfl rfl (p_add (r := 2) rfl rfl (by decide)) ?_
      refine st_p rfl rfl (p_move rfl) ?_
      refine at_nil ?_
      refine at_ks [0, 1, 2, 3, 4, 5, 6, 9, 10, 11, 27, 28, 29, 31, 32, 47, 48] (by (try simp only [keep, lk, pd, enumE, Nat.reduceBEq, Nat.reduceAdd, cond_true, cond_false]); exact rfl) ?_
      refine at_then ?_
      refine at_round ?_
      refine at_seq ?_
      refine at_region ?_
      refine st_p rfl rfl (p_lss rfl rfl) ?_
      refine at_nil ?_
      refine at_ks [0, 1, 2, 3, 4, 5, 6, 9, 10, 11, 27, 28, 29, 31, 32, 47, 48] (by (try simp only [keep, lk, pd, enumE, Nat.reduceBEq, Nat.reduceAdd, cond_true, cond_false]); exact rfl) ?_
      refine at_then ?_
      refine at_seq ?_
      refine at_cond_t rfl ?_
      refine at_skip ?_
      refine at_then ?_
      refine at_seq ?_
      refine at_block ?_
      refine at_seq ?_
      refine at_region ?_
      refine st_p rfl rfl (p_move rfl) ?_
      refine st_p rfl rfl (p_idxA rfl rfl Try.underlying102 r_3 s_3 (by first | decide | omega) (by first | decide | omega) (by first | rfl | assumption)) ?_
      refine st_p rfl rfl (p_assign rfl) ?_
      refine st_p rfl rfl (p_assign rfl) ?_
      refine at_nil ?_
      refine at_ks [0, 1, 2, 3, 4, 5, 6, 9, 10, 11, 27, 28, 29, 31, 32, 47, 48] (by (try simp only [keep, lk, pd, enumE, Nat.reduceBEq, Nat.reduceAdd, cond_true, cond_false]); exact rfl) ?_
      refine at_then ?_
      refine at_seq ?_
      refine at_drawH [0, 1, 2, 4, 5, 3, 6, 7] [0, 0, 0, 4, 1, 17, 63, 127] [] [3, 7] mixd (by kernel_rfl) ?_
      refine rd_p rfl rfl rfl rfl rfl (p_move rfl) ?_
      refine rd_p rfl rfl rfl rfl rfl (p_move rfl) ?_
      refine rd_p rfl rfl rfl rfl rfl (p_move rfl) ?_
      refine rd_p rfl rfl rfl rfl rfl ((by first | exact p_nil rfl | exact p_nilf rfl)) ?_
      refine rd_p rfl rfl rfl rfl rfl ((by first | exact p_fa0 rfl o_101_0 | exact p_fa rfl o_101_0)) ?_
      refine rd_l rfl rfl rfl rfl (l_make (m := 65) e_97 rfl rfl (by decide) (by decide)) (fun h => nomatch (show false = true from h)) ?_
      rintro _ _ ⟨r2, rfl, rfl⟩
      rw [made_fill 65]
      refine rd_hp (by (try simp only [List.take_zero, List.take_succ_cons, List.drop_zero, List.drop_succ_cons, List.drop_nil, List.length_cons, List.length_nil, Nat.zero_add, Nat.reduceAdd, List.set_cons_zero, List.set_cons_succ, List.nil_append, List.cons_append, List.append_nil, pick, List.filterMap_cons, List.filterMap_nil, List.getElem?_cons_zero, List.getElem?_cons_succ]); exact rfl) ?_
      refine rd_p rfl rfl rfl rfl rfl (p_iar rfl rfl a_98 (by first | decide | omega) (by first | decide | omega)) ?_
      refine rd_l rfl rfl rfl rfl ((by first | exact l_ob 0 rfl rfl rfl (by first | rfl | assumption) (by first | rfl | assumption) s_97 (by first | decide | omega | (simp only [List.length_cons, List.length_nil]; omega) | (simp; omega) | (simp; done)) | exact l_ob 1 rfl rfl rfl (by first | rfl | assumption) (by first | rfl | assumption) s_97 (by first | decide | omega | (simp only [List.length_cons, List.length_nil]; omega) | (simp; omega) | (simp; done)) | exact l_ob 2 rfl rfl rfl (by first | rfl | assumption) (by first | rfl | assumption) s_97 (by first | decide | omega | (simp only [List.length_cons, List.length_nil]; omega) | (simp; omega) | (simp; done)) | exact l_ob 3 rfl rfl rfl (by first | rfl | assumption) (by first | rfl | assumption) s_97 (by first | decide | omega | (simp only [List.length_cons, List.length_nil]; omega) | (simp; omega) | (simp; done)) | exact l_sl 0 rfl rfl rfl (by first | rfl | assumption) (by first | rfl | assumption) s_97 (by first | decide | omega | (simp only [List.length_cons, List.length_nil]; omega) | (simp; omega) | (simp; done)) | exact l_sl 1 rfl rfl rfl (by first | rfl | assumption) (by first | rfl | assumption) s_97 (by first | decide | omega | (simp only [List.length_cons, List.length_nil]; omega) | (simp; omega) | (simp; done)) | exact l_sl 2 rfl rfl rfl (by first | rfl | assumption) (by first | rfl | assumption) s_97 (by first | decide | omega | (simp only [List.length_cons, List.length_nil]; omega) | (simp; omega) | (simp; done)) | exact l_sl 3 rfl rfl rfl (by first | rfl | assumption) (by first | rfl | assumption) s_97 (by first | decide | omega | (simp only [List.length_cons, List.length_nil]; omega) | (simp; omega) | (simp; done)))) (fun h => nomatch (show false = true from h)) ?_
      rintro _ _ ⟨rfl, rfl⟩
      refine rd_hp (by (try simp only [List.take_zero, List.take_succ_cons, List.drop_zero, List.drop_succ_cons, List.drop_nil, List.length_cons, List.length_nil, Nat.zero_add, Nat.reduceAdd, List.set_cons_zero, List.set_cons_succ, List.nil_append, List.cons_append, List.append_nil, pick, List.filterMap_cons, List.filterMap_nil, List.getElem?_cons_zero, List.getElem?_cons_succ]); exact rfl) ?_
      refine rd_nil ?_
      refine at_ks [0, 1, 2, 3, 4, 5, 6, 9, 10, 11, 27, 28, 29, 31, 32, 47, 48] (by (try simp only [keep, lk, pd, enumE, Nat.reduceBEq, Nat.reduceAdd, cond_true, cond_false]); exact rfl) ?_
      refine at_then ?_
      refine at_seq ?_
      refine at_region ?_
      refine st_p rfl rfl (p_move rfl) ?_
      refine st_p rfl rfl (p_move rfl) ?_
      refine st_p rfl rfl ((by first | exact p_nil rfl | exact p_nilf rfl)) ?_
      refine st_p rfl rfl ((by first | exact p_fa0 rfl o_101_0 | exact p_fa rfl o_101_0)) ?_
      refine st_p rfl rfl (p_iar rfl rfl a_98 (by first | decide | omega) (by first | decide | omega)) ?_
      refine st_q rfl rfl ((by first | exact q_ob 0 rfl rfl r_97 (by first | rfl | assumption) | exact q_ob 1 rfl rfl r_97 (by first | rfl | assumption) | exact q_ob 2 rfl rfl r_97 (by first | rfl | assumption) | exact q_ob 3 rfl rfl r_97 (by first | rfl | assumption) | exact q_sl 0 rfl rfl r_97 (by first | rfl | assumption) | exact q_sl 1 rfl rfl r_97 (by first | rfl | assumption) | exact q_sl 2 rfl rfl r_97 (by first | rfl | assumption) | exact q_sl 3 rfl rfl r_97 (by first | rfl | assumption) | exact q_fr rfl r_97 (by assumption))) ?_
      refine st_p rfl rfl (p_len rfl m_97) ?_
      refine st_p rfl rfl (p_move rfl) ?_
      refine at_nil ?_
      refine at_ks [0, 1, 2, 3, 4, 5, 6, 9, 10, 11, 27, 28, 29, 31, 32, 47, 48] (by (try simp only [keep, lk, pd, enumE, Nat.reduceBEq, Nat.reduceAdd, cond_true, cond_false]); exact rfl) ?_
      refine at_then ?_
      refine at_block ?_
      refine at_ks [1, 2, 9, 10, 27, 28] (by (try simp only [keep, lk, pd, enumE, Nat.reduceBEq, Nat.reduceAdd, cond_true, cond_false]); exact rfl) ?_
      refine at_loop (fun k E H => ∃ i : Nat, E = [(1, .pointer (some ⟨b8, 0, none⟩)), (2, N 2), (9, .agg #[N 1, N 65, N 65]), (10, N 2), (27, N (65 : Nat)), (28, N (i : Int))] ∧ H = [.sl (.slice (some ⟨r2, 0, none⟩) 65 65) 104 128 65 (ints .i64 (fillL 65 (128 * i))), .sl (.slice (some ⟨r1, 0, none⟩) 65 65) 104 128 65 (ints .i64 (fillL 65 (128 * 65))), .sl (.slice (some ⟨r0, 0, none⟩) 1 1) 104 128 1 (ints .i64 (fillL 1 (128 * 1))), .ob b8 [.slice (some ⟨r0, 0, none⟩) 1 1, .slice (some ⟨r1, 0, none⟩) 65 65, .slice (some ⟨r2, 0, none⟩) 65 65, .slice none 0 0, .slice none 0 0, .slice none 0 0, .slice none 0 0, .slice none 0 0, .slice none 0 0, .slice none 0 0, N 0, N 0] 101] ∧ i ≤ 65 ∧ k + i = 66) (66) (⟨0, rfl, rfl, by omega, by omega⟩) ?_
      rintro k _ _ ⟨i, rfl, rfl, hi, hk⟩
      refine at_seq ?_
      refine at_region ?_
      refine st_p rfl rfl (p_lss rfl rfl) ?_
      refine at_nil ?_
      refine at_ks [0, 1, 2, 3, 4, 5, 6, 9, 10, 11, 27, 28, 29, 31, 32, 47, 48] (by (try simp only [keep, lk, pd, enumE, Nat.reduceBEq, Nat.reduceAdd, cond_true, cond_false]); exact rfl) ?_
      refine at_then ?_
      refine at_seq ?_
      refine at_cond rfl (fun ht29 => ?_) (fun ht29 => ?_)
      · (try simp only [decide_eq_true_eq, decide_eq_false_iff_not, Bool.not_eq_true', Bool.not_eq_false', Bool.not_true, Bool.not_false, Bool.or_eq_true, Bool.and_eq_true, Int.not_lt, Int.not_le] at ht29)
        refine at_skip ?_
        refine at_then ?_
        refine at_seq ?_
        refine at_block ?_
        refine at_seq ?_
        refine at_region ?_
        refine st_p rfl rfl (p_move rfl) ?_
        refine st_p rfl rfl (p_assign rfl) ?_
        refine at_nil ?_
        refine at_ks [0, 1, 2, 3, 4, 5, 6, 9, 10, 11, 27, 28, 29, 31, 32, 47, 48] (by (try simp only [keep, lk, pd, enumE, Nat.reduceBEq, Nat.reduceAdd, cond_true, cond_false]); exact rfl) ?_
        refine at_then ?_
        refine at_seq ?_
        refine at_region ?_
        refine st_p rfl rfl (p_move rfl) ?_
        refine at_nil ?_
        refine at_ks [0, 1, 2, 3, 4, 5, 6, 9, 10, 11, 27, 28, 29, 31, 32, 47, 48] (by (try simp only [keep, lk, pd, enumE, Nat.reduceBEq, Nat.reduceAdd, cond_true, cond_false]); exact rfl) ?_
        refine at_then ?_
        refine at_block ?_
        refine at_ks [1, 2, 4, 9, 10, 27, 28, 31] (by (try simp only [keep, lk, pd, enumE, Nat.reduceBEq, Nat.reduceAdd, cond_true, cond_false]); exact rfl) ?_
        refine at_loop (fun k2 E H => ∃ j : Nat, E = [(1, .pointer (some ⟨b8, 0, none⟩)), (2, N 2), (4, N (i : Int)), (9, .agg #[N 1, N 65, N 65]), (10, N 2), (27, N (65 : Nat)), (28, N (i : Int)), (31, N (j : Int))] ∧ H = [.sl (.slice (some ⟨r2, 0, none⟩) 65 65) 104 128 65 (ints .i64 (fillL 65 (128 * i + j))), .sl (.slice (some ⟨r1, 0, none⟩) 65 65) 104 128 65 (ints .i64 (fillL 65 (128 * 65))), .sl (.slice (some ⟨r0, 0, none⟩) 1 1) 104 128 1 (ints .i64 (fillL 1 (128 * 1))), .ob b8 [.slice (some ⟨r0, 0, none⟩) 1 1, .slice (some ⟨r1, 0, none⟩) 65 65, .slice (some ⟨r2, 0, none⟩) 65 65, .slice none 0 0, .slice none 0 0, .slice none 0 0, .slice none 0 0, .slice none 0 0, .slice none 0 0, .slice none 0 0, N 0, N 0] 101] ∧ j ≤ 128 ∧ k2 + j = 129) (129) (⟨0, rfl, rfl, by omega, by omega⟩) ?_
        rintro k2 _ _ ⟨j, rfl, rfl, hj, hk2⟩
        refine at_seq ?_
        refine at_region ?_
        refine st_p rfl rfl (p_lss rfl rfl) ?_
        refine at_nil ?_
        refine at_ks [0, 1, 2, 3, 4, 5, 6, 9, 10, 11, 27, 28, 29, 31, 32, 47, 48] (by (try simp only [keep, lk, pd, enumE, Nat.reduceBEq, Nat.reduceAdd, cond_true, cond_false]); exact rfl) ?_
        refine at_then ?_
        refine at_seq ?_
        refine at_cond rfl (fun ht32 => ?_) (fun ht32 => ?_)
        · (try simp only [decide_eq_true_eq, decide_eq_false_iff_not, Bool.not_eq_true', Bool.not_eq_false', Bool.not_true, Bool.not_false, Bool.or_eq_true, Bool.and_eq_true, Int.not_lt, Int.not_le] at ht32)
          have hi2 : i < 65 := by omega
          have hL := fill_len (n := 65) (j := 128 * i + j) (by omega)
          have hpos : ((i : Nat) : Int).toNat * 128 + ((j : Nat) : Int).toNat * 1 = 128 * i + j := by omega
          refine at_skip ?_
          refine at_then ?_
          refine at_seq ?_
          refine at_block ?_
          refine at_seq ?_
          refine at_region ?_
          refine st_p rfl rfl (p_move rfl) ?_
          refine st_p rfl rfl (p_assign rfl) ?_
          refine at_nil ?_
          refine at_ks [0, 1, 2, 3, 4, 5, 6, 9, 10, 11, 27, 28, 29, 31, 32, 47, 48] (by (try simp only [keep, lk, pd, enumE, Nat.reduceBEq, Nat.reduceAdd, cond_true, cond_false]); exact rfl) ?_
          refine at_then ?_
          refine at_region ?_
          refine st_p rfl rfl (p_move rfl) ?_
          refine st_p rfl rfl (p_move rfl) ?_
          refine st_p rfl rfl ((by first | exact p_nil rfl | exact p_nilf rfl)) ?_
          refine st_p rfl rfl ((by first | exact p_fa0 rfl o_101_0 | exact p_fa rfl o_101_0)) ?_
          refine st_p rfl rfl (p_iar rfl rfl a_98 (by first | decide | omega) (by first | decide | omega)) ?_
          refine st_q rfl rfl ((by first | exact q_ob 0 rfl rfl r_97 (by first | rfl | assumption) | exact q_ob 1 rfl rfl r_97 (by first | rfl | assumption) | exact q_ob 2 rfl rfl r_97 (by first | rfl | assumption) | exact q_ob 3 rfl rfl r_97 (by first | rfl | assumption) | exact q_sl 0 rfl rfl r_97 (by first | rfl | assumption) | exact q_sl 1 rfl rfl r_97 (by first | rfl | assumption) | exact q_sl 2 rfl rfl r_97 (by first | rfl | assumption) | exact q_sl 3 rfl rfl r_97 (by first | rfl | assumption) | exact q_fr rfl r_97 (by assumption))) ?_
          refine st_p rfl rfl (p_move rfl) ?_
          refine st_p rfl rfl (p_move rfl) ?_
          refine st_p rfl rfl ((by first | exact p_ia1 rfl rfl z_97 (by first | decide | omega) (by first | decide | omega) | exact p_iaN rfl rfl z_97 (by first | decide | omega) (by first | decide | omega) | exact p_iaO1 rfl rfl z_97 (by first | decide | omega) (by first | decide | omega) | exact p_iaO rfl rfl z_97 (by first | decide | omega) (by first | decide | omega))) ?_
          refine st_p rfl rfl (p_iar rfl rfl a_104 (by first | decide | omega) (by first | decide | omega)) ?_
          refine st_l rfl rfl (l_sl 0 rfl rfl rfl rfl rfl s_3 (by omega)) ?_
          rintro _ _ ⟨rfl, rfl⟩
          refine at_hp (by (try simp only [List.take_zero, List.take_succ_cons, List.drop_zero, List.drop_succ_cons, List.drop_nil, List.length_cons, List.length_nil, Nat.zero_add, Nat.reduceAdd, List.set_cons_zero, List.set_cons_succ, List.nil_append, List.cons_append, List.append_nil, pick, List.filterMap_cons, List.filterMap_nil, List.getElem?_cons_zero, List.getElem?_cons_succ]); exact rfl) ?_
          refine at_nil ?_
          refine at_ks [0, 1, 2, 3, 4, 5, 6, 9, 10, 11, 27, 28, 29, 31, 32, 47, 48] (by (try simp only [keep, lk, pd, enumE, Nat.reduceBEq, Nat.reduceAdd, cond_true, cond_false]); exact rfl) ?_
          refine at_inb ?_
          refine at_then ?_
          refine at_region ?_
          refine st_p rfl rfl (p_add rfl rfl (by first | exact nw64 (by omega) | exact nwu64 (by omega) | exact nwu8 (by omega) | exact nwu16 (by omega) | exact wu64 _ | exact wu8 _ | exact wi64 _ | rfl)) ?_
          refine st_p rfl rfl (p_move rfl) ?_
          refine at_nil ?_
          refine at_ks [0, 1, 2, 3, 4, 5, 6, 9, 10, 11, 27, 28, 29, 31, 32, 47, 48] (by (try simp only [keep, lk, pd, enumE, Nat.reduceBEq, Nat.reduceAdd, cond_true, cond_false]); exact rfl) ?_
          refine at_ks [1, 2, 4, 9, 10, 27, 28, 31] (by (try simp only [keep, lk, pd, enumE, Nat.reduceBEq, Nat.reduceAdd, cond_true, cond_false]); exact rfl) ?_
          refine at_back (k2 - 1) (by omega) ⟨j + 1, rfl, ?_, by omega, by omega⟩
          rw [hpos, fill_set (by omega)]; rfl
        · (try simp only [decide_eq_true_eq, decide_eq_false_iff_not, Bool.not_eq_true', Bool.not_eq_false', Bool.not_true, Bool.not_false, Bool.or_eq_true, Bool.and_eq_true, Int.not_lt, Int.not_le] at ht32)
          obtain rfl : j = 128 := by omega
          refine at_exit ?_
          refine at_then_x ?_
          refine at_then_x ?_
          refine at_inb_exit ?_
          refine at_inb ?_
          refine at_then ?_
          refine at_region ?_
          refine st_p rfl rfl (p_add rfl rfl (by first | exact nw64 (by omega) | exact nwu64 (by omega) | exact nwu8 (by omega) | exact nwu16 (by omega) | exact wu64 _ | exact wu8 _ | exact wi64 _ | rfl)) ?_
          refine st_p rfl rfl (p_move rfl) ?_
          refine at_nil ?_
          refine at_ks [0, 1, 2, 3, 4, 5, 6, 9, 10, 11, 27, 28, 29, 31, 32, 47, 48] (by (try simp only [keep, lk, pd, enumE, Nat.reduceBEq, Nat.reduceAdd, cond_true, cond_false]); exact rfl) ?_
          refine at_ks [1, 2, 9, 10, 27, 28] (by (try simp only [keep, lk, pd, enumE, Nat.reduceBEq, Nat.reduceAdd, cond_true, cond_false]); exact rfl) ?_
          refine at_back (k - 1) (by omega) ⟨i + 1, rfl, rfl, by omega, by omega⟩
      · (try simp only [decide_eq_true_eq, decide_eq_false_iff_not, Bool.not_eq_true', Bool.not_eq_false', Bool.not_true, Bool.not_false, Bool.or_eq_true, Bool.and_eq_true, Int.not_lt, Int.not_le] at ht29)
        obtain rfl : i = 65 := by omega
        refine at_exit ?_
        refine at_then_x ?_
        refine at_then_x ?_
        refine at_inb_exit ?_
        refine at_inb ?_
        refine at_then ?_
        refine at_region ?_
        refine st_p rfl rfl (p_add (r := 3) rfl rfl (by decide)) ?_
        refine st_p rfl rfl (p_move rfl) ?_
        refine at_nil ?_
        refine at_ks [0, 1, 2, 3, 4, 5, 6, 9, 10, 11, 27, 28, 29, 31, 32, 47, 48] (by (try simp only [keep, lk, pd, enumE, Nat.reduceBEq, Nat.reduceAdd, cond_true, cond_false]); exact rfl) ?_
        refine at_then ?_
        refine at_round ?_
        refine at_seq ?_
        refine at_region ?_
        refine st_p rfl rfl (p_lss rfl rfl) ?_
        refine at_nil ?_
        refine at_ks [0, 1, 2, 3, 4, 5, 6, 9, 10, 11, 27, 28, 29, 31, 32, 47, 48] (by (try simp only [keep, lk, pd, enumE, Nat.reduceBEq, Nat.reduceAdd, cond_true, cond_false]); exact rfl) ?_
        refine at_then ?_
        refine at_seq ?_
        refine at_cond_f rfl ?_
        refine at_exit ?_
        refine at_then_x ?_
        refine at_then_x ?_
        refine at_inb_exit ?_
        refine at_then ?_
        refine at_seq ?_
        refine at_seq ?_
        refine at_region ?_
        refine st_p rfl rfl (p_move rfl) ?_
        refine at_nil ?_
        refine at_ks [0, 1, 2, 3, 4, 5, 6, 9, 10, 11, 27, 28, 29, 31, 32, 47, 48] (by (try simp only [keep, lk, pd, enumE, Nat.reduceBEq, Nat.reduceAdd, cond_true, cond_false]); exact rfl) ?_
        refine at_then ?_
        refine at_block ?_
        refine at_rounds 8 ?_
        refine at_round ?_
        refine at_seq ?_
        refine at_region ?_
        refine st_p rfl rfl (p_lss rfl rfl) ?_
        refine at_nil ?_
        refine at_ks [0, 1, 2, 3, 4, 5, 6, 9, 10, 11, 27, 28, 29, 31, 32, 47, 48] (by (try simp only [keep, lk, pd, enumE, Nat.reduceBEq, Nat.reduceAdd, cond_true, cond_false]); exact rfl) ?_
        refine at_then ?_
        refine at_seq ?_
        refine at_cond_t rfl ?_
        refine at_skip ?_
        refine at_then ?_
        refine at_seq ?_
        refine at_block ?_
        refine at_seq ?_
        refine at_region ?_
        refine st_p rfl rfl (p_move rfl) ?_
        refine st_p rfl rfl (p_assign rfl) ?_
        refine at_nil ?_
        refine at_ks [0, 1, 2, 3, 4, 5, 6, 9, 10, 11, 27, 28, 29, 31, 32, 47, 48] (by (try simp only [keep, lk, pd, enumE, Nat.reduceBEq, Nat.reduceAdd, cond_true, cond_false]); exact rfl) ?_
        refine at_then ?_
        refine at_region ?_
        refine st_p rfl rfl (p_move rfl) ?_
        refine st_p rfl rfl (p_move rfl) ?_
        refine st_l rfl rfl (l_bsV [_, _, _] _ rfl e_22 (by decide) (by decide) rfl (by simp [Value.cells]) (by simp only [List.flatMap_cons, List.flatMap_nil, Value.cells, List.nil_append, List.cons_append, List.append_nil]; exact rfl)) ?_
        rintro _ _ ⟨w0, rfl, rfl⟩
        refine at_hp (by (try simp only [List.take_zero, List.take_succ_cons, List.drop_zero, List.drop_succ_cons, List.drop_nil, List.length_cons, List.length_nil, Nat.zero_add, Nat.reduceAdd, List.set_cons_zero, List.set_cons_succ, List.nil_append, List.cons_append, List.append_nil, pick, List.filterMap_cons, List.filterMap_nil, List.getElem?_cons_zero, List.getElem?_cons_succ]); exact rfl) ?_
        refine st_p rfl rfl ((by first | exact p_nil rfl | exact p_nilf rfl)) ?_
        refine st_p rfl rfl ((by first | exact p_fa0 rfl o_101_1 | exact p_fa rfl o_101_1)) ?_
        refine st_p rfl rfl (p_iar rfl rfl a_99 (by first | decide | omega) (by first | decide | omega)) ?_
        refine st_l rfl rfl (l_ob 4 rfl rfl rfl rfl rfl s_22 (by simp)) ?_
        rintro _ _ ⟨rfl, rfl⟩
        refine at_hp (by (try simp only [List.take_zero, List.take_succ_cons, List.drop_zero, List.drop_succ_cons, List.drop_nil, List.length_cons, List.length_nil, Nat.zero_add, Nat.reduceAdd, List.set_cons_zero, List.set_cons_succ, List.nil_append, List.cons_append, List.append_nil, pick, List.filterMap_cons, List.filterMap_nil, List.getElem?_cons_zero, List.getElem?_cons_succ]); exact rfl) ?_
        refine at_nil ?_
        refine at_ks [0, 1, 2, 3, 4, 5, 6, 9, 10, 11, 27, 28, 29, 31, 32, 47, 48] (by (try simp only [keep, lk, pd, enumE, Nat.reduceBEq, Nat.reduceAdd, cond_true, cond_false]); exact rfl) ?_
        refine at_inb ?_
        refine at_then ?_
        refine at_region ?_
        refine st_p rfl rfl (p_add (r := 1) rfl rfl (by decide)) ?_
        refine st_p rfl rfl (p_move rfl) ?_
        refine at_nil ?_
        refine at_ks [0, 1, 2, 3, 4, 5, 6, 9, 10, 11, 27, 28, 29, 31, 32, 47, 48] (by (try simp only [keep, lk, pd, enumE, Nat.reduceBEq, Nat.reduceAdd, cond_true, cond_false]); exact rfl) ?_
        refine at_then ?_
        refine at_round ?_
        refine at_seq ?_
        refine at_region ?_
        refine st_p rfl rfl (p_lss rfl rfl) ?_
        refine at_nil ?_
        refine at_ks [0, 1, 2, 3, 4, 5, 6, 9, 10, 11, 27, 28, 29, 31, 32, 47, 48] (by (try simp only [keep, lk, pd, enumE, Nat.reduceBEq, Nat.reduceAdd, cond_true, cond_false]); exact rfl) ?_
        refine at_then ?_
        refine at_seq ?_
        refine at_cond_t rfl ?_
        refine at_skip ?_
        refine at_then ?_
        refine at_seq ?_
        refine at_block ?_
        refine at_seq ?_
        refine at_region ?_
        refine st_p rfl rfl (p_move rfl) ?_
        refine st_p rfl rfl (p_assign rfl) ?_
        refine at_nil ?_
        refine at_ks [0, 1, 2, 3, 4, 5, 6, 9, 10, 11, 27, 28, 29, 31, 32, 47, 48] (by (try simp only [keep, lk, pd, enumE, Nat.reduceBEq, Nat.reduceAdd, cond_true, cond_false]); exact rfl) ?_
        refine at_then ?_
        refine at_region ?_
        refine st_p rfl rfl (p_move rfl) ?_
        refine st_p rfl rfl (p_move rfl) ?_
        refine st_l rfl rfl (l_bsV [_, _, _] _ rfl e_22 (by decide) (by decide) rfl (by simp [Value.cells]) (by simp only [List.flatMap_cons, List.flatMap_nil, Value.cells, List.nil_append, List.cons_append, List.append_nil]; exact rfl)) ?_
        rintro _ _ ⟨w1, rfl, rfl⟩
        refine at_hp (by (try simp only [List.take_zero, List.take_succ_cons, List.drop_zero, List.drop_succ_cons, List.drop_nil, List.length_cons, List.length_nil, Nat.zero_add, Nat.reduceAdd, List.set_cons_zero, List.set_cons_succ, List.nil_append, List.cons_append, List.append_nil, pick, List.filterMap_cons, List.filterMap_nil, List.getElem?_cons_zero, List.getElem?_cons_succ]); exact rfl) ?_
        refine st_p rfl rfl ((by first | exact p_nil rfl | exact p_nilf rfl)) ?_
        refine st_p rfl rfl ((by first | exact p_fa0 rfl o_101_1 | exact p_fa rfl o_101_1)) ?_
        refine st_p rfl rfl (p_iar rfl rfl a_99 (by first | decide | omega) (by first | decide | omega)) ?_
        refine st_l rfl rfl (l_ob 5 rfl rfl rfl rfl rfl s_22 (by simp)) ?_
        rintro _ _ ⟨rfl, rfl⟩
        refine at_hp (by (try simp only [List.take_zero, List.take_succ_cons, List.drop_zero, List.drop_succ_cons, List.drop_nil, List.length_cons, List.length_nil, Nat.zero_add, Nat.reduceAdd, List.set_cons_zero, List.set_cons_succ, List.nil_append, List.cons_append, List.append_nil, pick, List.filterMap_cons, List.filterMap_nil, List.getElem?_cons_zero, List.getElem?_cons_succ]); exact rfl) ?_
        refine at_nil ?_
        refine at_ks [0, 1, 2, 3, 4, 5, 6, 9, 10, 11, 27, 28, 29, 31, 32, 47, 48] (by (try simp only [keep, lk, pd, enumE, Nat.reduceBEq, Nat.reduceAdd, cond_true, cond_false]); exact rfl) ?_
        refine at_inb ?_
        refine at_then ?_
        refine at_region ?_
        refine st_p rfl rfl (p_add (r := 2) rfl rfl (by decide)) ?_
        refine st_p rfl rfl (p_move rfl) ?_
        refine at_nil ?_
        refine at_ks [0, 1, 2, 3, 4, 5, 6, 9, 10, 11, 27, 28, 29, 31, 32, 47, 48] (by (try simp only [keep, lk, pd, enumE, Nat.reduceBEq, Nat.reduceAdd, cond_true, cond_false]); exact rfl) ?_
        refine at_then ?_
        refine at_round ?_
        refine at_seq ?_
        refine at_region ?_
        refine st_p rfl rfl (p_lss rfl rfl) ?_
        refine at_nil ?_
        refine at_ks [0, 1, 2, 3, 4, 5, 6, 9, 10, 11, 27, 28, 29, 31, 32, 47, 48] (by (try simp only [keep, lk, pd, enumE, Nat.reduceBEq, Nat.reduceAdd, cond_true, cond_false]); exact rfl) ?_
        refine at_then ?_
        refine at_seq ?_
        refine at_cond_t rfl ?_
        refine at_skip ?_
        refine at_then ?_
        refine at_seq ?_
        refine at_block ?_
        refine at_seq ?_
        refine at_region ?_
        refine st_p rfl rfl (p_move rfl) ?_
        refine st_p rfl rfl (p_assign rfl) ?_
        refine at_nil ?_
        refine at_ks [0, 1, 2, 3, 4, 5, 6, 9, 10, 11, 27, 28, 29, 31, 32, 47, 48] (by (try simp only [keep, lk, pd, enumE, Nat.reduceBEq, Nat.reduceAdd, cond_true, cond_false]); exact rfl) ?_
        refine at_then ?_
        refine at_region ?_
        refine st_p rfl rfl (p_move rfl) ?_
        refine st_p rfl rfl (p_move rfl) ?_
        refine st_l rfl rfl (l_bsV [_, _, _] _ rfl e_22 (by decide) (by decide) rfl (by simp [Value.cells]) (by simp only [List.flatMap_cons, List.flatMap_nil, Value.cells, List.nil_append, List.cons_append, List.append_nil]; exact rfl)) ?_
        rintro _ _ ⟨w2, rfl, rfl⟩
        refine at_hp (by (try simp only [List.take_zero, List.take_succ_cons, List.drop_zero, List.drop_succ_cons, List.drop_nil, List.length_cons, List.length_nil, Nat.zero_add, Nat.reduceAdd, List.set_cons_zero, List.set_cons_succ, List.nil_append, List.cons_append, List.append_nil, pick, List.filterMap_cons, List.filterMap_nil, List.getElem?_cons_zero, List.getElem?_cons_succ]); exact rfl) ?_
        refine st_p rfl rfl ((by first | exact p_nil rfl | exact p_nilf rfl)) ?_
        refine st_p rfl rfl ((by first | exact p_fa0 rfl o_101_1 | exact p_fa rfl o_101_1)) ?_
        refine st_p rfl rfl (p_iar rfl rfl a_99 (by first | decide | omega) (by first | decide | omega)) ?_
        refine st_l rfl rfl (l_ob 6 rfl rfl rfl rfl rfl s_22 (by simp)) ?_
        rintro _ _ ⟨rfl, rfl⟩
        refine at_hp (by (try simp only [List.take_zero, List.take_succ_cons, List.drop_zero, List.drop_succ_cons, List.drop_nil, List.length_cons, List.length_nil, Nat.zero_add, Nat.reduceAdd, List.set_cons_zero, List.set_cons_succ, List.nil_append, List.cons_append, List.append_nil, pick, List.filterMap_cons, List.filterMap_nil, List.getElem?_cons_zero, List.getElem?_cons_succ]); exact rfl) ?_
        refine at_nil ?_
        refine at_ks [0, 1, 2, 3, 4, 5, 6, 9, 10, 11, 27, 28, 29, 31, 32, 47, 48] (by (try simp only [keep, lk, pd, enumE, Nat.reduceBEq, Nat.reduceAdd, cond_true, cond_false]); exact rfl) ?_
        refine at_inb ?_
        refine at_then ?_
        refine at_region ?_
        refine st_p rfl rfl (p_add (r := 3) rfl rfl (by decide)) ?_
        refine st_p rfl rfl (p_move rfl) ?_
        refine at_nil ?_
        refine at_ks [0, 1, 2, 3, 4, 5, 6, 9, 10, 11, 27, 28, 29, 31, 32, 47, 48] (by (try simp only [keep, lk, pd, enumE, Nat.reduceBEq, Nat.reduceAdd, cond_true, cond_false]); exact rfl) ?_
        refine at_then ?_
        refine at_round ?_
        refine at_seq ?_
        refine at_region ?_
        refine st_p rfl rfl (p_lss rfl rfl) ?_
        refine at_nil ?_
        refine at_ks [0, 1, 2, 3, 4, 5, 6, 9, 10, 11, 27, 28, 29, 31, 32, 47, 48] (by (try simp only [keep, lk, pd, enumE, Nat.reduceBEq, Nat.reduceAdd, cond_true, cond_false]); exact rfl) ?_
        refine at_then ?_
        refine at_seq ?_
        refine at_cond_t rfl ?_
        refine at_skip ?_
        refine at_then ?_
        refine at_seq ?_
        refine at_block ?_
        refine at_seq ?_
        refine at_region ?_
        refine st_p rfl rfl (p_move rfl) ?_
        refine st_p rfl rfl (p_assign rfl) ?_
        refine at_nil ?_
        refine at_ks [0, 1, 2, 3, 4, 5, 6, 9, 10, 11, 27, 28, 29, 31, 32, 47, 48] (by (try simp only [keep, lk, pd, enumE, Nat.reduceBEq, Nat.reduceAdd, cond_true, cond_false]); exact rfl) ?_
        refine at_then ?_
        refine at_region ?_
        refine st_p rfl rfl (p_move rfl) ?_
        refine st_p rfl rfl (p_move rfl) ?_
        refine st_l rfl rfl (l_bsV [_, _, _] _ rfl e_22 (by decide) (by decide) rfl (by simp [Value.cells]) (by simp only [List.flatMap_cons, List.flatMap_nil, Value.cells, List.nil_append, List.cons_append, List.append_nil]; exact rfl)) ?_
        rintro _ _ ⟨w3, rfl, rfl⟩
        refine at_hp (by (try simp only [List.take_zero, List.take_succ_cons, List.drop_zero, List.drop_succ_cons, List.drop_nil, List.length_cons, List.length_nil, Nat.zero_add, Nat.reduceAdd, List.set_cons_zero, List.set_cons_succ, List.nil_append, List.cons_append, List.append_nil, pick, List.filterMap_cons, List.filterMap_nil, List.getElem?_cons_zero, List.getElem?_cons_succ]); exact rfl) ?_
        refine st_p rfl rfl ((by first | exact p_nil rfl | exact p_nilf rfl)) ?_
        refine st_p rfl rfl ((by first | exact p_fa0 rfl o_101_1 | exact p_fa rfl o_101_1)) ?_
        refine st_p rfl rfl (p_iar rfl rfl a_99 (by first | decide | omega) (by first | decide | omega)) ?_
        refine st_l rfl rfl (l_ob 7 rfl rfl rfl rfl rfl s_22 (by simp)) ?_
        rintro _ _ ⟨rfl, rfl⟩
        refine at_hp (by (try simp only [List.take_zero, List.take_succ_cons, List.drop_zero, List.drop_succ_cons, List.drop_nil, List.length_cons, List.length_nil, Nat.zero_add, Nat.reduceAdd, List.set_cons_zero, List.set_cons_succ, List.nil_append, List.cons_append, List.append_nil, pick, List.filterMap_cons, List.filterMap_nil, List.getElem?_cons_zero, List.getElem?_cons_succ]); exact rfl) ?_
        refine at_nil ?_
        refine at_ks [0, 1, 2, 3, 4, 5, 6, 9, 10, 11, 27, 28, 29, 31, 32, 47, 48] (by (try simp only [keep, lk, pd, enumE, Nat.reduceBEq, Nat.reduceAdd, cond_true, cond_false]); exact rfl) ?_
        refine at_inb ?_
        refine at_then ?_
        refine at_region ?_
        refine st_p rfl rfl (p_add (r := 4) rfl rfl (by decide)) ?_
        refine st_p rfl rfl (p_move rfl) ?_
        refine at_nil ?_
        refine at_ks [0, 1, 2, 3, 4, 5, 6, 9, 10, 11, 27, 28, 29, 31, 32, 47, 48] (by (try simp only [keep, lk, pd, enumE, Nat.reduceBEq, Nat.reduceAdd, cond_true, cond_false]); exact rfl) ?_
        refine at_then ?_
        refine at_round ?_
        refine at_seq ?_
        refine at_region ?_
        refine st_p rfl rfl (p_lss rfl rfl) ?_
        refine at_nil ?_
        refine at_ks [0, 1, 2, 3, 4, 5, 6, 9, 10, 11, 27, 28, 29, 31, 32, 47, 48] (by (try simp only [keep, lk, pd, enumE, Nat.reduceBEq, Nat.reduceAdd, cond_true, cond_false]); exact rfl) ?_
        refine at_then ?_
        refine at_seq ?_
        refine at_cond_t rfl ?_
        refine at_skip ?_
        refine at_then ?_
        refine at_seq ?_
        refine at_block ?_
        refine at_seq ?_
        refine at_region ?_
        refine st_p rfl rfl (p_move rfl) ?_
        refine st_p rfl rfl (p_assign rfl) ?_
        refine at_nil ?_
        refine at_ks [0, 1, 2, 3, 4, 5, 6, 9, 10, 11, 27, 28, 29, 31, 32, 47, 48] (by (try simp only [keep, lk, pd, enumE, Nat.reduceBEq, Nat.reduceAdd, cond_true, cond_false]); exact rfl) ?_
        refine at_then ?_
        refine at_region ?_
        refine st_p rfl rfl (p_move rfl) ?_
        refine st_p rfl rfl (p_move rfl) ?_
        refine st_l rfl rfl (l_bsV [_, _, _] _ rfl e_22 (by decide) (by decide) rfl (by simp [Value.cells]) (by simp only [List.flatMap_cons, List.flatMap_nil, Value.cells, List.nil_append, List.cons_append, List.append_nil]; exact rfl)) ?_
        rintro _ _ ⟨w4, rfl, rfl⟩
        refine at_hp (by (try simp only [List.take_zero, List.take_succ_cons, List.drop_zero, List.drop_succ_cons, List.drop_nil, List.length_cons, List.length_nil, Nat.zero_add, Nat.reduceAdd, List.set_cons_zero, List.set_cons_succ, List.nil_append, List.cons_append, List.append_nil, pick, List.filterMap_cons, List.filterMap_nil, List.getElem?_cons_zero, List.getElem?_cons_succ]); exact rfl) ?_
        refine st_p rfl rfl ((by first | exact p_nil rfl | exact p_nilf rfl)) ?_
        refine st_p rfl rfl ((by first | exact p_fa0 rfl o_101_1 | exact p_fa rfl o_101_1)) ?_
        refine st_p rfl rfl (p_iar rfl rfl a_99 (by first | decide | omega) (by first | decide | omega)) ?_
        refine st_l rfl rfl (l_ob 8 rfl rfl rfl rfl rfl s_22 (by simp)) ?_
        rintro _ _ ⟨rfl, rfl⟩
        refine at_hp (by (try simp only [List.take_zero, List.take_succ_cons, List.drop_zero, List.drop_succ_cons, List.drop_nil, List.length_cons, List.length_nil, Nat.zero_add, Nat.reduceAdd, List.set_cons_zero, List.set_cons_succ, List.nil_append, List.cons_append, List.append_nil, pick, List.filterMap_cons, List.filterMap_nil, List.getElem?_cons_zero, List.getElem?_cons_succ]); exact rfl) ?_
        refine at_nil ?_
        refine at_ks [0, 1, 2, 3, 4, 5, 6, 9, 10, 11, 27, 28, 29, 31, 32, 47, 48] (by (try simp only [keep, lk, pd, enumE, Nat.reduceBEq, Nat.reduceAdd, cond_true, cond_false]); exact rfl) ?_
        refine at_inb ?_
        refine at_then ?_
        refine at_region ?_
        refine st_p rfl rfl (p_add (r := 5) rfl rfl (by decide)) ?_
        refine st_p rfl rfl (p_move rfl) ?_
        refine at_nil ?_
        refine at_ks [0, 1, 2, 3, 4, 5, 6, 9, 10, 11, 27, 28, 29, 31, 32, 47, 48] (by (try simp only [keep, lk, pd, enumE, Nat.reduceBEq, Nat.reduceAdd, cond_true, cond_false]); exact rfl) ?_
        refine at_then ?_
        refine at_round ?_
        refine at_seq ?_
        refine at_region ?_
        refine st_p rfl rfl (p_lss rfl rfl) ?_
        refine at_nil ?_
        refine at_ks [0, 1, 2, 3, 4, 5, 6, 9, 10, 11, 27, 28, 29, 31, 32, 47, 48] (by (try simp only [keep, lk, pd, enumE, Nat.reduceBEq, Nat.reduceAdd, cond_true, cond_false]); exact rfl) ?_
        refine at_then ?_
        refine at_seq ?_
        refine at_cond_t rfl ?_
        refine at_skip ?_
        refine at_then ?_
        refine at_seq ?_
        refine at_block ?_
        refine at_seq ?_
        refine at_region ?_
        refine st_p rfl rfl (p_move rfl) ?_
        refine st_p rfl rfl (p_assign rfl) ?_
        refine at_nil ?_
        refine at_ks [0, 1, 2, 3, 4, 5, 6, 9, 10, 11, 27, 28, 29, 31, 32, 47, 48] (by (try simp only [keep, lk, pd, enumE, Nat.reduceBEq, Nat.reduceAdd, cond_true, cond_false]); exact rfl) ?_
        refine at_then ?_
        refine at_region ?_
        refine st_p rfl rfl (p_move rfl) ?_
        refine st_p rfl rfl (p_move rfl) ?_
        refine st_l rfl rfl (l_bsV [_, _, _] _ rfl e_22 (by decide) (by decide) rfl (by simp [Value.cells]) (by simp only [List.flatMap_cons, List.flatMap_nil, Value.cells, List.nil_append, List.cons_append, List.append_nil]; exact rfl)) ?_
        rintro _ _ ⟨w5, rfl, rfl⟩
        refine at_hp (by (try simp only [List.take_zero, List.take_succ_cons, List.drop_zero, List.drop_succ_cons, List.drop_nil, List.length_cons, List.length_nil, Nat.zero_add, Nat.reduceAdd, List.set_cons_zero, List.set_cons_succ, List.nil_append, List.cons_append, List.append_nil, pick, List.filterMap_cons, List.filterMap_nil, List.getElem?_cons_zero, List.getElem?_cons_succ]); exact rfl) ?_
        refine st_p rfl rfl ((by first | exact p_nil rfl | exact p_nilf rfl)) ?_
        refine st_p rfl rfl ((by first | exact p_fa0 rfl o_101_1 | exact p_fa rfl o_101_1)) ?_
        refine st_p rfl rfl (p_iar rfl rfl a_99 (by first | decide | omega) (by first | decide | omega)) ?_
        refine st_l rfl rfl (l_ob 9 rfl rfl rfl rfl rfl s_22 (by simp)) ?_
        rintro _ _ ⟨rfl, rfl⟩
        refine at_hp (by (try simp only [List.take_zero, List.take_succ_cons, List.drop_zero, List.drop_succ_cons, List.drop_nil, List.length_cons, List.length_nil, Nat.zero_add, Nat.reduceAdd, List.set_cons_zero, List.set_cons_succ, List.nil_append, List.cons_append, List.append_nil, pick, List.filterMap_cons, List.filterMap_nil, List.getElem?_cons_zero, List.getElem?_cons_succ]); exact rfl) ?_
        refine at_nil ?_
        refine at_ks [0, 1, 2, 3, 4, 5, 6, 9, 10, 11, 27, 28, 29, 31, 32, 47, 48] (by (try simp only [keep, lk, pd, enumE, Nat.reduceBEq, Nat.reduceAdd, cond_true, cond_false]); exact rfl) ?_
        refine at_inb ?_
        refine at_then ?_
        refine at_region ?_
        refine st_p rfl rfl (p_add (r := 6) rfl rfl (by decide)) ?_
        refine st_p rfl rfl (p_move rfl) ?_
        refine at_nil ?_
        refine at_ks [0, 1, 2, 3, 4, 5, 6, 9, 10, 11, 27, 28, 29, 31, 32, 47, 48] (by (try simp only [keep, lk, pd, enumE, Nat.reduceBEq, Nat.reduceAdd, cond_true, cond_false]); exact rfl) ?_
        refine at_then ?_
        refine at_round ?_
        refine at_seq ?_
        refine at_region ?_
        refine st_p rfl rfl (p_lss rfl rfl) ?_
        refine at_nil ?_
        refine at_ks [0, 1, 2, 3, 4, 5, 6, 9, 10, 11, 27, 28, 29, 31, 32, 47, 48] (by (try simp only [keep, lk, pd, enumE, Nat.reduceBEq, Nat.reduceAdd, cond_true, cond_false]); exact rfl) ?_
        refine at_then ?_
        refine at_seq ?_
        refine at_cond_t rfl ?_
        refine at_skip ?_
        refine at_then ?_
        refine at_seq ?_
        refine at_block ?_
        refine at_seq ?_
        refine at_region ?_
        refine st_p rfl rfl (p_move rfl) ?_
        refine st_p rfl rfl (p_assign rfl) ?_
        refine at_nil ?_
        refine at_ks [0, 1, 2, 3, 4, 5, 6, 9, 10, 11, 27, 28, 29, 31, 32, 47, 48] (by (try simp only [keep, lk, pd, enumE, Nat.reduceBEq, Nat.reduceAdd, cond_true, cond_false]); exact rfl) ?_
        refine at_then ?_
        refine at_region ?_
        refine st_p rfl rfl (p_move rfl) ?_
        refine st_p rfl rfl (p_move rfl) ?_
        refine st_l rfl rfl (l_bsV [_, _, _] _ rfl e_22 (by decide) (by decide) rfl (by simp [Value.cells]) (by simp only [List.flatMap_cons, List.flatMap_nil, Value.cells, List.nil_append, List.cons_append, List.append_nil]; exact rfl)) ?_
        rintro _ _ ⟨w6, rfl, rfl⟩
        refine at_hp (by (try simp only [List.take_zero, List.take_succ_cons, List.drop_zero, List.drop_succ_cons, List.drop_nil, List.length_cons, List.length_nil, Nat.zero_add, Nat.reduceAdd, List.set_cons_zero, List.set_cons_succ, List.nil_append, List.cons_append, List.append_nil, pick, List.filterMap_cons, List.filterMap_nil, List.getElem?_cons_zero, List.getElem?_cons_succ]); exact rfl) ?_
        refine st_p rfl rfl ((by first | exact p_nil rfl | exact p_nilf rfl)) ?_
        refine st_p rfl rfl ((by first | exact p_fa0 rfl o_101_1 | exact p_fa rfl o_101_1)) ?_
        refine st_p rfl rfl (p_iar rfl rfl a_99 (by first | decide | omega) (by first | decide | omega)) ?_
        refine st_l rfl rfl (l_ob 10 rfl rfl rfl rfl rfl s_22 (by simp)) ?_
        rintro _ _ ⟨rfl, rfl⟩
        refine at_hp (by (try simp only [List.take_zero, List.take_succ_cons, List.drop_zero, List.drop_succ_cons, List.drop_nil, List.length_cons, List.length_nil, Nat.zero_add, Nat.reduceAdd, List.set_cons_zero, List.set_cons_succ, List.nil_append, List.cons_append, List.append_nil, pick, List.filterMap_cons, List.filterMap_nil, List.getElem?_cons_zero, List.getElem?_cons_succ]); exact rfl) ?_
        refine at_nil ?_
        refine at_ks [0, 1, 2, 3, 4, 5, 6, 9, 10, 11, 27, 28, 29, 31, 32, 47, 48] (by (try simp only [keep, lk, pd, enumE, Nat.reduceBEq, Nat.reduceAdd, cond_true, cond_false]); exact rfl) ?_
        refine at_inb ?_
        refine at_then ?_
        refine at_region ?_
        refine st_p rfl rfl (p_add (r := 7) rfl rfl (by decide)) ?_
        refine st_p rfl rfl (p_move rfl) ?_
        refine at_nil ?_
        refine at_ks [0, 1, 2, 3, 4, 5, 6, 9, 10, 11, 27, 28, 29, 31, 32, 47, 48] (by (try simp only [keep, lk, pd, enumE, Nat.reduceBEq, Nat.reduceAdd, cond_true, cond_false]); exact rfl) ?_
        refine at_then ?_
        refine at_round ?_
        refine at_seq ?_
        refine at_region ?_
        refine st_p rfl rfl (p_lss rfl rfl) ?_
        refine at_nil ?_
        refine at_ks [0, 1, 2, 3, 4, 5, 6, 9, 10, 11, 27, 28, 29, 31, 32, 47, 48] (by (try simp only [keep, lk, pd, enumE, Nat.reduceBEq, Nat.reduceAdd, cond_true, cond_false]); exact rfl) ?_
        refine at_then ?_
        refine at_seq ?_
        refine at_cond_f rfl ?_
        refine at_exit ?_
        refine at_then_x ?_
        refine at_then_x ?_
        refine at_inb_exit ?_
        refine at_then ?_
        refine at_seq ?_
        refine at_region ?_
        refine st_p rfl rfl (p_move rfl) ?_
        refine st_p rfl rfl (p_assign rfl) ?_
        refine at_nil ?_
        refine at_ks [0, 1, 2, 3, 4, 5, 6, 9, 10, 11, 27, 28, 29, 31, 32, 47, 48] (by (try simp only [keep, lk, pd, enumE, Nat.reduceBEq, Nat.reduceAdd, cond_true, cond_false]); exact rfl) ?_
        refine at_then ?_
        refine at_retc ?_
        refine at_re [10, 9, 8, 7, 6, 5, 4, 3, 2, 1, 0] (by decide) ?_
        exact fin_1 rfl rfl (by
            refine ⟨b8, rfl, r0, r1, r2, 1, 65, 65, [.slice (some ⟨w0, 0, none⟩) 3 3, .slice (some ⟨w1, 0, none⟩) 3 3, .slice (some ⟨w2, 0, none⟩) 3 3, .slice (some ⟨w3, 0, none⟩) 3 3, .slice (some ⟨w4, 0, none⟩) 3 3, .slice (some ⟨w5, 0, none⟩) 3 3, .slice (some ⟨w6, 0, none⟩) 3 3], rfl, ?_⟩
            rw [fill_full 1, fill_full 65]
            rfl)

end Go.Proofs.Ytbpbhjnkmonlbaa