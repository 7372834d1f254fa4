/- What the document answers, and what the program: the walk. No condition. -/
import Derived.Test.YtbpbhjnkmonlbaaRp
import Derived.Test.YtbpbhjnkmonlbaaAl
import Derived.Test.YtbpbhjnkmonlbaaNuw
namespace Go.Proofs.Ytbpbhjnkmonlbaa
open Go.RowKit Sl
set_option linter.unusedVariables false
set_option linter.unusedSimpArgs false
set_option maxRecDepth 10000
theorem SC.sameI {P : Program} {f : FuncId} {args : Array Value} {H : Hp} {F : Frm} {xs : List Int} (h : SC P f args H F (fun u H => u = .bool (decide (xs = xs)) ∧ H = [])) : SC P f args H F (fun u H => u = .bool true ∧ H = []) := h.mono fun _ _ ⟨h1, h2⟩ => ⟨h1.trans (congrArg Value.bool (decide_eq_true rfl)), h2⟩
theorem SC.sameP {P : Program} {f : FuncId} {args : Array Value} {H : Hp} {F : Frm} {xs : List (Int × Int)} (h : SC P f args H F (fun u H => u = .bool (decide (xs = xs)) ∧ H = [])) : SC P f args H F (fun u H => u = .bool true ∧ H = []) := h.mono fun _ _ ⟨h1, h2⟩ => ⟨h1.trans (congrArg Value.bool (decide_eq_true rfl)), h2⟩

theorem all_calls (A B : Option Addr) (n ca m cb : Nat) (cs : List Int) (ps : List (Int × Int)) (s : ByteArray) (k : Int) (F : Frm) (hn : cs.length = n) (hm : ps.length = m) (hr : ∀ p ∈ ps, 0 ≤ p.2 ∧ p.2 < 18446744073709551616) (hx : FV F A (ints .i64 cs)) (hy : FV F B (pcells ps)) :
    SC Try.prog 3 #[.slice A n ca, .slice B m cb, .string s, N k] [] F (fun u H => u = .bool true ∧ H = []) := by
  refine sc_in (args := [.slice A n ca, .slice B m cb, .string s, N k]) Try.func3 rfl rfl (Nat.le_of_ble_eq_true rfl) ?_
  refine at_ks [0, 1, 2, 3, 8, 9, 10, 11, 12, 13, 14, 27] (by (try simp only [keep, lk, pd, enumE, Nat.reduceBEq, Nat.reduceAdd, cond_true, cond_false]); exact rfl) ?_
  refine at_seq ?_
  refine at_region ?_
  refine st_p rfl rfl (p_assign rfl) ?_
  refine at_nil ?_
  refine at_ks [0, 1, 2, 3, 8, 9, 10, 11, 12, 13, 14, 27] (by (try simp only [keep, lk, pd, enumE, Nat.reduceBEq, Nat.reduceAdd, cond_true, cond_false]); exact rfl) ?_
  refine at_then ?_
  refine at_seq ?_
  refine at_seq ?_
  refine at_region ?_
  refine st_p rfl rfl (p_move rfl) ?_
  refine st_p rfl rfl (p_len rfl m_22) ?_
  refine st_p rfl rfl (p_gtr rfl rfl) ?_
  refine st_p rfl rfl (p_move rfl) ?_
  refine at_split 18 rfl (fun ht18 => ?_) (fun ht18 => ?_)
  · (try simp only [decide_eq_true_eq, decide_eq_false_iff_not, Bool.not_eq_true', Bool.not_eq_false', Bool.not_true, Bool.not_false, Bool.or_eq_true, Bool.and_eq_true, Int.not_lt, Int.not_le] at ht18)
    refine sg_no rfl rfl ?_
    refine sg_no rfl rfl ?_
    refine sg_no rfl rfl ?_
    refine st_p rfl rfl ((by first | exact p_pick_t rfl rfl | exact p_pick_f rfl rfl)) ?_
    refine st_p rfl rfl (p_move rfl) ?_
    refine sg_no rfl rfl ?_
    refine sg_no rfl rfl ?_
    refine sg_no rfl rfl ?_
    refine st_p rfl rfl ((by first | exact p_pick_t rfl rfl | exact p_pick_f rfl rfl)) ?_
    refine at_nil ?_
    refine at_ks [0, 1, 2, 3, 8, 9, 10, 11, 12, 13, 14, 27] (by (try simp only [keep, lk, pd, enumE, Nat.reduceBEq, Nat.reduceAdd, cond_true, cond_false]); exact rfl) ?_
    refine at_then ?_
    refine at_cond_t rfl ?_
    refine at_seq ?_
    refine at_region ?_
    refine st_q rfl rfl (q_call (first := []) rfl c_10 rfl (fun F1 hF1 hs1 => awake_calls F1)) ?_
    refine st_p rfl rfl (p_assign rfl) ?_
    refine at_nil ?_
    refine at_ks [0, 1, 2, 3, 8, 9, 10, 11, 12, 13, 14, 27] (by (try simp only [keep, lk, pd, enumE, Nat.reduceBEq, Nat.reduceAdd, cond_true, cond_false]); exact rfl) ?_
    refine at_then ?_
    refine at_retc ?_
    refine at_then_r ?_
    refine at_re [] (by decide) ?_
    exact fin_1 rfl rfl (by
        exact ⟨rfl, rfl⟩)
  · (try simp only [decide_eq_true_eq, decide_eq_false_iff_not, Bool.not_eq_true', Bool.not_eq_false', Bool.not_true, Bool.not_false, Bool.or_eq_true, Bool.and_eq_true, Int.not_lt, Int.not_le] at ht18)
    refine sg_p rfl rfl (p_move rfl) ?_
    refine sg_p rfl rfl (p_len rfl m_23) ?_
    refine sg_p rfl rfl (p_gtr rfl rfl) ?_
    refine st_p rfl rfl ((by first | exact p_pick_t rfl rfl | exact p_pick_f rfl rfl)) ?_
    refine st_p rfl rfl (p_move rfl) ?_
    refine at_split 23 rfl (fun ht23 => ?_) (fun ht23 => ?_)
    · (try simp only [decide_eq_true_eq, decide_eq_false_iff_not, Bool.not_eq_true', Bool.not_eq_false', Bool.not_true, Bool.not_false, Bool.or_eq_true, Bool.and_eq_true, Int.not_lt, Int.not_le] at ht23)
      refine sg_no rfl rfl ?_
      refine sg_no rfl rfl ?_
      refine sg_no rfl rfl ?_
      refine st_p rfl rfl ((by first | exact p_pick_t rfl rfl | exact p_pick_f rfl rfl)) ?_
      refine at_nil ?_
      refine at_ks [0, 1, 2, 3, 8, 9, 10, 11, 12, 13, 14, 27] (by (try simp only [keep, lk, pd, enumE, Nat.reduceBEq, Nat.reduceAdd, cond_true, cond_false]); exact rfl) ?_
      refine at_then ?_
      refine at_cond_t rfl ?_
      refine at_seq ?_
      refine at_region ?_
      refine st_q rfl rfl (q_call (first := []) rfl c_10 rfl (fun F1 hF1 hs1 => awake_calls F1)) ?_
      refine st_p rfl rfl (p_assign rfl) ?_
      refine at_nil ?_
      refine at_ks [0, 1, 2, 3, 8, 9, 10, 11, 12, 13, 14, 27] (by (try simp only [keep, lk, pd, enumE, Nat.reduceBEq, Nat.reduceAdd, cond_true, cond_false]); exact rfl) ?_
      refine at_then ?_
      refine at_retc ?_
      refine at_then_r ?_
      refine at_re [] (by decide) ?_
      exact fin_1 rfl rfl (by
          exact ⟨rfl, rfl⟩)
    · (try simp only [decide_eq_true_eq, decide_eq_false_iff_not, Bool.not_eq_true', Bool.not_eq_false', Bool.not_true, Bool.not_false, Bool.or_eq_true, Bool.and_eq_true, Int.not_lt, Int.not_le] at ht23)
      refine sg_p rfl rfl (p_move rfl) ?_
      refine sg_p rfl rfl (p_lens rfl Try.underlying9) ?_
      refine sg_p rfl rfl (p_gtr rfl rfl) ?_
      refine st_p rfl rfl ((by first | exact p_pick_t rfl rfl | exact p_pick_f rfl rfl)) ?_
      refine at_nil ?_
      refine at_ks [0, 1, 2, 3, 8, 9, 10, 11, 12, 13, 14, 27] (by (try simp only [keep, lk, pd, enumE, Nat.reduceBEq, Nat.reduceAdd, cond_true, cond_false]); exact rfl) ?_
      refine at_then ?_
      refine at_cond rfl (fun ht27 => ?_) (fun ht27 => ?_)
      · (try simp only [decide_eq_true_eq, decide_eq_false_iff_not, Bool.not_eq_true', Bool.not_eq_false', Bool.not_true, Bool.not_false, Bool.or_eq_true, Bool.and_eq_true, Int.not_lt, Int.not_le] at ht27)
        refine at_seq ?_
        refine at_region ?_
        refine st_q rfl rfl (q_call (first := []) rfl c_10 rfl (fun F1 hF1 hs1 => awake_calls F1)) ?_
        refine st_p rfl rfl (p_assign rfl) ?_
        refine at_nil ?_
        refine at_ks [0, 1, 2, 3, 8, 9, 10, 11, 12, 13, 14, 27] (by (try simp only [keep, lk, pd, enumE, Nat.reduceBEq, Nat.reduceAdd, cond_true, cond_false]); exact rfl) ?_
        refine at_then ?_
        refine at_retc ?_
        refine at_then_r ?_
        refine at_re [] (by decide) ?_
        exact fin_1 rfl rfl (by
            exact ⟨rfl, rfl⟩)
      · (try simp only [decide_eq_true_eq, decide_eq_false_iff_not, Bool.not_eq_true', Bool.not_eq_false', Bool.not_true, Bool.not_false, Bool.or_eq_true, Bool.and_eq_true, Int.not_lt, Int.not_le] at ht27)
        obtain ⟨rp, hrp⟩ := putGo_ex ps ms0 cd0 (by simp only [cd0]; omega)
        obtain ⟨rg, hrg, hgl⟩ := getS_ex s (mn k 50) (by unfold mn; split <;> omega)
        obtain ⟨rt, hrt, htl⟩ := traceGo_ex cs ms0 [] (by simp; omega)
        rw [List.length_nil] at htl
        refine at_skip ?_
        refine at_then ?_
        refine at_seq ?_
        refine at_region ?_
        refine st_p rfl rfl (p_move rfl) ?_
        refine st_l rfl rfl (l_callP (first := []) (H1 := []) (H2 := _) (List.Perm.refl _) rfl c_11 rfl (fun F1 hF1 hs1 => put_calls B m cb ps rp F1 hm (by omega) hr (hy.mono hF1) hrp)) ?_
        rintro _ _ ⟨_, ⟨rfl, rfl⟩, rfl⟩
        refine at_hp (by (try simp only [List.take_zero, List.take_succ_cons, List.drop_zero, List.drop_succ_cons, List.drop_nil, List.length_cons, List.length_nil, Nat.zero_add, Nat.reduceAdd, List.set_cons_zero, List.set_cons_succ, List.nil_append, List.cons_append, List.append_nil, pick, List.filterMap_cons, List.filterMap_nil, List.getElem?_cons_zero, List.getElem?_cons_succ]); exact rfl) ?_
        refine st_p rfl rfl (p_move rfl) ?_
        refine st_p rfl rfl (p_ext rfl rfl) ?_
        refine st_p rfl rfl (p_ext rfl rfl) ?_
        refine st_p rfl rfl (p_assign rfl) ?_
        refine st_p rfl rfl (p_assign rfl) ?_
        refine at_nil ?_
        refine at_ks [0, 1, 2, 3, 8, 9, 10, 11, 12, 13, 14, 27] (by (try simp only [keep, lk, pd, enumE, Nat.reduceBEq, Nat.reduceAdd, cond_true, cond_false]); exact rfl) ?_
        refine at_then ?_
        refine at_seq ?_
        refine at_region ?_
        refine st_p rfl rfl (p_move rfl) ?_
        refine st_l rfl rfl (l_callP (first := []) (H1 := []) (H2 := _) (List.Perm.refl _) rfl c_12 rfl (fun F1 hF1 hs1 => rput_calls B m cb ps rp F1 hm (by omega) hr (hy.mono hF1) hrp)) ?_
        rintro _ _ ⟨_, ⟨rfl, rfl⟩, rfl⟩
        refine at_hp (by (try simp only [List.take_zero, List.take_succ_cons, List.drop_zero, List.drop_succ_cons, List.drop_nil, List.length_cons, List.length_nil, Nat.zero_add, Nat.reduceAdd, List.set_cons_zero, List.set_cons_succ, List.nil_append, List.cons_append, List.append_nil, pick, List.filterMap_cons, List.filterMap_nil, List.getElem?_cons_zero, List.getElem?_cons_succ]); exact rfl) ?_
        refine st_l rfl rfl (l_alloc _ y_29) ?_
        rintro _ _ ⟨b11, rfl, rfl⟩
        refine at_hp (by (try simp only [List.take_zero, List.take_succ_cons, List.drop_zero, List.drop_succ_cons, List.drop_nil, List.length_cons, List.length_nil, Nat.zero_add, Nat.reduceAdd, List.set_cons_zero, List.set_cons_succ, List.nil_append, List.cons_append, List.append_nil, pick, List.filterMap_cons, List.filterMap_nil, List.getElem?_cons_zero, List.getElem?_cons_succ]); exact rfl) ?_
        refine st_l rfl rfl (l_obN (us := [.string (strOfNums rp.1), N rp.2]) 0 rfl rfl rfl (by simp [Value.oneCell']) s_29 (by simp)) ?_
        rintro _ _ ⟨rfl, rfl⟩
        refine at_hp (by (try simp only [List.take_zero, List.take_succ_cons, List.drop_zero, List.drop_succ_cons, List.drop_nil, List.length_cons, List.length_nil, Nat.zero_add, Nat.reduceAdd, List.set_cons_zero, List.set_cons_succ, List.nil_append, List.cons_append, List.append_nil, pick, List.filterMap_cons, List.filterMap_nil, List.getElem?_cons_zero, List.getElem?_cons_succ]); exact rfl) ?_
        refine at_nil ?_
        refine at_ks [0, 1, 2, 3, 8, 9, 10, 11, 12, 13, 14, 27] (by (try simp only [keep, lk, pd, enumE, Nat.reduceBEq, Nat.reduceAdd, cond_true, cond_false]); exact rfl) ?_
        refine at_then ?_
        refine at_seq ?_
        refine at_region ?_
        refine st_p rfl rfl (p_move rfl) ?_
        refine st_p rfl rfl (p_move rfl) ?_
        refine st_p rfl rfl (p_min (r := mn k 50) rfl rfl rfl) ?_
        refine st_l rfl rfl (l_callP (first := []) (H1 := []) (H2 := _) (List.Perm.refl _) rfl c_13 rfl (fun F1 hF1 hs1 => get_calls s (mn k 50) rg F1 hrg)) ?_
        rintro _ _ ⟨_, ⟨vg, rfl, rfl⟩, rfl⟩
        refine at_hp (by (try simp only [List.take_zero, List.take_succ_cons, List.drop_zero, List.drop_succ_cons, List.drop_nil, List.length_cons, List.length_nil, Nat.zero_add, Nat.reduceAdd, List.set_cons_zero, List.set_cons_succ, List.nil_append, List.cons_append, List.append_nil, pick, List.filterMap_cons, List.filterMap_nil, List.getElem?_cons_zero, List.getElem?_cons_succ]); exact rfl) ?_
        refine st_p rfl rfl (p_move rfl) ?_
        refine st_p rfl rfl (p_ext rfl rfl) ?_
        refine st_p rfl rfl (p_ext rfl rfl) ?_
        refine st_p rfl rfl (p_assign rfl) ?_
        refine st_p rfl rfl (p_assign rfl) ?_
        refine at_nil ?_
        refine at_ks [0, 1, 2, 3, 8, 9, 10, 11, 12, 13, 14, 27] (by (try simp only [keep, lk, pd, enumE, Nat.reduceBEq, Nat.reduceAdd, cond_true, cond_false]); exact rfl) ?_
        refine at_then ?_
        refine at_seq ?_
        refine at_region ?_
        refine st_p rfl rfl (p_move rfl) ?_
        refine st_p rfl rfl (p_move rfl) ?_
        refine st_p rfl rfl (p_min (r := mn k 50) rfl rfl rfl) ?_
        refine st_l rfl rfl (l_callP (first := []) (H1 := []) (H2 := _) (List.Perm.refl _) rfl c_14 rfl (fun F1 hF1 hs1 => rget_calls s (mn k 50) rg F1 hrg)) ?_
        rintro _ _ ⟨_, ⟨vr, rfl, rfl⟩, rfl⟩
        refine at_hp (by (try simp only [List.take_zero, List.take_succ_cons, List.drop_zero, List.drop_succ_cons, List.drop_nil, List.length_cons, List.length_nil, Nat.zero_add, Nat.reduceAdd, List.set_cons_zero, List.set_cons_succ, List.nil_append, List.cons_append, List.append_nil, pick, List.filterMap_cons, List.filterMap_nil, List.getElem?_cons_zero, List.getElem?_cons_succ]); exact rfl) ?_
        refine at_shapeM 0 rfl fun Ar cr hv _ _ _ => ?_
        subst hv
        refine st_l rfl rfl (l_alloc _ y_34) ?_
        rintro _ _ ⟨b14, rfl, rfl⟩
        refine at_hp (by (try simp only [List.take_zero, List.take_succ_cons, List.drop_zero, List.drop_succ_cons, List.drop_nil, List.length_cons, List.length_nil, Nat.zero_add, Nat.reduceAdd, List.set_cons_zero, List.set_cons_succ, List.nil_append, List.cons_append, List.append_nil, pick, List.filterMap_cons, List.filterMap_nil, List.getElem?_cons_zero, List.getElem?_cons_succ]); exact rfl) ?_
        refine st_l rfl rfl (l_obN (us := [.slice Ar rg.1.length cr, N rg.2]) 0 rfl rfl rfl (by simp [Value.oneCell']) s_34 (by simp)) ?_
        rintro _ _ ⟨rfl, rfl⟩
        refine at_hp (by (try simp only [List.take_zero, List.take_succ_cons, List.drop_zero, List.drop_succ_cons, List.drop_nil, List.length_cons, List.length_nil, Nat.zero_add, Nat.reduceAdd, List.set_cons_zero, List.set_cons_succ, List.nil_append, List.cons_append, List.append_nil, pick, List.filterMap_cons, List.filterMap_nil, List.getElem?_cons_zero, List.getElem?_cons_succ]); exact rfl) ?_
        refine at_nil ?_
        refine at_ks [0, 1, 2, 3, 8, 9, 10, 11, 12, 13, 14, 27] (by (try simp only [keep, lk, pd, enumE, Nat.reduceBEq, Nat.reduceAdd, cond_true, cond_false]); exact rfl) ?_
        refine at_then ?_
        refine at_seq ?_
        refine at_shapeM 2 rfl fun Ag cg hv _ _ _ => ?_
        subst hv
        refine at_drawH [0, 2, 1, 3, 4, 5, 6, 7, 8, 9, 10, 11, 12, 13, 14, 15, 16, 17, 18, 19, 20, 21, 22, 23, 24, 25, 26, 27, 28, 29, 30, 31, 32, 33, 34] [0, 1, 0, 7, 15, 31, 63, 63, 191, 511, 1023, 2047, 4095, 8191, 4095, 20479, 65535, 131071, 262143, 524287, 524287, 1572863, 4194303, 8388607, 16777215, 33554431, 67108863, 33554431, 167772159, 536870911, 1073741823, 2147483647, 4294967295, 8589934591, 17179869183] [8, 13, 15, 21, 22, 26, 28, 32] [1, 3, 4] mixd (by kernel_rfl) ?_
        refine rd_p rfl rfl rfl rfl rfl (p_move rfl) ?_
        refine rd_p rfl rfl rfl rfl rfl (p_move rfl) ?_
        refine rd_l rfl rfl rfl rfl (l_callP (first := []) (H1 := []) (H2 := _) (List.Perm.refl _) rfl c_16 rfl (fun F1 hF1 hs1 => (trace_calls A n ca cs rt F1 hn (by omega) (hx.mono hF1) hrt).shape)) (fun _ => by rintro _ _ ⟨_, ⟨At, ct, rfl, _, _, rfl⟩, rfl⟩; exact (sub_re [1, 2, 3, 4] (by decide) rfl)) ?_
        rintro _ _ ⟨_, ⟨At, ct, rfl, _, _, rfl⟩, rfl⟩
        refine rd_hp (by (try simp only [List.take_zero, List.take_succ_cons, List.drop_zero, List.drop_succ_cons, List.drop_nil, List.length_cons, List.length_nil, Nat.zero_add, Nat.reduceAdd, List.set_cons_zero, List.set_cons_succ, List.nil_append, List.cons_append, List.append_nil, pick, List.filterMap_cons, List.filterMap_nil, List.getElem?_cons_zero, List.getElem?_cons_succ]); exact rfl) ?_
        refine rd_l rfl rfl rfl rfl (l_callP (first := []) (H1 := []) (H2 := _) (List.Perm.refl _) rfl c_17 rfl (fun F1 hF1 hs1 => (rtrace_calls A n ca cs rt F1 hn (by omega) (hx.mono hF1) hrt).shape)) (fun _ => by rintro _ _ ⟨_, ⟨Au, cu, rfl, _, _, rfl⟩, rfl⟩; exact (sub_re [2, 3, 4, 5] (by decide) rfl)) ?_
        rintro _ _ ⟨_, ⟨Au, cu, rfl, _, _, rfl⟩, rfl⟩
        refine rd_hp (by (try simp only [List.take_zero, List.take_succ_cons, List.drop_zero, List.drop_succ_cons, List.drop_nil, List.length_cons, List.length_nil, Nat.zero_add, Nat.reduceAdd, List.set_cons_zero, List.set_cons_succ, List.nil_append, List.cons_append, List.append_nil, pick, List.filterMap_cons, List.filterMap_nil, List.getElem?_cons_zero, List.getElem?_cons_succ]); exact rfl) ?_
        refine rd_l rfl rfl rfl rfl ((q_call (first := []) rfl c_15 rfl (fun F1 hF1 hs1 => Go.Proofs.Ytbpbhjnkmonlbaa.SC.sameI (sameInts_calls At Au rt.length rt.length ct cu rt rt F1 rfl rfl (by omega) (fv_slice (hs1 _ (List.mem_of_getElem? (i := 1) rfl))) (fv_slice (hs1 _ (List.mem_of_getElem? (i := 0) rfl)))))).l) (fun _ => by rintro _ _ ⟨rfl, rfl⟩; exact (sub_re [2, 3, 4, 5] (by decide) rfl)) ?_
        rintro _ _ ⟨rfl, rfl⟩
        refine rd_hp (by (try simp only [List.take_zero, List.take_succ_cons, List.drop_zero, List.drop_succ_cons, List.drop_nil, List.length_cons, List.length_nil, Nat.zero_add, Nat.reduceAdd, List.set_cons_zero, List.set_cons_succ, List.nil_append, List.cons_append, List.append_nil, pick, List.filterMap_cons, List.filterMap_nil, List.getElem?_cons_zero, List.getElem?_cons_succ]); exact rfl) ?_
        refine rd_p rfl rfl rfl rfl rfl (p_move rfl) ?_
        refine rd_p rfl rfl rfl rfl rfl (p_move rfl) ?_
        refine rd_p rfl rfl rfl rfl rfl ((by first | exact p_fa0 rfl o_29_0 | exact p_fa rfl o_29_0)) ?_
        refine rd_q rfl rfl rfl rfl rfl ((by first | exact q_ob 0 rfl rfl r_9 (by first | rfl | assumption) | exact q_ob 1 rfl rfl r_9 (by first | rfl | assumption) | exact q_ob 2 rfl rfl r_9 (by first | rfl | assumption) | exact q_ob 3 rfl rfl r_9 (by first | rfl | assumption) | exact q_ob 4 rfl rfl r_9 (by first | rfl | assumption) | exact q_ob 5 rfl rfl r_9 (by first | rfl | assumption) | exact q_sl 0 rfl rfl r_9 (by first | rfl | assumption) | exact q_sl 1 rfl rfl r_9 (by first | rfl | assumption) | exact q_sl 2 rfl rfl r_9 (by first | rfl | assumption) | exact q_sl 3 rfl rfl r_9 (by first | rfl | assumption) | exact q_sl 4 rfl rfl r_9 (by first | rfl | assumption) | exact q_sl 5 rfl rfl r_9 (by first | rfl | assumption) | exact q_fr rfl r_9 (by assumption))) (sub_re [2, 3, 4, 5] (by decide) rfl) ?_
        refine rd_p rfl rfl rfl rfl rfl (p_isT (p_eqs rfl rfl) (decide_eq_true rfl)) ?_
        refine rd_p rfl rfl rfl rfl rfl ((by first | exact p_pick_t rfl rfl | exact p_pick_f rfl rfl)) ?_
        refine rd_p rfl rfl rfl rfl rfl (p_move rfl) ?_
        refine rd_p rfl rfl rfl rfl rfl (p_move rfl) ?_
        refine rd_q rfl rfl rfl rfl rfl (q_call (first := []) rfl c_18 rfl (fun F1 hF1 hs1 => err_calls _ F1)) (sub_re [2, 3, 4, 5] (by decide) rfl) ?_
        refine rd_p rfl rfl rfl rfl rfl ((by first | exact p_fa0 rfl o_29_1 | exact p_fa rfl o_29_1)) ?_
        refine rd_q rfl rfl rfl rfl rfl ((by first | exact q_ob 0 rfl rfl r_3 (by first | rfl | assumption) | exact q_ob 1 rfl rfl r_3 (by first | rfl | assumption) | exact q_ob 2 rfl rfl r_3 (by first | rfl | assumption) | exact q_ob 3 rfl rfl r_3 (by first | rfl | assumption) | exact q_ob 4 rfl rfl r_3 (by first | rfl | assumption) | exact q_ob 5 rfl rfl r_3 (by first | rfl | assumption) | exact q_sl 0 rfl rfl r_3 (by first | rfl | assumption) | exact q_sl 1 rfl rfl r_3 (by first | rfl | assumption) | exact q_sl 2 rfl rfl r_3 (by first | rfl | assumption) | exact q_sl 3 rfl rfl r_3 (by first | rfl | assumption) | exact q_sl 4 rfl rfl r_3 (by first | rfl | assumption) | exact q_sl 5 rfl rfl r_3 (by first | rfl | assumption) | exact q_fr rfl r_3 (by assumption))) (sub_re [2, 3, 4, 5] (by decide) rfl) ?_
        refine rd_p rfl rfl rfl rfl rfl (p_isT (p_eql rfl rfl) (decide_eq_true rfl)) ?_
        refine rd_p rfl rfl rfl rfl rfl ((by first | exact p_pick_t rfl rfl | exact p_pick_f rfl rfl)) ?_
        refine rd_p rfl rfl rfl rfl rfl (p_move rfl) ?_
        refine rd_p rfl rfl rfl rfl rfl (p_move rfl) ?_
        refine rd_p rfl rfl rfl rfl rfl ((by first | exact p_fa0 rfl o_34_0 | exact p_fa rfl o_34_0)) ?_
        refine rd_q rfl rfl rfl rfl rfl ((by first | exact q_ob 0 rfl rfl r_23 (by first | rfl | assumption) | exact q_ob 1 rfl rfl r_23 (by first | rfl | assumption) | exact q_ob 2 rfl rfl r_23 (by first | rfl | assumption) | exact q_ob 3 rfl rfl r_23 (by first | rfl | assumption) | exact q_ob 4 rfl rfl r_23 (by first | rfl | assumption) | exact q_ob 5 rfl rfl r_23 (by first | rfl | assumption) | exact q_sl 0 rfl rfl r_23 (by first | rfl | assumption) | exact q_sl 1 rfl rfl r_23 (by first | rfl | assumption) | exact q_sl 2 rfl rfl r_23 (by first | rfl | assumption) | exact q_sl 3 rfl rfl r_23 (by first | rfl | assumption) | exact q_sl 4 rfl rfl r_23 (by first | rfl | assumption) | exact q_sl 5 rfl rfl r_23 (by first | rfl | assumption) | exact q_fr rfl r_23 (by assumption))) (sub_re [2, 3, 4, 5] (by decide) rfl) ?_
        refine rd_q rfl rfl rfl rfl rfl (q_call (first := []) rfl c_19 rfl (fun F1 hF1 hs1 => Go.Proofs.Ytbpbhjnkmonlbaa.SC.sameP (sameParts_calls Ag Ar rg.1.length rg.1.length cg cr rg.1 rg.1 F1 rfl rfl (by omega) (fv_slice (hs1 _ (List.mem_of_getElem? (i := 2) rfl))) (fv_slice (hs1 _ (List.mem_of_getElem? (i := 1) rfl)))))) (sub_re [2, 3, 4, 5] (by decide) rfl) ?_
        refine rd_p rfl rfl rfl rfl rfl ((by first | exact p_pick_t rfl rfl | exact p_pick_f rfl rfl)) ?_
        refine rd_p rfl rfl rfl rfl rfl (p_move rfl) ?_
        refine rd_p rfl rfl rfl rfl rfl (p_move rfl) ?_
        refine rd_q rfl rfl rfl rfl rfl (q_call (first := []) rfl c_18 rfl (fun F1 hF1 hs1 => err_calls _ F1)) (sub_re [2, 3, 4, 5] (by decide) rfl) ?_
        refine rd_p rfl rfl rfl rfl rfl ((by first | exact p_fa0 rfl o_34_1 | exact p_fa rfl o_34_1)) ?_
        refine rd_q rfl rfl rfl rfl rfl ((by first | exact q_ob 0 rfl rfl r_3 (by first | rfl | assumption) | exact q_ob 1 rfl rfl r_3 (by first | rfl | assumption) | exact q_ob 2 rfl rfl r_3 (by first | rfl | assumption) | exact q_ob 3 rfl rfl r_3 (by first | rfl | assumption) | exact q_ob 4 rfl rfl r_3 (by first | rfl | assumption) | exact q_ob 5 rfl rfl r_3 (by first | rfl | assumption) | exact q_sl 0 rfl rfl r_3 (by first | rfl | assumption) | exact q_sl 1 rfl rfl r_3 (by first | rfl | assumption) | exact q_sl 2 rfl rfl r_3 (by first | rfl | assumption) | exact q_sl 3 rfl rfl r_3 (by first | rfl | assumption) | exact q_sl 4 rfl rfl r_3 (by first | rfl | assumption) | exact q_sl 5 rfl rfl r_3 (by first | rfl | assumption) | exact q_fr rfl r_3 (by assumption))) (sub_re [2, 3, 4, 5] (by decide) rfl) ?_
        refine rd_p rfl rfl rfl rfl rfl (p_isT (p_eql rfl rfl) (decide_eq_true rfl)) ?_
        refine rd_p rfl rfl rfl rfl rfl ((by first | exact p_pick_t rfl rfl | exact p_pick_f rfl rfl)) ?_
        refine rd_p rfl rfl rfl rfl rfl (p_move rfl) ?_
        refine rd_q rfl rfl rfl rfl rfl (q_call (first := []) rfl c_10 rfl (fun F1 hF1 hs1 => awake_calls F1)) (sub_re [2, 3, 4, 5] (by decide) rfl) ?_
        refine rd_p rfl rfl rfl rfl rfl ((by first | exact p_pick_t rfl rfl | exact p_pick_f rfl rfl)) ?_
        refine rd_p rfl rfl rfl rfl rfl (p_assign rfl) ?_
        refine rd_nil ?_
        refine at_ks [0, 1, 2, 3, 8, 9, 10, 11, 12, 13, 14, 27] (by (try simp only [keep, lk, pd, enumE, Nat.reduceBEq, Nat.reduceAdd, cond_true, cond_false]); exact rfl) ?_
        refine at_then ?_
        refine at_retc ?_
        refine at_re [] (by decide) ?_
        exact fin_1 rfl rfl (by
            exact ⟨rfl, rfl⟩)

end Go.Proofs.Ytbpbhjnkmonlbaa