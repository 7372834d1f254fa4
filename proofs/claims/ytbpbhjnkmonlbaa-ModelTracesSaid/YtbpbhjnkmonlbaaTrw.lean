/- Chances are seven a class, each one that may be: the walk. No condition. -/
import Derived.Test.YtbpbhjnkmonlbaaTr
namespace Go.Proofs.Ytbpbhjnkmonlbaa
open Go.RowKit Sl
set_option linter.unusedVariables false
set_option linter.unusedSimpArgs false
set_option maxRecDepth 10000

theorem classes_calls (A : Option Addr) (n ca : Nat) (ns : List Int) (F : Frm) (hn : ns.length = n) (h6 : n ≤ 1000000000000000) (h0 : ∀ x ∈ ns, 0 ≤ x ∧ x ≤ 255) (hx : FV F A (ints .u8 ns)) :
    SC Try.prog 22 #[.slice A n ca] [] F (fun u H => H = [.sl u 3 1 (min 60 n) (ints .i64 (classesV ns))]) := by
  refine sc_in (args := [.slice A n ca]) Try.func22 rfl rfl (Nat.le_of_ble_eq_true rfl) ?_
  refine at_ks [0, 2, 3, 4, 12] (by (try simp only [keep, lk, pd, enumE, Nat.reduceBEq, Nat.reduceAdd, cond_true, cond_false]); exact rfl) ?_
  refine at_seq ?_
  refine at_region ?_
  refine st_p rfl rfl (p_assign rfl) ?_
  refine at_nil ?_
  refine at_ks [0, 2, 3, 4, 12] (by (try simp only [keep, lk, pd, enumE, Nat.reduceBEq, Nat.reduceAdd, cond_true, cond_false]); exact rfl) ?_
  refine at_then ?_
  refine at_seq ?_
  refine at_region ?_
  refine st_p rfl rfl (p_assign rfl) ?_
  refine at_nil ?_
  refine at_ks [0, 2, 3, 4, 12] (by (try simp only [keep, lk, pd, enumE, Nat.reduceBEq, Nat.reduceAdd, cond_true, cond_false]); exact rfl) ?_
  refine at_then ?_
  refine at_seq ?_
  refine at_seq ?_
  refine at_region ?_
  refine st_p rfl rfl (p_assign rfl) ?_
  refine at_nil ?_
  refine at_ks [0, 2, 3, 4, 12] (by (try simp only [keep, lk, pd, enumE, Nat.reduceBEq, Nat.reduceAdd, cond_true, cond_false]); exact rfl) ?_
  refine at_then ?_
  refine at_block ?_
  refine at_ks [0, 3, 4] (by (try simp only [keep, lk, pd, enumE, Nat.reduceBEq, Nat.reduceAdd, cond_true, cond_false]); exact rfl) ?_
  refine at_nilsl 3 1 ?_
  refine at_loop (fun k E H => ∃ (i : Nat) (v : Value), E = [(0, .slice A n ca), (3, v), (4, N (i : Int))] ∧ H = [.sl v 3 1 i (ints .i64 ((ns.take i).map (· % 65)))] ∧ i ≤ n ∧ i ≤ 60 ∧ k + i = 61) (61) (⟨0, _, rfl, rfl, by omega, by omega, by omega⟩) ?_
  rintro k _ _ ⟨i, v, rfl, rfl, hi, hi6, hk⟩
  refine at_seq ?_
  refine at_seq ?_
  refine at_region ?_
  refine st_p rfl rfl (p_move rfl) ?_
  refine st_p rfl rfl (p_move rfl) ?_
  refine st_p rfl rfl (p_len rfl m_46) ?_
  refine st_p rfl rfl (p_lss rfl rfl) ?_
  refine st_p rfl rfl (p_move rfl) ?_
  refine at_split 9 rfl (fun ht9 => ?_) (fun ht9 => ?_)
  · (try simp only [decide_eq_true_eq, decide_eq_false_iff_not, Bool.not_eq_true', Bool.not_eq_false', Bool.not_true, Bool.not_false, Bool.or_eq_true, Bool.and_eq_true, Int.not_lt, Int.not_le] at ht9)
    refine sg_p rfl rfl (p_move rfl) ?_
    refine sg_p rfl rfl (p_lss rfl rfl) ?_
    refine st_p rfl rfl ((by first | exact p_pick_t rfl rfl | exact p_pick_f rfl rfl)) ?_
    refine at_nil ?_
    refine at_ks [0, 2, 3, 4, 12] (by (try simp only [keep, lk, pd, enumE, Nat.reduceBEq, Nat.reduceAdd, cond_true, cond_false]); exact rfl) ?_
    refine at_then ?_
    refine at_cond rfl (fun ht12 => ?_) (fun ht12 => ?_)
    · (try simp only [decide_eq_true_eq, decide_eq_false_iff_not, Bool.not_eq_true', Bool.not_eq_false', Bool.not_true, Bool.not_false, Bool.or_eq_true, Bool.and_eq_true, Int.not_lt, Int.not_le] at ht12)
      obtain ⟨ba, oa, rfl, hga⟩ := hx.int (i := (i : Int)) (by omega) (by omega)
      have hg0 := h0 _ (List.mem_of_getElem? (gi_get (xs := ns) (i := (i : Int)) (by omega) (by omega)))
      refine at_skip ?_
      refine at_then ?_
      refine at_seq ?_
      refine at_block ?_
      refine at_region ?_
      refine st_p rfl rfl (p_move rfl) ?_
      refine st_p rfl rfl (p_move rfl) ?_
      refine st_p rfl rfl (p_move rfl) ?_
      refine st_p rfl rfl ((by first | exact p_ia1 rfl rfl z_46 (by first | decide | omega) (by first | decide | omega) | exact p_iaN rfl rfl z_46 (by first | decide | omega) (by first | decide | omega) | exact p_iaO1 rfl rfl z_46 (by first | decide | omega) (by first | decide | omega) | exact p_iaO rfl rfl z_46 (by first | decide | omega) (by first | decide | omega))) ?_
      refine st_q rfl rfl ((by first | exact q_ob 0 rfl rfl r_5 (by first | rfl | assumption) | exact q_ob 1 rfl rfl r_5 (by first | rfl | assumption) | exact q_ob 2 rfl rfl r_5 (by first | rfl | assumption) | exact q_ob 3 rfl rfl r_5 (by first | rfl | assumption) | exact q_ob 4 rfl rfl r_5 (by first | rfl | assumption) | exact q_ob 5 rfl rfl r_5 (by first | rfl | assumption) | exact q_sl 0 rfl rfl r_5 (by first | rfl | assumption) | exact q_sl 1 rfl rfl r_5 (by first | rfl | assumption) | exact q_sl 2 rfl rfl r_5 (by first | rfl | assumption) | exact q_sl 3 rfl rfl r_5 (by first | rfl | assumption) | exact q_sl 4 rfl rfl r_5 (by first | rfl | assumption) | exact q_sl 5 rfl rfl r_5 (by first | rfl | assumption) | exact q_fr rfl r_5 (by assumption))) ?_
      refine st_p rfl rfl (p_rem (r := gi ns i % 65) rfl rfl (by decide) (Int.tmod_eq_emod_of_nonneg hg0.1)) ?_
      refine st_p rfl rfl (p_conv (r := gi ns i % 65) rfl Try.underlying5 Try.underlying3 (nw64 (by omega))) ?_
      refine st_l rfl rfl (l_bsV [_] _ rfl e_22 (by decide) (by decide) rfl (by simp [Value.cells]) (by simp only [List.flatMap_cons, List.flatMap_nil, Value.cells, List.nil_append, List.cons_append, List.append_nil]; exact rfl)) ?_
      rintro _ _ ⟨b22, rfl, rfl⟩
      refine at_hp (by (try simp only [List.take_zero, List.take_succ_cons, List.drop_zero, List.drop_succ_cons, List.drop_nil, List.length_cons, List.length_nil, Nat.zero_add, Nat.reduceAdd, List.set_cons_zero, List.set_cons_succ, List.nil_append, List.cons_append, List.append_nil, pick, List.filterMap_cons, List.filterMap_nil, List.getElem?_cons_zero, List.getElem?_cons_succ]); exact rfl) ?_
      refine st_l rfl rfl ((by first | exact l_app 1 0 rfl rfl e_22 rfl (by decide) rfl rfl (by first | rfl | (simp; done)) (by simp [Value.oneCell']) (by decide) (by first | omega | (simp only [List.length_append, List.length_cons, List.length_nil]; omega)) (by first | decide | omega) | exact l_app 2 0 rfl rfl e_22 rfl (by decide) rfl rfl (by first | rfl | (simp; done)) (by simp [Value.oneCell']) (by decide) (by first | omega | (simp only [List.length_append, List.length_cons, List.length_nil]; omega)) (by first | decide | omega) | exact l_app 3 0 rfl rfl e_22 rfl (by decide) rfl rfl (by first | rfl | (simp; done)) (by simp [Value.oneCell']) (by decide) (by first | omega | (simp only [List.length_append, List.length_cons, List.length_nil]; omega)) (by first | decide | omega) | exact l_app 4 0 rfl rfl e_22 rfl (by decide) rfl rfl (by first | rfl | (simp; done)) (by simp [Value.oneCell']) (by decide) (by first | omega | (simp only [List.length_append, List.length_cons, List.length_nil]; omega)) (by first | decide | omega) | exact l_app 5 0 rfl rfl e_22 rfl (by decide) rfl rfl (by first | rfl | (simp; done)) (by simp [Value.oneCell']) (by decide) (by first | omega | (simp only [List.length_append, List.length_cons, List.length_nil]; omega)) (by first | decide | omega) | exact l_app 0 1 rfl rfl e_22 rfl (by decide) rfl rfl (by first | rfl | (simp; done)) (by simp [Value.oneCell']) (by decide) (by first | omega | (simp only [List.length_append, List.length_cons, List.length_nil]; omega)) (by first | decide | omega) | exact l_app 2 1 rfl rfl e_22 rfl (by decide) rfl rfl (by first | rfl | (simp; done)) (by simp [Value.oneCell']) (by decide) (by first | omega | (simp only [List.length_append, List.length_cons, List.length_nil]; omega)) (by first | decide | omega) | exact l_app 3 1 rfl rfl e_22 rfl (by decide) rfl rfl (by first | rfl | (simp; done)) (by simp [Value.oneCell']) (by decide) (by first | omega | (simp only [List.length_append, List.length_cons, List.length_nil]; omega)) (by first | decide | omega) | exact l_app 4 1 rfl rfl e_22 rfl (by decide) rfl rfl (by first | rfl | (simp; done)) (by simp [Value.oneCell']) (by decide) (by first | omega | (simp only [List.length_append, List.length_cons, List.length_nil]; omega)) (by first | decide | omega) | exact l_app 5 1 rfl rfl e_22 rfl (by decide) rfl rfl (by first | rfl | (simp; done)) (by simp [Value.oneCell']) (by decide) (by first | omega | (simp only [List.length_append, List.length_cons, List.length_nil]; omega)) (by first | decide | omega) | exact l_app 0 2 rfl rfl e_22 rfl (by decide) rfl rfl (by first | rfl | (simp; done)) (by simp [Value.oneCell']) (by decide) (by first | omega | (simp only [List.length_append, List.length_cons, List.length_nil]; omega)) (by first | decide | omega) | exact l_app 1 2 rfl rfl e_22 rfl (by decide) rfl rfl (by first | rfl | (simp; done)) (by simp [Value.oneCell']) (by decide) (by first | omega | (simp only [List.length_append, List.length_cons, List.length_nil]; omega)) (by first | decide | omega) | exact l_app 3 2 rfl rfl e_22 rfl (by decide) rfl rfl (by first | rfl | (simp; done)) (by simp [Value.oneCell']) (by decide) (by first | omega | (simp only [List.length_append, List.length_cons, List.length_nil]; omega)) (by first | decide | omega) | exact l_app 4 2 rfl rfl e_22 rfl (by decide) rfl rfl (by first | rfl | (simp; done)) (by simp [Value.oneCell']) (by decide) (by first | omega | (simp only [List.length_append, List.length_cons, List.length_nil]; omega)) (by first | decide | omega) | exact l_app 5 2 rfl rfl e_22 rfl (by decide) rfl rfl (by first | rfl | (simp; done)) (by simp [Value.oneCell']) (by decide) (by first | omega | (simp only [List.length_append, List.length_cons, List.length_nil]; omega)) (by first | decide | omega))) ?_
      rintro _ _ ⟨g23, c23, rfl, rfl⟩
      refine at_hp (by (try simp only [List.take_zero, List.take_succ_cons, List.drop_zero, List.drop_succ_cons, List.drop_nil, List.length_cons, List.length_nil, Nat.zero_add, Nat.reduceAdd, List.set_cons_zero, List.set_cons_succ, List.nil_append, List.cons_append, List.append_nil, pick, List.filterMap_cons, List.filterMap_nil, List.getElem?_cons_zero, List.getElem?_cons_succ]); exact rfl) ?_
      refine at_drop ?_
      refine st_p rfl rfl (p_assign rfl) ?_
      refine at_nil ?_
      refine at_ks [0, 2, 3, 4, 12] (by (try simp only [keep, lk, pd, enumE, Nat.reduceBEq, Nat.reduceAdd, cond_true, cond_false]); exact rfl) ?_
      refine at_inb ?_
      refine at_then ?_
      refine at_region ?_
      refine st_p rfl rfl (p_move rfl) ?_
      refine st_p rfl rfl (p_add rfl rfl (by first | exact nw64 (by omega) | exact nwu64 (by omega) | exact nwu8 (by omega) | exact nwu16 (by omega) | exact wu64 _ | exact wu8 _ | exact wi64 _ | rfl)) ?_
      refine st_p rfl rfl (p_assign rfl) ?_
      refine at_nil ?_
      refine at_ks [0, 2, 3, 4, 12] (by (try simp only [keep, lk, pd, enumE, Nat.reduceBEq, Nat.reduceAdd, cond_true, cond_false]); exact rfl) ?_
      refine at_ks [0, 3, 4] (by (try simp only [keep, lk, pd, enumE, Nat.reduceBEq, Nat.reduceAdd, cond_true, cond_false]); exact rfl) ?_
      refine at_back (k - 1) (by omega) ⟨i + 1, _, rfl, ?_, by omega, by omega, by omega⟩
      rw [show ns.take (i + 1) = ns.take i ++ [gi ns i] by
        have e1 := gi_get (xs := ns) (i := (i : Int)) (by omega) (by omega)
        rw [Int.toNat_natCast] at e1
        rw [List.take_add_one, e1]; rfl]
      simp [ints]
    · (try simp only [decide_eq_true_eq, decide_eq_false_iff_not, Bool.not_eq_true', Bool.not_eq_false', Bool.not_true, Bool.not_false, Bool.or_eq_true, Bool.and_eq_true, Int.not_lt, Int.not_le] at ht12)
      refine at_exit ?_
      refine at_then_x ?_
      refine at_then_x ?_
      refine at_inb_exit ?_
      refine at_then ?_
      refine at_seq ?_
      refine at_region ?_
      refine st_p rfl rfl (p_move rfl) ?_
      refine st_p rfl rfl (p_assign rfl) ?_
      refine at_nil ?_
      refine at_ks [0, 2, 3, 4, 12] (by (try simp only [keep, lk, pd, enumE, Nat.reduceBEq, Nat.reduceAdd, cond_true, cond_false]); exact rfl) ?_
      refine at_then ?_
      refine at_retc ?_
      exact fin_1 rfl rfl (by
          obtain rfl : i = 60 := by omega
          rw [show min 60 n = 60 by omega]; rfl)
  · (try simp only [decide_eq_true_eq, decide_eq_false_iff_not, Bool.not_eq_true', Bool.not_eq_false', Bool.not_true, Bool.not_false, Bool.or_eq_true, Bool.and_eq_true, Int.not_lt, Int.not_le] at ht9)
    obtain rfl : n = i := by omega
    refine sg_no rfl rfl ?_
    refine sg_no rfl rfl ?_
    refine st_p rfl rfl ((by first | exact p_pick_t rfl rfl | exact p_pick_f rfl rfl)) ?_
    refine at_nil ?_
    refine at_ks [0, 2, 3, 4, 12] (by (try simp only [keep, lk, pd, enumE, Nat.reduceBEq, Nat.reduceAdd, cond_true, cond_false]); exact rfl) ?_
    refine at_then ?_
    refine at_cond_f rfl ?_
    refine at_exit ?_
    refine at_then_x ?_
    refine at_then_x ?_
    refine at_inb_exit ?_
    refine at_then ?_
    refine at_seq ?_
    refine at_region ?_
    refine st_p rfl rfl (p_move rfl) ?_
    refine st_p rfl rfl (p_assign rfl) ?_
    refine at_nil ?_
    refine at_ks [0, 2, 3, 4, 12] (by (try simp only [keep, lk, pd, enumE, Nat.reduceBEq, Nat.reduceAdd, cond_true, cond_false]); exact rfl) ?_
    refine at_then ?_
    refine at_retc ?_
    exact fin_1 rfl rfl (by
        rw [show min 60 n = n by omega]; unfold classesV; rw [List.take_of_length_le (by omega), List.take_of_length_le (by omega)])

theorem traces_calls (A : Option Addr) (n ca : Nat) (ns : List Int) (cut : Int) (F : Frm) (hn : ns.length = n) (h6 : n ≤ 1000000000000000) (h0 : ∀ x ∈ ns, 0 ≤ x ∧ x ≤ 255) (hc0 : 0 ≤ cut) (hc1 : cut ≤ 255) (hx : FV F A (ints .u8 ns)) :
    SC Try.prog 6 #[.slice A n ca, .int .u8 cut] [] F (fun u H => u = .bool true ∧ H = []) := by
  obtain ⟨L, hL⟩ : ∃ L, L = classesV ns := ⟨_, rfl⟩
  have hLl : L.length = min 60 n := by rw [hL, classesV_len, hn]
  have hLi : ∀ c ∈ L, 0 ≤ c ∧ c < 65 := fun c hc => classesV_in (hL ▸ hc)
  obtain ⟨l, hl⟩ : ∃ l, l = min 60 n := ⟨_, rfl⟩
  rw [← hl] at hLl
  obtain ⟨q, hq⟩ : ∃ q : Nat, cut.tmod ((l : Int) + 1) = (q : Int) := ⟨(cut.tmod ((l : Int) + 1)).toNat, by rw [Int.tmod_eq_emod_of_nonneg hc0]; have := Int.emod_nonneg cut (show (l : Int) + 1 ≠ 0 by omega); omega⟩
  have hql : q ≤ l := by rw [Int.tmod_eq_emod_of_nonneg hc0] at hq; have := Int.emod_lt_of_pos cut (show 0 < (l : Int) + 1 by omega); omega
  have hT := traceGo_trC L ms0 [] hLi (by simp; omega)
  have hU := traceGo_trC (L.take q) ms0 [] (fun c hc => hLi c (List.mem_of_mem_take hc)) (by simp; omega)
  have hB := traceGo_bad L ms0 [] hLi (by simp; omega)
  rw [List.nil_append] at hT hU
  have hTl := trC_len L ms0
  have hUl := trC_len (L.take q) ms0
  have hTU := trC_take L ms0 q
  rw [List.length_take, hLl, Nat.min_eq_left hql] at hUl
  rw [hLl] at hTl
  obtain ⟨t, ht⟩ : ∃ t, t = trC L ms0 := ⟨_, rfl⟩
  obtain ⟨u, hu⟩ : ∃ u, u = trC (L.take q) ms0 := ⟨_, rfl⟩
  have hti : ∀ x ∈ t, 1 ≤ x ∧ x ≤ 4095 := fun x hx => trC_in L ms0 x (ht ▸ hx)
  rw [← ht] at hT hTl hTU
  rw [← hu] at hU hUl hTU
  refine sc_in (args := [.slice A n ca, .int .u8 cut]) Try.func6 rfl rfl (Nat.le_of_ble_eq_true rfl) ?_
  refine at_ks [0, 1, 4, 5, 6, 7, 8, 9, 36, 40, 71] (by (try simp only [keep, lk, pd, enumE, Nat.reduceBEq, Nat.reduceAdd, cond_true, cond_false]); exact rfl) ?_
  refine at_seq ?_
  refine at_region ?_
  refine st_p rfl rfl (p_assign rfl) ?_
  refine at_nil ?_
  refine at_ks [0, 1, 4, 5, 6, 7, 8, 9, 36, 40, 71] (by (try simp only [keep, lk, pd, enumE, Nat.reduceBEq, Nat.reduceAdd, cond_true, cond_false]); exact rfl) ?_
  refine at_then ?_
  refine at_seq ?_
  refine at_region ?_
  refine st_p rfl rfl (p_move rfl) ?_
  refine st_l rfl rfl (l_callP (first := []) (H1 := []) (H2 := _) (List.Perm.refl _) rfl c_22 rfl (fun F1 hF1 hs1 => (by have := (classes_calls A n ca ns F1 hn h6 h0 (hx.mono hF1)).shape; rw [← hL, ← hl] at this; exact this))) ?_
  rintro _ _ ⟨_, ⟨Al, cl, rfl, hcl, hAl, rfl⟩, rfl⟩
  refine at_hp (by (try simp only [List.take_zero, List.take_succ_cons, List.drop_zero, List.drop_succ_cons, List.drop_nil, List.length_cons, List.length_nil, Nat.zero_add, Nat.reduceAdd, List.set_cons_zero, List.set_cons_succ, List.nil_append, List.cons_append, List.append_nil, pick, List.filterMap_cons, List.filterMap_nil, List.getElem?_cons_zero, List.getElem?_cons_succ]); exact rfl) ?_
  refine st_p rfl rfl (p_assign rfl) ?_
  refine at_nil ?_
  refine at_ks [0, 1, 4, 5, 6, 7, 8, 9, 36, 40, 71] (by (try simp only [keep, lk, pd, enumE, Nat.reduceBEq, Nat.reduceAdd, cond_true, cond_false]); exact rfl) ?_
  refine at_then ?_
  refine at_seq ?_
  refine at_region ?_
  refine st_p rfl rfl (p_move rfl) ?_
  refine st_l rfl rfl (l_callP (first := []) (H1 := []) (H2 := _) (List.Perm.refl _) rfl c_16 rfl (fun F1 hF1 hs1 => (trace_calls _ l _ L t F1 hLl (by omega) (fv_slice (hs1 _ (List.mem_of_getElem? (i := 0) rfl))) hT).shape)) ?_
  rintro _ _ ⟨_, ⟨At, ct, rfl, hct, hAt, rfl⟩, rfl⟩
  refine at_hp (by (try simp only [List.take_zero, List.take_succ_cons, List.drop_zero, List.drop_succ_cons, List.drop_nil, List.length_cons, List.length_nil, Nat.zero_add, Nat.reduceAdd, List.set_cons_zero, List.set_cons_succ, List.nil_append, List.cons_append, List.append_nil, pick, List.filterMap_cons, List.filterMap_nil, List.getElem?_cons_zero, List.getElem?_cons_succ]); exact rfl) ?_
  refine st_p rfl rfl (p_assign rfl) ?_
  refine at_nil ?_
  refine at_ks [0, 1, 4, 5, 6, 7, 8, 9, 36, 40, 71] (by (try simp only [keep, lk, pd, enumE, Nat.reduceBEq, Nat.reduceAdd, cond_true, cond_false]); exact rfl) ?_
  refine at_then ?_
  refine at_seq ?_
  refine at_region ?_
  refine st_p rfl rfl (p_move rfl) ?_
  refine st_p rfl rfl (p_conv rfl Try.underlying5 Try.underlying3 (by first | exact nw64 (by omega) | exact nwu64 (by omega) | exact nwu8 (by omega) | exact nwu16 (by omega) | exact wu64 _ | exact wu8 _ | exact wi64 _ | rfl)) ?_
  refine st_p rfl rfl (p_move rfl) ?_
  refine st_p rfl rfl (p_len rfl m_22) ?_
  refine st_p rfl rfl (p_add rfl rfl (by first | exact nw64 (by omega) | exact nwu64 (by omega) | exact nwu8 (by omega) | exact nwu16 (by omega) | exact wu64 _ | exact wu8 _ | exact wi64 _ | rfl)) ?_
  refine st_p rfl rfl (p_rem (r := (q : Int)) rfl rfl (by omega) hq) ?_
  refine st_p rfl rfl (p_assign rfl) ?_
  refine at_nil ?_
  refine at_ks [0, 1, 4, 5, 6, 7, 8, 9, 36, 40, 71] (by (try simp only [keep, lk, pd, enumE, Nat.reduceBEq, Nat.reduceAdd, cond_true, cond_false]); exact rfl) ?_
  refine at_then ?_
  refine at_seq ?_
  refine at_region ?_
  refine st_p rfl rfl (p_move rfl) ?_
  refine st_p rfl rfl (p_move rfl) ?_
  refine st_p rfl rfl (p_sliceH rfl rfl z_22 (by omega) (by omega)) ?_
  refine st_l rfl rfl (l_callP (first := []) (H1 := []) (H2 := _) (List.Perm.refl _) rfl c_16 rfl (fun F1 hF1 hs1 => (trace_calls _ _ _ (L.take q) u F1 (by rw [List.length_take, hLl, Nat.min_eq_left hql, Int.toNat_natCast]) (by omega) (by have h := (fv_slice (hs1 _ (List.mem_of_getElem? (i := 1) rfl)) : FV F1 Al (ints .i64 L)); rw [ints, List.map_take]; exact (h.take q).sliceH) hU).shape)) ?_
  rintro _ _ ⟨_, ⟨Au, cu, rfl, hcu, hAu, rfl⟩, rfl⟩
  refine at_hp (by (try simp only [List.take_zero, List.take_succ_cons, List.drop_zero, List.drop_succ_cons, List.drop_nil, List.length_cons, List.length_nil, Nat.zero_add, Nat.reduceAdd, List.set_cons_zero, List.set_cons_succ, List.nil_append, List.cons_append, List.append_nil, pick, List.filterMap_cons, List.filterMap_nil, List.getElem?_cons_zero, List.getElem?_cons_succ]); exact rfl) ?_
  refine st_p rfl rfl (p_assign rfl) ?_
  refine at_nil ?_
  refine at_ks [0, 1, 4, 5, 6, 7, 8, 9, 36, 40, 71] (by (try simp only [keep, lk, pd, enumE, Nat.reduceBEq, Nat.reduceAdd, cond_true, cond_false]); exact rfl) ?_
  refine at_then ?_
  refine at_seq ?_
  refine at_seq ?_
  refine at_region ?_
  refine st_p rfl rfl (p_move rfl) ?_
  refine st_p rfl rfl (p_len rfl m_22) ?_
  refine st_p rfl rfl (p_move rfl) ?_
  refine st_p rfl rfl (p_len rfl m_22) ?_
  refine st_p rfl rfl (p_mul rfl rfl (by first | exact nw64 (by omega) | exact nwu64 (by omega) | exact nwu8 (by omega) | exact nwu16 (by omega) | exact wu64 _ | exact wu8 _ | exact wi64 _ | rfl)) ?_
  refine st_p rfl rfl (p_isF (p_neq rfl rfl) (by simp; omega)) ?_
  refine st_p rfl rfl (p_move rfl) ?_
  refine sg_p rfl rfl (p_move rfl) ?_
  refine sg_p rfl rfl (p_len rfl m_22) ?_
  refine sg_p rfl rfl (p_move rfl) ?_
  refine sg_p rfl rfl (p_mul rfl rfl (by first | exact nw64 (by omega) | exact nwu64 (by omega) | exact nwu8 (by omega) | exact nwu16 (by omega) | exact wu64 _ | exact wu8 _ | exact wi64 _ | rfl)) ?_
  refine sg_p rfl rfl (p_isF (p_neq rfl rfl) (by simp; omega)) ?_
  refine st_p rfl rfl ((by first | exact p_pick_t rfl rfl | exact p_pick_f rfl rfl)) ?_
  refine at_nil ?_
  refine at_ks [0, 1, 4, 5, 6, 7, 8, 9, 36, 40, 71] (by (try simp only [keep, lk, pd, enumE, Nat.reduceBEq, Nat.reduceAdd, cond_true, cond_false]); exact rfl) ?_
  refine at_then ?_
  refine at_cond_f rfl ?_
  refine at_skip ?_
  refine at_then ?_
  refine at_seq ?_
  refine at_seq ?_
  refine at_region ?_
  refine st_p rfl rfl (p_assign rfl) ?_
  refine at_nil ?_
  refine at_ks [0, 1, 4, 5, 6, 7, 8, 9, 36, 40, 71] (by (try simp only [keep, lk, pd, enumE, Nat.reduceBEq, Nat.reduceAdd, cond_true, cond_false]); exact rfl) ?_
  refine at_then ?_
  refine at_block ?_
  refine at_ks [5, 6, 8, 9] (by (try simp only [keep, lk, pd, enumE, Nat.reduceBEq, Nat.reduceAdd, cond_true, cond_false]); exact rfl) ?_
  refine at_loop (fun k E H => ∃ i : Nat, E = [(5, .slice Al l cl), (6, .slice At t.length ct), (8, .slice Au u.length cu), (9, N (i : Int))] ∧ H = [.sl (.slice Au u.length cu) 3 1 u.length (ints .i64 u), .sl (.slice At t.length ct) 3 1 t.length (ints .i64 t), .sl (.slice Al l cl) 3 1 l (ints .i64 L)] ∧ i ≤ t.length ∧ k + i = t.length + 1) (t.length + 1) (⟨0, rfl, rfl, by omega, by omega⟩) ?_
  rintro k _ _ ⟨i, rfl, rfl, hi, hk⟩
  refine at_seq ?_
  refine at_seq ?_
  refine at_region ?_
  refine st_p rfl rfl (p_move rfl) ?_
  refine st_p rfl rfl (p_move rfl) ?_
  refine st_p rfl rfl (p_len rfl m_22) ?_
  refine st_p rfl rfl (p_lss rfl rfl) ?_
  refine at_nil ?_
  refine at_ks [0, 1, 4, 5, 6, 7, 8, 9, 36, 40, 71] (by (try simp only [keep, lk, pd, enumE, Nat.reduceBEq, Nat.reduceAdd, cond_true, cond_false]); exact rfl) ?_
  refine at_then ?_
  refine at_cond rfl (fun ht40 => ?_) (fun ht40 => ?_)
  · (try simp only [decide_eq_true_eq, decide_eq_false_iff_not, Bool.not_eq_true', Bool.not_eq_false', Bool.not_true, Bool.not_false, Bool.or_eq_true, Bool.and_eq_true, Int.not_lt, Int.not_le] at ht40)
    have hti1 : (ints .i64 t)[((i : Nat) : Int).toNat]? = some (N (gi t i)) := ints_get (i := (i : Int)) (by omega) (by omega)
    have hui1 : i < u.length → (ints .i64 u)[((i : Nat) : Int).toNat]? = some (N (gi u i)) := fun h => ints_get (i := (i : Int)) (by omega) (by omega)
    have hin := hti _ (List.mem_of_getElem? (gi_get (xs := t) (i := (i : Int)) (by omega) (by omega)))
    have hueq : i < u.length → gi u i = gi t i := fun h => by
      have e1 := gi_get (xs := u) (i := (i : Int)) (by omega) (by omega)
      have e2 := gi_get (xs := t) (i := (i : Int)) (by omega) (by omega)
      rw [Int.toNat_natCast] at e1 e2
      have e3 : u[i]? = t[i]? := by rw [hTU, List.getElem?_take, if_pos (by omega)]
      rw [e1, e2] at e3
      simpa using e3
    obtain ⟨gt_, rfl⟩ := hAt (by omega)
    refine at_skip ?_
    refine at_then ?_
    refine at_seq ?_
    refine at_block ?_
    refine at_seq ?_
    refine at_drawH [0, 1, 2, 3, 4, 5, 6, 7, 8, 9, 10, 11, 12, 13, 14, 15, 16, 17, 18, 19, 20, 21, 22, 23, 24, 25, 26, 27, 28] [0, 0, 3, 7, 15, 31, 63, 63, 255, 511, 1023, 2047, 4095, 8191, 8191, 24575, 65535, 131071, 262143, 262143, 1048575, 2097151, 262143, 262143, 12845055, 29622271, 67108863, 134217727, 268435455] [3, 9, 21, 25] [] mixd (by kernel_rfl) ?_
    refine rd_p rfl rfl rfl rfl rfl (p_move rfl) ?_
    refine rd_p rfl rfl rfl rfl rfl (p_move rfl) ?_
    refine rd_p rfl rfl rfl rfl rfl (p_ia1 rfl rfl z_22 (by omega) (by omega)) ?_
    refine rd_q rfl rfl rfl rfl rfl (q_sl 1 rfl rfl r_3 hti1) (fun _ h => h) ?_
    refine rd_p rfl rfl rfl rfl rfl (p_isF (p_lss rfl rfl) (decide_eq_false (by omega))) ?_
    refine rd_p rfl rfl rfl rfl rfl (p_move rfl) ?_
    refine rd_p rfl rfl rfl rfl rfl (p_move rfl) ?_
    refine rd_p rfl rfl rfl rfl rfl (p_move rfl) ?_
    refine rd_p rfl rfl rfl rfl rfl (p_ia1 rfl rfl z_22 (by omega) (by omega)) ?_
    refine rd_q rfl rfl rfl rfl rfl (q_sl 1 rfl rfl r_3 hti1) (fun _ h => h) ?_
    refine rd_p rfl rfl rfl rfl rfl (p_isF (p_gtr rfl rfl) (decide_eq_false (by omega))) ?_
    refine rd_p rfl rfl rfl rfl rfl ((by first | exact p_pick_t rfl rfl | exact p_pick_f rfl rfl)) ?_
    refine rd_p rfl rfl rfl rfl rfl (p_move rfl) ?_
    refine rd_p rfl rfl rfl rfl rfl (p_move rfl) ?_
    refine rd_p rfl rfl rfl rfl rfl (p_move rfl) ?_
    refine rd_p rfl rfl rfl rfl rfl (p_len rfl m_22) ?_
    refine rd_p rfl rfl rfl rfl rfl (p_lss rfl rfl) ?_
    refine rd_p rfl rfl rfl rfl rfl (p_move rfl) ?_
    refine rd_split 60 rfl (fun ht60 => ?_) (fun ht60 => ?_)
    · (try simp only [decide_eq_true_eq, decide_eq_false_iff_not, Bool.not_eq_true', Bool.not_eq_false', Bool.not_true, Bool.not_false, Bool.or_eq_true, Bool.and_eq_true, Int.not_lt, Int.not_le] at ht60)
      obtain ⟨gu_, rfl⟩ := hAu (by omega)
      refine rd_p rfl rfl rfl rfl rfl (p_move rfl) ?_
      refine rd_p rfl rfl rfl rfl rfl (p_move rfl) ?_
      refine rd_p rfl rfl rfl rfl rfl (p_ia1 rfl rfl z_22 (by omega) (by omega)) ?_
      refine rd_q rfl rfl rfl rfl rfl (q_sl 0 rfl rfl r_3 (hui1 (by omega))) (fun _ h => h) ?_
      refine rd_p rfl rfl rfl rfl rfl (p_move rfl) ?_
      refine rd_p rfl rfl rfl rfl rfl (p_move rfl) ?_
      refine rd_p rfl rfl rfl rfl rfl (p_ia1 rfl rfl z_22 (by omega) (by omega)) ?_
      refine rd_q rfl rfl rfl rfl rfl (q_sl 1 rfl rfl r_3 hti1) (fun _ h => h) ?_
      refine rd_p rfl rfl rfl rfl rfl (p_isF (p_neq rfl rfl) (by rw [hueq (by omega)]; simp)) ?_
      refine rd_p rfl rfl rfl rfl rfl ((by first | exact p_pick_t rfl rfl | exact p_pick_f rfl rfl)) ?_
      refine rd_p rfl rfl rfl rfl rfl ((by first | exact p_pick_t rfl rfl | exact p_pick_f rfl rfl)) ?_
      refine rd_nil ?_
      refine at_ks [0, 1, 4, 5, 6, 7, 8, 9, 36, 40, 71] (by (try simp only [keep, lk, pd, enumE, Nat.reduceBEq, Nat.reduceAdd, cond_true, cond_false]); exact rfl) ?_
      refine at_then ?_
      refine at_cond_f rfl ?_
      refine at_skip ?_
      refine at_inb ?_
      refine at_then ?_
      refine at_region ?_
      refine st_p rfl rfl (p_move rfl) ?_
      refine st_p rfl rfl (p_add rfl rfl (by first | exact nw64 (by omega) | exact nwu64 (by omega) | exact nwu8 (by omega) | exact nwu16 (by omega) | exact wu64 _ | exact wu8 _ | exact wi64 _ | rfl)) ?_
      refine st_p rfl rfl (p_assign rfl) ?_
      refine at_nil ?_
      refine at_ks [0, 1, 4, 5, 6, 7, 8, 9, 36, 40, 71] (by (try simp only [keep, lk, pd, enumE, Nat.reduceBEq, Nat.reduceAdd, cond_true, cond_false]); exact rfl) ?_
      refine at_ks [5, 6, 8, 9] (by (try simp only [keep, lk, pd, enumE, Nat.reduceBEq, Nat.reduceAdd, cond_true, cond_false]); exact rfl) ?_
      refine at_back (k - 1) (by omega) ⟨i + 1, rfl, rfl, by omega, by omega⟩
    · (try simp only [decide_eq_true_eq, decide_eq_false_iff_not, Bool.not_eq_true', Bool.not_eq_false', Bool.not_true, Bool.not_false, Bool.or_eq_true, Bool.and_eq_true, Int.not_lt, Int.not_le] at ht60)
      refine rd_no rfl rfl rfl rfl (fun _ => (fun _ h => h)) ?_
      refine rd_no rfl rfl rfl rfl (fun _ => (fun _ h => h)) ?_
      refine rd_no rfl rfl rfl rfl (fun _ => (fun _ h => h)) ?_
      refine rd_no rfl rfl rfl rfl (fun _ => (fun _ h => h)) ?_
      refine rd_no rfl rfl rfl rfl (fun _ => (fun _ h => h)) ?_
      refine rd_no rfl rfl rfl rfl (fun _ => (fun _ h => h)) ?_
      refine rd_no rfl rfl rfl rfl (fun _ => (fun _ h => h)) ?_
      refine rd_no rfl rfl rfl rfl (fun _ => (fun _ h => h)) ?_
      refine rd_no rfl rfl rfl rfl (fun _ => (fun _ h => h)) ?_
      refine rd_p rfl rfl rfl rfl rfl ((by first | exact p_pick_t rfl rfl | exact p_pick_f rfl rfl)) ?_
      refine rd_p rfl rfl rfl rfl rfl ((by first | exact p_pick_t rfl rfl | exact p_pick_f rfl rfl)) ?_
      refine rd_nil ?_
      refine at_ks [0, 1, 4, 5, 6, 7, 8, 9, 36, 40, 71] (by (try simp only [keep, lk, pd, enumE, Nat.reduceBEq, Nat.reduceAdd, cond_true, cond_false]); exact rfl) ?_
      refine at_then ?_
      refine at_cond_f rfl ?_
      refine at_skip ?_
      refine at_inb ?_
      refine at_then ?_
      refine at_region ?_
      refine st_p rfl rfl (p_move rfl) ?_
      refine st_p rfl rfl (p_add rfl rfl (by first | exact nw64 (by omega) | exact nwu64 (by omega) | exact nwu8 (by omega) | exact nwu16 (by omega) | exact wu64 _ | exact wu8 _ | exact wi64 _ | rfl)) ?_
      refine st_p rfl rfl (p_assign rfl) ?_
      refine at_nil ?_
      refine at_ks [0, 1, 4, 5, 6, 7, 8, 9, 36, 40, 71] (by (try simp only [keep, lk, pd, enumE, Nat.reduceBEq, Nat.reduceAdd, cond_true, cond_false]); exact rfl) ?_
      refine at_ks [5, 6, 8, 9] (by (try simp only [keep, lk, pd, enumE, Nat.reduceBEq, Nat.reduceAdd, cond_true, cond_false]); exact rfl) ?_
      refine at_back (k - 1) (by omega) ⟨i + 1, rfl, rfl, by omega, by omega⟩
  · (try simp only [decide_eq_true_eq, decide_eq_false_iff_not, Bool.not_eq_true', Bool.not_eq_false', Bool.not_true, Bool.not_false, Bool.or_eq_true, Bool.and_eq_true, Int.not_lt, Int.not_le] at ht40)
    refine at_exit ?_
    refine at_then_x ?_
    refine at_then_x ?_
    refine at_inb_exit ?_
    refine at_then ?_
    refine at_seq ?_
    refine at_region ?_
    refine st_l rfl rfl (l_bsV [] [] rfl e_22 (by decide) (by decide) rfl (by simp) rfl) ?_
    rintro _ _ ⟨b72, rfl, rfl⟩
    refine at_hp (by (try simp only [List.take_zero, List.take_succ_cons, List.drop_zero, List.drop_succ_cons, List.drop_nil, List.length_cons, List.length_nil, Nat.zero_add, Nat.reduceAdd, List.set_cons_zero, List.set_cons_succ, List.nil_append, List.cons_append, List.append_nil, pick, List.filterMap_cons, List.filterMap_nil, List.getElem?_cons_zero, List.getElem?_cons_succ]); exact rfl) ?_
    refine st_p rfl rfl (p_move rfl) ?_
    refine st_l rfl rfl (l_appA 0 3 rfl rfl e_22 rfl (by decide) rfl rfl (by simp; omega) (by simp [Value.oneCell']) (by decide) (by omega) rfl) ?_
    rintro _ _ ⟨A74, c74, rfl, rfl⟩
    refine at_hp (by (try simp only [List.take_zero, List.take_succ_cons, List.drop_zero, List.drop_succ_cons, List.drop_nil, List.length_cons, List.length_nil, Nat.zero_add, Nat.reduceAdd, List.set_cons_zero, List.set_cons_succ, List.nil_append, List.cons_append, List.append_nil, pick, List.filterMap_cons, List.filterMap_nil, List.getElem?_cons_zero, List.getElem?_cons_succ]); exact rfl) ?_
    rw [Nat.zero_add l]
    refine st_l rfl rfl (l_bsV [_] _ rfl e_22 (by decide) (by decide) rfl (by simp [Value.cells]) (by simp only [List.flatMap_cons, List.flatMap_nil, Value.cells, List.nil_append, List.cons_append, List.append_nil]; exact rfl)) ?_
    rintro _ _ ⟨b75, rfl, rfl⟩
    refine at_hp (by (try simp only [List.take_zero, List.take_succ_cons, List.drop_zero, List.drop_succ_cons, List.drop_nil, List.length_cons, List.length_nil, Nat.zero_add, Nat.reduceAdd, List.set_cons_zero, List.set_cons_succ, List.nil_append, List.cons_append, List.append_nil, pick, List.filterMap_cons, List.filterMap_nil, List.getElem?_cons_zero, List.getElem?_cons_succ]); exact rfl) ?_
    refine st_l rfl rfl (l_appA 1 0 rfl rfl e_22 rfl (by decide) rfl rfl rfl (by simp [Value.oneCell']) (by decide) (by omega) rfl) ?_
    rintro _ _ ⟨A76, c76, rfl, rfl⟩
    refine at_hp (by (try simp only [List.take_zero, List.take_succ_cons, List.drop_zero, List.drop_succ_cons, List.drop_nil, List.length_cons, List.length_nil, Nat.zero_add, Nat.reduceAdd, List.set_cons_zero, List.set_cons_succ, List.nil_append, List.cons_append, List.append_nil, pick, List.filterMap_cons, List.filterMap_nil, List.getElem?_cons_zero, List.getElem?_cons_succ]); exact rfl) ?_
    refine at_drop ?_
    refine at_hp (show _ = (.sl (.slice A76 (l + 1) c76) 3 1 (l + 1) (ints .i64 (L ++ [65])) :: _ : Hp) by simp [ints]; rfl) ?_
    refine st_l rfl rfl (l_callP (first := []) (H1 := []) (H2 := _) (List.Perm.refl _) rfl c_16 rfl (fun F1 hF1 hs1 => (trace_calls _ _ _ (L ++ [65]) [] F1 (by rw [List.length_append, hLl]; simp) (by omega) (fv_slice (hs1 _ (List.mem_of_getElem? (i := 0) rfl))) hB).shape)) ?_
    rintro _ _ ⟨_, ⟨Ab, cb, rfl, _, _, rfl⟩, rfl⟩
    refine at_hp (by (try simp only [List.take_zero, List.take_succ_cons, List.drop_zero, List.drop_succ_cons, List.drop_nil, List.length_cons, List.length_nil, Nat.zero_add, Nat.reduceAdd, List.set_cons_zero, List.set_cons_succ, List.nil_append, List.cons_append, List.append_nil, pick, List.filterMap_cons, List.filterMap_nil, List.getElem?_cons_zero, List.getElem?_cons_succ]); exact rfl) ?_
    refine st_p rfl rfl (p_len rfl m_22) ?_
    refine st_p rfl rfl (p_isT (p_eql rfl rfl) (by decide)) ?_
    refine st_p rfl rfl (p_move rfl) ?_
    refine sg_q rfl rfl (q_call (first := []) rfl c_10 rfl (fun F1 hF1 hs1 => awake_calls F1)) ?_
    refine st_p rfl rfl ((by first | exact p_pick_t rfl rfl | exact p_pick_f rfl rfl)) ?_
    refine st_p rfl rfl (p_assign rfl) ?_
    refine at_nil ?_
    refine at_ks [0, 1, 4, 5, 6, 7, 8, 9, 36, 40, 71] (by (try simp only [keep, lk, pd, enumE, Nat.reduceBEq, Nat.reduceAdd, cond_true, cond_false]); exact rfl) ?_
    refine at_then ?_
    refine at_retc ?_
    refine at_re [] (by decide) ?_
    exact fin_1 rfl rfl (by
        exact ⟨rfl, rfl⟩)

end Go.Proofs.Ytbpbhjnkmonlbaa