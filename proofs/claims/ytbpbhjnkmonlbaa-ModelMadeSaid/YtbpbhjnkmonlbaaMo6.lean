/- Parts told by the model: the walk. No condition. -/
import Derived.Test.YtbpbhjnkmonlbaaMo5
namespace Go.Proofs.Ytbpbhjnkmonlbaa
open Go.RowKit Sl
set_option linter.unusedVariables false
set_option linter.unusedSimpArgs false
set_option maxRecDepth 10000
/-- What is told of bytes: parts, and an error. -/
def getS (s : ByteArray) (n : Int) : Option (List (Int × Int) × Int) := if n < 0 ∨ 4096 < n then some ([], 1) else getGo s n.toNat ms0 (cd0, false) []

theorem get_calls (s : ByteArray) (n : Int) (res : List (Int × Int) × Int) (F : Frm) (h : getS s n = some res) :
    SC Try.prog 13 #[.string s, N n] [] F (fun u H => ∃ v, u = .tuple #[v, N res.2] ∧ H = [.sl v 54 2 res.1.length (pcells res.1)]) := by
  unfold getS at h
  refine sc_in (args := [.string s, N n]) Try.func13 rfl rfl (Nat.le_of_ble_eq_true rfl) ?_
  refine at_ks [0, 1, 4, 5, 6, 7, 8, 9, 10, 11, 12, 18, 24, 25, 26, 34, 44, 55] (by (try simp only [keep, lk, pd, enumE, Nat.reduceBEq, Nat.reduceAdd, cond_true, cond_false]); exact rfl) ?_
  refine at_seq ?_
  refine at_region ?_
  refine st_p rfl rfl (p_assign rfl) ?_
  refine st_p rfl rfl (p_assign rfl) ?_
  refine at_nil ?_
  refine at_ks [0, 1, 4, 5, 6, 7, 8, 9, 10, 11, 12, 18, 24, 25, 26, 34, 44, 55] (by (try simp only [keep, lk, pd, enumE, Nat.reduceBEq, Nat.reduceAdd, cond_true, cond_false]); exact rfl) ?_
  refine at_then ?_
  refine at_seq ?_
  refine at_seq ?_
  refine at_region ?_
  refine st_p rfl rfl (p_move rfl) ?_
  refine st_p rfl rfl (p_lss rfl rfl) ?_
  refine st_p rfl rfl (p_move rfl) ?_
  refine at_split 15 rfl (fun ht15 => ?_) (fun ht15 => ?_)
  · (try simp only [decide_eq_true_eq, decide_eq_false_iff_not, Bool.not_eq_true', Bool.not_eq_false', Bool.not_true, Bool.not_false, Bool.or_eq_true, Bool.and_eq_true, Int.not_lt, Int.not_le] at ht15)
    rw [if_pos (.inl ht15)] at h
    simp only [Option.some.injEq] at h
    subst h
    refine sg_no rfl rfl ?_
    refine sg_no rfl rfl ?_
    refine st_p rfl rfl ((by first | exact p_pick_t rfl rfl | exact p_pick_f rfl rfl)) ?_
    refine at_nil ?_
    refine at_ks [0, 1, 4, 5, 6, 7, 8, 9, 10, 11, 12, 18, 24, 25, 26, 34, 44, 55] (by (try simp only [keep, lk, pd, enumE, Nat.reduceBEq, Nat.reduceAdd, cond_true, cond_false]); exact rfl) ?_
    refine at_then ?_
    refine at_cond_t rfl ?_
    try (rw [if_pos (by omega)] at h
         simp only [Option.some.injEq] at h
         subst h)
    refine at_seq ?_
    refine at_region ?_
    refine st_p rfl rfl (p_assign rfl) ?_
    refine st_p rfl rfl (p_assign rfl) ?_
    refine at_nil ?_
    refine at_ks [0, 1, 4, 5, 6, 7, 8, 9, 10, 11, 12, 18, 24, 25, 26, 34, 44, 55] (by (try simp only [keep, lk, pd, enumE, Nat.reduceBEq, Nat.reduceAdd, cond_true, cond_false]); exact rfl) ?_
    refine at_then ?_
    refine at_retc ?_
    refine at_then_r ?_
    refine at_re [] (by decide) ?_
    refine at_nilsl 54 2 ?_
    exact fin_2 rfl rfl rfl (by
        exact ⟨_, rfl, rfl⟩)
  · (try simp only [decide_eq_true_eq, decide_eq_false_iff_not, Bool.not_eq_true', Bool.not_eq_false', Bool.not_true, Bool.not_false, Bool.or_eq_true, Bool.and_eq_true, Int.not_lt, Int.not_le] at ht15)
    refine sg_p rfl rfl (p_move rfl) ?_
    refine sg_p rfl rfl (p_gtr rfl rfl) ?_
    refine st_p rfl rfl ((by first | exact p_pick_t rfl rfl | exact p_pick_f rfl rfl)) ?_
    refine at_nil ?_
    refine at_ks [0, 1, 4, 5, 6, 7, 8, 9, 10, 11, 12, 18, 24, 25, 26, 34, 44, 55] (by (try simp only [keep, lk, pd, enumE, Nat.reduceBEq, Nat.reduceAdd, cond_true, cond_false]); exact rfl) ?_
    refine at_then ?_
    refine at_cond rfl (fun ht18 => ?_) (fun ht18 => ?_)
    · (try simp only [decide_eq_true_eq, decide_eq_false_iff_not, Bool.not_eq_true', Bool.not_eq_false', Bool.not_true, Bool.not_false, Bool.or_eq_true, Bool.and_eq_true, Int.not_lt, Int.not_le] at ht18)
      try (rw [if_pos (by omega)] at h
           simp only [Option.some.injEq] at h
           subst h)
      refine at_seq ?_
      refine at_region ?_
      refine st_p rfl rfl (p_assign rfl) ?_
      refine st_p rfl rfl (p_assign rfl) ?_
      refine at_nil ?_
      refine at_ks [0, 1, 4, 5, 6, 7, 8, 9, 10, 11, 12, 18, 24, 25, 26, 34, 44, 55] (by (try simp only [keep, lk, pd, enumE, Nat.reduceBEq, Nat.reduceAdd, cond_true, cond_false]); exact rfl) ?_
      refine at_then ?_
      refine at_retc ?_
      refine at_then_r ?_
      refine at_re [] (by decide) ?_
      refine at_nilsl 54 2 ?_
      exact fin_2 rfl rfl rfl (by
          exact ⟨_, rfl, rfl⟩)
    · (try simp only [decide_eq_true_eq, decide_eq_false_iff_not, Bool.not_eq_true', Bool.not_eq_false', Bool.not_true, Bool.not_false, Bool.or_eq_true, Bool.and_eq_true, Int.not_lt, Int.not_le] at ht18)
      rw [if_neg (by omega)] at h
      refine at_skip ?_
      refine at_then ?_
      refine at_seq ?_
      refine at_region ?_
      refine st_l rfl rfl (l_callP (first := []) (H1 := []) (H2 := _) (List.Perm.refl _) rfl c_23 rfl (fun F1 hF1 hs1 => made_calls F1)) ?_
      rintro _ _ ⟨HM, ⟨mb, rfl, hM⟩, rfl⟩
      refine at_hp (by (try simp only [List.take_zero, List.take_succ_cons, List.drop_zero, List.drop_succ_cons, List.drop_nil, List.length_cons, List.length_nil, Nat.zero_add, Nat.reduceAdd, List.set_cons_zero, List.set_cons_succ, List.nil_append, List.cons_append, List.append_nil, pick, List.filterMap_cons, List.filterMap_nil, List.getElem?_cons_zero, List.getElem?_cons_succ]); exact rfl) ?_
      refine st_p rfl rfl (p_move rfl) ?_
      refine st_l rfl rfl (l_callP (first := []) (H1 := []) (H2 := _) (List.Perm.refl _) rfl c_40 rfl (fun F1 hF1 hs1 => from_calls s F1)) ?_
      rintro _ _ ⟨HD, ⟨db, rfl, hD⟩, rfl⟩
      refine at_hp (by (try simp only [List.take_zero, List.take_succ_cons, List.drop_zero, List.drop_succ_cons, List.drop_nil, List.length_cons, List.length_nil, Nat.zero_add, Nat.reduceAdd, List.set_cons_zero, List.set_cons_succ, List.nil_append, List.cons_append, List.append_nil, pick, List.filterMap_cons, List.filterMap_nil, List.getElem?_cons_zero, List.getElem?_cons_succ]); exact rfl) ?_
      refine st_p rfl rfl (p_assign rfl) ?_
      refine st_p rfl rfl (p_assign rfl) ?_
      refine at_nil ?_
      refine at_ks [0, 1, 4, 5, 6, 7, 8, 9, 10, 11, 12, 18, 24, 25, 26, 34, 44, 55] (by (try simp only [keep, lk, pd, enumE, Nat.reduceBEq, Nat.reduceAdd, cond_true, cond_false]); exact rfl) ?_
      refine at_then ?_
      refine at_seq ?_
      refine at_region ?_
      refine st_p rfl rfl (p_move rfl) ?_
      refine st_p rfl rfl (p_fn1 rfl) ?_
      refine st_p rfl rfl (p_assign rfl) ?_
      refine at_nil ?_
      refine at_ks [0, 1, 4, 5, 6, 7, 8, 9, 10, 11, 12, 18, 24, 25, 26, 34, 44, 55] (by (try simp only [keep, lk, pd, enumE, Nat.reduceBEq, Nat.reduceAdd, cond_true, cond_false]); exact rfl) ?_
      refine at_then ?_
      refine at_seq ?_
      refine at_region ?_
      refine st_p rfl rfl (p_assign rfl) ?_
      refine at_nil ?_
      refine at_ks [0, 1, 4, 5, 6, 7, 8, 9, 10, 11, 12, 18, 24, 25, 26, 34, 44, 55] (by (try simp only [keep, lk, pd, enumE, Nat.reduceBEq, Nat.reduceAdd, cond_true, cond_false]); exact rfl) ?_
      refine at_then ?_
      refine at_seq ?_
      refine at_seq ?_
      refine at_region ?_
      refine st_p rfl rfl (p_move rfl) ?_
      refine st_p rfl rfl (p_move rfl) ?_
      refine at_nil ?_
      refine at_ks [0, 1, 4, 5, 6, 7, 8, 9, 10, 11, 12, 18, 24, 25, 26, 34, 44, 55] (by (try simp only [keep, lk, pd, enumE, Nat.reduceBEq, Nat.reduceAdd, cond_true, cond_false]); exact rfl) ?_
      refine at_then ?_
      refine at_block ?_
      refine at_ks [6, 7, 8, 9, 24, 25] (by (try simp only [keep, lk, pd, enumE, Nat.reduceBEq, Nat.reduceAdd, cond_true, cond_false]); exact rfl) ?_
      refine at_perm List.perm_append_comm ?_
      refine at_nilsl 54 2 ?_
      refine at_loop (fun k E H => ∃ (i j : Nat) (m1 : Ms) (x1 : Cd × Bool) (acc : List (Int × Int)) (v1 : Value) (HM1 HD1 : Hp), E = [(6, .pointer (some ⟨mb, 0, none⟩)), (7, .pointer (some ⟨db, 0, none⟩)), (8, .func (.func 41) #[.pointer (some ⟨db, 0, none⟩)] #[]), (9, v1), (24, N n), (25, N (i : Int))] ∧ H = .sl v1 54 2 acc.length (pcells acc) :: (HM1 ++ HD1) ∧ modH mb m1 HM1 ∧ decPH db s x1 HD1 ∧ m1.ok ∧ (i : Int) + j = n ∧ k = j + 1 ∧ acc.length = i ∧ getGo s j m1 x1 acc = some res) (n.toNat + 1) (⟨0, n.toNat, ms0, (cd0, false), [], _, HM, HD, rfl, rfl, hM, ⟨hD, cd0_ok⟩, ms0_ok, by omega, rfl, rfl, h⟩) ?_
      rintro k _ _ ⟨i, j, m1, x1, acc, v1, HM1, HD1, rfl, rfl, hM1, hD1, hm1, hij, rfl, hac, he⟩
      refine at_seq ?_
      refine at_region ?_
      refine st_p rfl rfl (p_lss rfl rfl) ?_
      refine at_nil ?_
      refine at_ks [0, 1, 4, 5, 6, 7, 8, 9, 10, 11, 12, 18, 24, 25, 26, 34, 44, 55] (by (try simp only [keep, lk, pd, enumE, Nat.reduceBEq, Nat.reduceAdd, cond_true, cond_false]); exact rfl) ?_
      refine at_then ?_
      refine at_seq ?_
      refine at_cond rfl (fun ht26 => ?_) (fun ht26 => ?_)
      · (try simp only [decide_eq_true_eq, decide_eq_false_iff_not, Bool.not_eq_true', Bool.not_eq_false', Bool.not_true, Bool.not_false, Bool.or_eq_true, Bool.and_eq_true, Int.not_lt, Int.not_le] at ht26)
        obtain ⟨j, rfl⟩ : ∃ q, j = q + 1 := ⟨j - 1, by omega⟩
        simp only [getGo] at he
        obtain ⟨⟨c, e, m2, x2⟩, hcl⟩ : ∃ q, classS (decS s) 7 0 1 m1 x1 = some q := by
          cases h : classS (decS s) 7 0 1 m1 x1 with
          | none => rw [h] at he; cases he
          | some r => exact ⟨r, rfl⟩
        rw [hcl] at he
        simp only at he
        have hmc := classS_ok 7 0 1 m1 m2 x1 x2 c e (by decide) (by decide) (by decide) (decS_bit s) hm1 hcl
        refine at_skip ?_
        refine at_then ?_
        refine at_seq ?_
        refine at_block ?_
        refine at_seq ?_
        refine at_region ?_
        refine st_p rfl rfl (p_move rfl) ?_
        refine st_p rfl rfl (p_move rfl) ?_
        refine st_l rfl rfl (l_callP (first := []) (H1 := HM1 ++ HD1) (H2 := [_]) (List.perm_append_comm (l₁ := [_])) rfl c_42 rfl (fun F1 hF1 hs1 => class_calls (decPH db s) (decS s) 41 [.pointer (some ⟨db, 0, none⟩)] c_41 (fun x p H F b e x' hH _ _ hst => decSt db s x x' p b e H F hH hst) (decS_bit s) mb HM1 HD1 m1 m2 x1 x2 c e F1 hM1 hm1 hD1 hcl)) ?_
        rintro _ _ ⟨_, ⟨rfl, HM2, HD2, rfl, hM2, ⟨hD2, ho2⟩⟩, rfl⟩
        refine at_hp (by (try simp only [List.take_zero, List.take_succ_cons, List.drop_zero, List.drop_succ_cons, List.drop_nil, List.length_cons, List.length_nil, Nat.zero_add, Nat.reduceAdd, List.set_cons_zero, List.set_cons_succ, List.nil_append, List.cons_append, List.append_nil, pick, List.filterMap_cons, List.filterMap_nil, List.getElem?_cons_zero, List.getElem?_cons_succ]); exact rfl) ?_
        refine at_perm List.perm_append_comm ?_
        refine at_hp (by (try simp only [List.take_zero, List.take_succ_cons, List.drop_zero, List.drop_succ_cons, List.drop_nil, List.length_cons, List.length_nil, Nat.zero_add, Nat.reduceAdd, List.set_cons_zero, List.set_cons_succ, List.nil_append, List.cons_append, List.append_nil, pick, List.filterMap_cons, List.filterMap_nil, List.getElem?_cons_zero, List.getElem?_cons_succ]); exact rfl) ?_
        refine st_p rfl rfl (p_move rfl) ?_
        refine st_p rfl rfl (p_ext rfl rfl) ?_
        refine st_p rfl rfl (p_ext rfl rfl) ?_
        refine st_p rfl rfl (p_assign rfl) ?_
        refine st_p rfl rfl (p_assign rfl) ?_
        refine at_nil ?_
        refine at_ks [0, 1, 4, 5, 6, 7, 8, 9, 10, 11, 12, 18, 24, 25, 26, 34, 44, 55] (by (try simp only [keep, lk, pd, enumE, Nat.reduceBEq, Nat.reduceAdd, cond_true, cond_false]); exact rfl) ?_
        refine at_then ?_
        refine at_seq ?_
        refine at_seq ?_
        refine at_region ?_
        refine st_p rfl rfl (p_move rfl) ?_
        refine st_p rfl rfl (p_neq rfl rfl) ?_
        refine at_nil ?_
        refine at_ks [0, 1, 4, 5, 6, 7, 8, 9, 10, 11, 12, 18, 24, 25, 26, 34, 44, 55] (by (try simp only [keep, lk, pd, enumE, Nat.reduceBEq, Nat.reduceAdd, cond_true, cond_false]); exact rfl) ?_
        refine at_then ?_
        refine at_cond rfl (fun ht34 => ?_) (fun ht34 => ?_)
        · (try simp only [decide_eq_true_eq, decide_eq_false_iff_not, Bool.not_eq_true', Bool.not_eq_false', Bool.not_true, Bool.not_false, Bool.or_eq_true, Bool.and_eq_true, Int.not_lt, Int.not_le] at ht34)
          rw [if_neg ht34] at he
          simp only [Option.some.injEq] at he
          subst he
          refine at_seq ?_
          refine at_region ?_
          refine st_p rfl rfl (p_move rfl) ?_
          refine st_p rfl rfl (p_assign rfl) ?_
          refine st_p rfl rfl (p_assign rfl) ?_
          refine at_nil ?_
          refine at_ks [0, 1, 4, 5, 6, 7, 8, 9, 10, 11, 12, 18, 24, 25, 26, 34, 44, 55] (by (try simp only [keep, lk, pd, enumE, Nat.reduceBEq, Nat.reduceAdd, cond_true, cond_false]); exact rfl) ?_
          refine at_then ?_
          refine at_retc ?_
          refine at_then_r ?_
          refine at_inb_r ?_
          refine at_then_r ?_
          refine at_then_r ?_
          refine at_inb_r ?_
          refine at_then_r ?_
          refine at_re [] (by decide) ?_
          refine at_nilsl 54 2 ?_
          exact fin_2 rfl rfl rfl (by
              exact ⟨_, rfl, rfl⟩)
        · (try simp only [decide_eq_true_eq, decide_eq_false_iff_not, Bool.not_eq_true', Bool.not_eq_false', Bool.not_true, Bool.not_false, Bool.or_eq_true, Bool.and_eq_true, Int.not_lt, Int.not_le] at ht34)
          rw [if_pos ht34] at he
          obtain ⟨hk2, he⟩ := (Option.ite_none_right_eq_some).1 he
          refine at_skip ?_
          refine at_then ?_
          refine at_seq ?_
          refine at_region ?_
          refine st_p rfl rfl (p_move rfl) ?_
          refine st_p rfl rfl (p_move rfl) ?_
          refine st_p rfl rfl (p_sub rfl rfl (by first | exact nw64 (by omega) | exact nwu64 (by omega) | exact nwu8 (by omega) | exact nwu16 (by omega) | exact wu64 _ | exact wu8 _ | exact wi64 _ | rfl)) ?_
          refine st_l rfl rfl (l_callP (first := []) (H1 := HD2) (H2 := _ :: HM2) (List.perm_append_comm (l₁ := _ :: HM2)) rfl c_43 rfl (fun F1 hF1 hs1 => decDirect_calls db s x2 (c - 1) HD2 hD2 ho2 (by omega) F1)) ?_
          rintro _ _ ⟨HD3, ⟨rfl, hD3⟩, rfl⟩
          refine at_hp (by (try simp only [List.take_zero, List.take_succ_cons, List.drop_zero, List.drop_succ_cons, List.drop_nil, List.length_cons, List.length_nil, Nat.zero_add, Nat.reduceAdd, List.set_cons_zero, List.set_cons_succ, List.nil_append, List.cons_append, List.append_nil, pick, List.filterMap_cons, List.filterMap_nil, List.getElem?_cons_zero, List.getElem?_cons_succ]); exact rfl) ?_
          refine at_perm List.perm_append_comm ?_
          refine at_hp (by (try simp only [List.take_zero, List.take_succ_cons, List.drop_zero, List.drop_succ_cons, List.drop_nil, List.length_cons, List.length_nil, Nat.zero_add, Nat.reduceAdd, List.set_cons_zero, List.set_cons_succ, List.nil_append, List.cons_append, List.append_nil, pick, List.filterMap_cons, List.filterMap_nil, List.getElem?_cons_zero, List.getElem?_cons_succ]); exact rfl) ?_
          refine st_p rfl rfl (p_move rfl) ?_
          refine st_p rfl rfl (p_ext rfl rfl) ?_
          refine st_p rfl rfl (p_ext rfl rfl) ?_
          refine st_p rfl rfl (p_assign rfl) ?_
          refine st_p rfl rfl (p_assign rfl) ?_
          refine at_nil ?_
          refine at_ks [0, 1, 4, 5, 6, 7, 8, 9, 10, 11, 12, 18, 24, 25, 26, 34, 44, 55] (by (try simp only [keep, lk, pd, enumE, Nat.reduceBEq, Nat.reduceAdd, cond_true, cond_false]); exact rfl) ?_
          refine at_then ?_
          refine at_seq ?_
          refine at_seq ?_
          refine at_region ?_
          refine st_p rfl rfl (p_move rfl) ?_
          refine st_p rfl rfl (p_neq rfl rfl) ?_
          refine at_nil ?_
          refine at_ks [0, 1, 4, 5, 6, 7, 8, 9, 10, 11, 12, 18, 24, 25, 26, 34, 44, 55] (by (try simp only [keep, lk, pd, enumE, Nat.reduceBEq, Nat.reduceAdd, cond_true, cond_false]); exact rfl) ?_
          refine at_then ?_
          refine at_cond rfl (fun ht44 => ?_) (fun ht44 => ?_)
          · (try simp only [decide_eq_true_eq, decide_eq_false_iff_not, Bool.not_eq_true', Bool.not_eq_false', Bool.not_true, Bool.not_false, Bool.or_eq_true, Bool.and_eq_true, Int.not_lt, Int.not_le] at ht44)
            rw [if_neg ht44] at he
            simp only [Option.some.injEq] at he
            subst he
            refine at_seq ?_
            refine at_region ?_
            refine st_p rfl rfl (p_move rfl) ?_
            refine st_p rfl rfl (p_assign rfl) ?_
            refine st_p rfl rfl (p_assign rfl) ?_
            refine at_nil ?_
            refine at_ks [0, 1, 4, 5, 6, 7, 8, 9, 10, 11, 12, 18, 24, 25, 26, 34, 44, 55] (by (try simp only [keep, lk, pd, enumE, Nat.reduceBEq, Nat.reduceAdd, cond_true, cond_false]); exact rfl) ?_
            refine at_then ?_
            refine at_retc ?_
            refine at_then_r ?_
            refine at_inb_r ?_
            refine at_then_r ?_
            refine at_then_r ?_
            refine at_inb_r ?_
            refine at_then_r ?_
            refine at_re [] (by decide) ?_
            refine at_nilsl 54 2 ?_
            exact fin_2 rfl rfl rfl (by
                exact ⟨_, rfl, rfl⟩)
          · (try simp only [decide_eq_true_eq, decide_eq_false_iff_not, Bool.not_eq_true', Bool.not_eq_false', Bool.not_true, Bool.not_false, Bool.or_eq_true, Bool.and_eq_true, Int.not_lt, Int.not_le] at ht44)
            rw [if_pos ht44] at he
            refine at_skip ?_
            refine at_then ?_
            refine at_region ?_
            refine st_p rfl rfl (p_move rfl) ?_
            refine st_p rfl rfl (p_move rfl) ?_
            refine st_p rfl rfl (p_move rfl) ?_
            refine st_p rfl rfl (p_build (cs := #[N c, U (dDir s x2 (c - 1)).1]) rfl (fun _ => by kernel_rfl)) ?_
            refine st_l rfl rfl (l_bsV [.agg #[N c, U (dDir s x2 (c - 1)).1]] [N c, U (dDir s x2 (c - 1)).1] rfl e_23 (by decide) (by decide) rfl (by simp [Value.cells]) (by simp [Value.cells])) ?_
            rintro _ _ ⟨b50, rfl, rfl⟩
            refine at_hp (by (try simp only [List.take_zero, List.take_succ_cons, List.drop_zero, List.drop_succ_cons, List.drop_nil, List.length_cons, List.length_nil, Nat.zero_add, Nat.reduceAdd, List.set_cons_zero, List.set_cons_succ, List.nil_append, List.cons_append, List.append_nil, pick, List.filterMap_cons, List.filterMap_nil, List.getElem?_cons_zero, List.getElem?_cons_succ]); exact rfl) ?_
            refine st_l rfl rfl (l_app 1 0 rfl rfl e_23 rfl (by decide) rfl rfl rfl (by simp [Value.oneCell']) (by decide) (by omega) (by decide)) ?_
            rintro _ _ ⟨g51, c51, rfl, rfl⟩
            refine at_hp (by (try simp only [List.take_zero, List.take_succ_cons, List.drop_zero, List.drop_succ_cons, List.drop_nil, List.length_cons, List.length_nil, Nat.zero_add, Nat.reduceAdd, List.set_cons_zero, List.set_cons_succ, List.nil_append, List.cons_append, List.append_nil, pick, List.filterMap_cons, List.filterMap_nil, List.getElem?_cons_zero, List.getElem?_cons_succ]); exact rfl) ?_
            refine at_drop ?_
            refine st_p rfl rfl (p_assign rfl) ?_
            refine at_nil ?_
            refine at_ks [0, 1, 4, 5, 6, 7, 8, 9, 10, 11, 12, 18, 24, 25, 26, 34, 44, 55] (by (try simp only [keep, lk, pd, enumE, Nat.reduceBEq, Nat.reduceAdd, cond_true, cond_false]); exact rfl) ?_
            refine at_inb ?_
            refine at_then ?_
            refine at_region ?_
            refine st_p rfl rfl (p_add rfl rfl (by first | exact nw64 (by omega) | exact nwu64 (by omega) | exact nwu8 (by omega) | exact nwu16 (by omega) | exact wu64 _ | exact wu8 _ | exact wi64 _ | rfl)) ?_
            refine st_p rfl rfl (p_move rfl) ?_
            refine at_nil ?_
            refine at_ks [0, 1, 4, 5, 6, 7, 8, 9, 10, 11, 12, 18, 24, 25, 26, 34, 44, 55] (by (try simp only [keep, lk, pd, enumE, Nat.reduceBEq, Nat.reduceAdd, cond_true, cond_false]); exact rfl) ?_
            refine at_ks [6, 7, 8, 9, 24, 25] (by (try simp only [keep, lk, pd, enumE, Nat.reduceBEq, Nat.reduceAdd, cond_true, cond_false]); exact rfl) ?_
            refine at_back (j + 1) (by omega) ⟨i + 1, j, m2, (dDir s x2 (c - 1)).2.2, acc ++ [(c, (dDir s x2 (c - 1)).1)], _, HM2, HD3, rfl, ?_, hM2, ⟨hD3, dDir_ok s x2 (c - 1) ho2⟩, hmc.1, by omega, rfl, by simp [hac], he⟩
            rw [pcells_snoc]; simp
      · (try simp only [decide_eq_true_eq, decide_eq_false_iff_not, Bool.not_eq_true', Bool.not_eq_false', Bool.not_true, Bool.not_false, Bool.or_eq_true, Bool.and_eq_true, Int.not_lt, Int.not_le] at ht26)
        obtain rfl : j = 0 := by omega
        simp only [getGo] at he
        obtain ⟨hk9, he⟩ := (Option.ite_none_right_eq_some).1 he
        refine at_exit ?_
        refine at_then_x ?_
        refine at_then_x ?_
        refine at_inb_exit ?_
        refine at_then ?_
        refine at_seq ?_
        refine at_seq ?_
        refine at_region ?_
        refine st_p rfl rfl (p_move rfl) ?_
        refine st_l rfl rfl (l_callP (first := []) (H1 := HD1) (H2 := _ :: HM1) (List.perm_append_comm (l₁ := _ :: HM1)) rfl c_44 rfl (fun F1 hF1 hs1 => decEnd_calls db s x1 HD1 hD1.1 hD1.2 (by omega) F1)) ?_
        rintro _ _ ⟨_, ⟨rfl, rfl⟩, rfl⟩
        refine at_hp (by (try simp only [List.take_zero, List.take_succ_cons, List.drop_zero, List.drop_succ_cons, List.drop_nil, List.length_cons, List.length_nil, Nat.zero_add, Nat.reduceAdd, List.set_cons_zero, List.set_cons_succ, List.nil_append, List.cons_append, List.append_nil, pick, List.filterMap_cons, List.filterMap_nil, List.getElem?_cons_zero, List.getElem?_cons_succ]); exact rfl) ?_
        refine st_p rfl rfl (p_neq rfl rfl) ?_
        refine at_nil ?_
        refine at_ks [0, 1, 4, 5, 6, 7, 8, 9, 10, 11, 12, 18, 24, 25, 26, 34, 44, 55] (by (try simp only [keep, lk, pd, enumE, Nat.reduceBEq, Nat.reduceAdd, cond_true, cond_false]); exact rfl) ?_
        refine at_then ?_
        refine at_cond rfl (fun ht55 => ?_) (fun ht55 => ?_)
        · (try simp only [decide_eq_true_eq, decide_eq_false_iff_not, Bool.not_eq_true', Bool.not_eq_false', Bool.not_true, Bool.not_false, Bool.or_eq_true, Bool.and_eq_true, Int.not_lt, Int.not_le] at ht55)
          rw [if_neg ht55] at he
          simp only [Option.some.injEq] at he
          subst he
          refine at_seq ?_
          refine at_region ?_
          refine st_p rfl rfl (p_assign rfl) ?_
          refine st_p rfl rfl (p_assign rfl) ?_
          refine at_nil ?_
          refine at_ks [0, 1, 4, 5, 6, 7, 8, 9, 10, 11, 12, 18, 24, 25, 26, 34, 44, 55] (by (try simp only [keep, lk, pd, enumE, Nat.reduceBEq, Nat.reduceAdd, cond_true, cond_false]); exact rfl) ?_
          refine at_then ?_
          refine at_retc ?_
          refine at_then_r ?_
          refine at_re [] (by decide) ?_
          refine at_nilsl 54 2 ?_
          exact fin_2 rfl rfl rfl (by
              exact ⟨_, rfl, rfl⟩)
        · (try simp only [decide_eq_true_eq, decide_eq_false_iff_not, Bool.not_eq_true', Bool.not_eq_false', Bool.not_true, Bool.not_false, Bool.or_eq_true, Bool.and_eq_true, Int.not_lt, Int.not_le] at ht55)
          rw [if_pos ht55] at he
          simp only [Option.some.injEq] at he
          subst he
          refine at_skip ?_
          refine at_then ?_
          refine at_seq ?_
          refine at_region ?_
          refine st_p rfl rfl (p_move rfl) ?_
          refine st_p rfl rfl (p_assign rfl) ?_
          refine st_p rfl rfl (p_assign rfl) ?_
          refine at_nil ?_
          refine at_ks [0, 1, 4, 5, 6, 7, 8, 9, 10, 11, 12, 18, 24, 25, 26, 34, 44, 55] (by (try simp only [keep, lk, pd, enumE, Nat.reduceBEq, Nat.reduceAdd, cond_true, cond_false]); exact rfl) ?_
          refine at_then ?_
          refine at_retc ?_
          refine at_re [0] (by decide) ?_
          exact fin_2 rfl rfl rfl (by
              exact ⟨_, rfl, rfl⟩)

end Go.Proofs.Ytbpbhjnkmonlbaa