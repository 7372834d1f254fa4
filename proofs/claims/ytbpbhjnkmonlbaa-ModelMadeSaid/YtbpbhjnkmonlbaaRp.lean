/- The reference's bytes of parts, and parts of bytes: walks. No condition. -/
import Derived.Test.YtbpbhjnkmonlbaaRn
namespace Go.Proofs.Ytbpbhjnkmonlbaa
open Go.RowKit Sl
set_option linter.unusedVariables false
set_option linter.unusedSimpArgs false
set_option maxRecDepth 10000
theorem mx_mn (n : Int) : mx 0 (mn (mx 0 n) 64) = mx 0 (mn n 64) := by unfold mx mn; repeat' split
                                                                       all_goals omega
theorem dirN_mx (n : Int) : dirN (mx 0 n) = dirN n := by unfold dirN; rw [mx_mn]
theorem dDir_mx (s : ByteArray) (x : Cd × Bool) (n : Int) : dDir s x (mx 0 n) = dDir s x n := by unfold dDir; rw [mx_mn]
theorem perm3r {α : Type} (a b c d : α) (X : List α) : (a :: b :: c :: (X ++ [d])).Perm (d :: a :: b :: c :: X) := (List.perm_append_comm (l₁ := a :: b :: c :: X) (l₂ := [d]))
theorem perm_app2 {α : Type} (a b c : α) (X : List α) : (a :: b :: (X ++ [c])).Perm (c :: a :: b :: X) := (List.perm_append_comm (l₁ := a :: b :: X) (l₂ := [c]))
theorem perm32 {α : Type} (a b c d e : α) (X : List α) : (a :: b :: c :: d :: e :: X).Perm (d :: e :: a :: b :: c :: X) := (List.perm_append_comm (l₁ := [a, b, c]) (l₂ := [d, e])).append_right X
theorem perm23 {α : Type} (a b c d e : α) (X : List α) : (a :: b :: c :: d :: e :: X).Perm (c :: d :: e :: a :: b :: X) := (List.perm_append_comm (l₁ := [a, b]) (l₂ := [c, d, e])).append_right X

set_option maxHeartbeats 1600000 in
theorem rput_calls (A : Option Addr) (n ca : Nat) (ps : List (Int × Int)) (res : List Int × Int) (F : Frm) (hn : ps.length = n) (h6 : n ≤ 1000000000) (hr : ∀ p ∈ ps, 0 ≤ p.2 ∧ p.2 < 18446744073709551616) (hx : FV F A (pcells ps)) (h : putGo ps ms0 cd0 = some res) :
    SC Try.prog 12 #[.slice A n ca] [] F (fun u H => u = .agg #[.string (strOfNums res.1), N res.2] ∧ H = []) := by
  refine sc_in (args := [.slice A n ca]) Try.func12 rfl rfl (Nat.le_of_ble_eq_true rfl) ?_
  refine at_ks [0, 2, 3, 4, 5, 6, 7, 8, 9, 15, 23, 35] (by (try simp only [keep, lk, pd, enumE, Nat.reduceBEq, Nat.reduceAdd, cond_true, cond_false]); exact rfl) ?_
  refine at_seq ?_
  refine at_region ?_
  refine st_l rfl rfl (l_alloc _ y_29) ?_
  rintro _ _ ⟨b2, rfl, rfl⟩
  refine at_hp (by (try simp only [List.take_zero, List.take_succ_cons, List.drop_zero, List.drop_succ_cons, List.drop_nil, List.length_cons, List.length_nil, Nat.zero_add, Nat.reduceAdd, List.set_cons_zero, List.set_cons_succ, List.nil_append, List.cons_append, List.append_nil, pick, List.filterMap_cons, List.filterMap_nil, List.getElem?_cons_zero, List.getElem?_cons_succ]); exact rfl) ?_
  refine at_nil ?_
  refine at_ks [0, 2, 3, 4, 5, 6, 7, 8, 9, 15, 23, 35] (by (try simp only [keep, lk, pd, enumE, Nat.reduceBEq, Nat.reduceAdd, cond_true, cond_false]); exact rfl) ?_
  refine at_then ?_
  refine at_seq ?_
  refine at_region ?_
  refine st_l rfl rfl (l_callP (first := []) (H1 := []) (H2 := _) (List.Perm.refl _) rfl c_30 rfl (fun F1 hF1 hs1 => rmodel_calls F1)) ?_
  rintro _ _ ⟨HM, ⟨mb, rfl, hM⟩, rfl⟩
  refine at_hp (by (try simp only [List.take_zero, List.take_succ_cons, List.drop_zero, List.drop_succ_cons, List.drop_nil, List.length_cons, List.length_nil, Nat.zero_add, Nat.reduceAdd, List.set_cons_zero, List.set_cons_succ, List.nil_append, List.cons_append, List.append_nil, pick, List.filterMap_cons, List.filterMap_nil, List.getElem?_cons_zero, List.getElem?_cons_succ]); exact rfl) ?_
  refine st_p rfl rfl (p_assign rfl) ?_
  refine at_nil ?_
  refine at_ks [0, 2, 3, 4, 5, 6, 7, 8, 9, 15, 23, 35] (by (try simp only [keep, lk, pd, enumE, Nat.reduceBEq, Nat.reduceAdd, cond_true, cond_false]); exact rfl) ?_
  refine at_then ?_
  refine at_seq ?_
  refine at_region ?_
  refine st_l rfl rfl (l_callP (first := []) (H1 := []) (H2 := _) (List.Perm.refl _) rfl c_31 rfl (fun F1 hF1 hs1 => rnew_calls F1)) ?_
  rintro _ _ ⟨_, ⟨cb, dv, rfl, rfl⟩, rfl⟩
  unfold refH refR
  refine at_hp (by (try simp only [List.take_zero, List.take_succ_cons, List.drop_zero, List.drop_succ_cons, List.drop_nil, List.length_cons, List.length_nil, Nat.zero_add, Nat.reduceAdd, List.set_cons_zero, List.set_cons_succ, List.nil_append, List.cons_append, List.append_nil, pick, List.filterMap_cons, List.filterMap_nil, List.getElem?_cons_zero, List.getElem?_cons_succ]); exact rfl) ?_
  refine st_p rfl rfl (p_assign rfl) ?_
  refine at_nil ?_
  refine at_ks [0, 2, 3, 4, 5, 6, 7, 8, 9, 15, 23, 35] (by (try simp only [keep, lk, pd, enumE, Nat.reduceBEq, Nat.reduceAdd, cond_true, cond_false]); exact rfl) ?_
  refine at_then ?_
  refine at_seq ?_
  refine at_seq ?_
  refine at_region ?_
  refine st_p rfl rfl (p_assign rfl) ?_
  refine at_nil ?_
  refine at_ks [0, 2, 3, 4, 5, 6, 7, 8, 9, 15, 23, 35] (by (try simp only [keep, lk, pd, enumE, Nat.reduceBEq, Nat.reduceAdd, cond_true, cond_false]); exact rfl) ?_
  refine at_then ?_
  refine at_block ?_
  refine at_ks [0, 2, 3, 4, 5] (by (try simp only [keep, lk, pd, enumE, Nat.reduceBEq, Nat.reduceAdd, cond_true, cond_false]); exact rfl) ?_
  refine at_perm (perm_app2 _ _ _ _) ?_
  refine at_loop (fun k E H => ∃ (i : Nat) (m1 : Ms) (c1 : Cd) (dv1 : Value) (HM1 : Hp), E = [(0, .slice A n ca), (2, .pointer (some ⟨b2, 0, none⟩)), (3, .pointer (some ⟨mb, 0, none⟩)), (4, .pointer (some ⟨cb, 0, none⟩)), (5, N (i : Int))] ∧ H = .ob b2 [.string .empty, N 0] 29 :: (refH cb dv1 c1 ++ HM1) ∧ rmodH mb m1 HM1 ∧ m1.ok ∧ c1.ok ∧ i ≤ n ∧ k + i = n + 1 ∧ putGo (ps.drop i) m1 c1 = some res) (n + 1) (⟨0, ms0, cd0, dv, HM, rfl, rfl, hM, ms0_ok, cd0_ok, by omega, by omega, by rw [List.drop_zero]; exact h⟩) ?_
  rintro k _ _ ⟨i, m1, c1, dv1, HM1, rfl, rfl, hM1, hm1, ho1, hi, hk, he⟩
  unfold refH refR
  refine at_seq ?_
  refine at_seq ?_
  refine at_region ?_
  refine st_p rfl rfl (p_move rfl) ?_
  refine st_p rfl rfl (p_move rfl) ?_
  refine st_p rfl rfl (p_len rfl m_23) ?_
  refine st_p rfl rfl (p_lss rfl rfl) ?_
  refine at_nil ?_
  refine at_ks [0, 2, 3, 4, 5, 6, 7, 8, 9, 15, 23, 35] (by (try simp only [keep, lk, pd, enumE, Nat.reduceBEq, Nat.reduceAdd, cond_true, cond_false]); exact rfl) ?_
  refine at_then ?_
  refine at_cond rfl (fun ht15 => ?_) (fun ht15 => ?_)
  · (try simp only [decide_eq_true_eq, decide_eq_false_iff_not, Bool.not_eq_true', Bool.not_eq_false', Bool.not_true, Bool.not_false, Bool.or_eq_true, Bool.and_eq_true, Int.not_lt, Int.not_le] at ht15)
    have hlt : i < ps.length := by omega
    obtain ⟨⟨cl, r⟩, hpi⟩ : ∃ q, ps[i]? = some q := ⟨_, List.getElem?_eq_getElem hlt⟩
    have hrr := hr _ (List.mem_of_getElem? hpi)
    simp only at hrr
    obtain ⟨ba, oa, rfl, hga⟩ := Go.Proofs.Ytbpbhjnkmonlbaa.FV.part hx hpi
    rw [List.drop_eq_getElem_cons hlt, (List.getElem?_eq_some_iff.1 hpi).2, putGo] at he
    refine at_skip ?_
    refine at_then ?_
    refine at_seq ?_
    refine at_block ?_
    refine at_seq ?_
    refine at_seq ?_
    refine at_region ?_
    refine st_p rfl rfl (p_move rfl) ?_
    refine st_p rfl rfl (p_move rfl) ?_
    refine st_p rfl rfl (p_iaO rfl rfl z_23 (by omega) (by omega)) ?_
    refine st_q rfl rfl (q_frN (us := [N cl, U r]) rfl r_54 s_54 rfl hga) ?_
    refine st_q rfl rfl (q_call (first := []) rfl c_32 rfl (fun F1 hF1 hs1 => mayPart_calls cl r hrr.1 F1)) ?_
    refine st_p rfl rfl (p_not rfl) ?_
    refine at_nil ?_
    refine at_ks [0, 2, 3, 4, 5, 6, 7, 8, 9, 15, 23, 35] (by (try simp only [keep, lk, pd, enumE, Nat.reduceBEq, Nat.reduceAdd, cond_true, cond_false]); exact rfl) ?_
    refine at_then ?_
    refine at_cond rfl (fun ht23 => ?_) (fun ht23 => ?_)
    · (try simp only [decide_eq_true_eq, decide_eq_false_iff_not, Bool.not_eq_true', Bool.not_eq_false', Bool.not_true, Bool.not_false, Bool.or_eq_true, Bool.and_eq_true, Int.not_lt, Int.not_le] at ht23)
      have hmv0 : mayv cl r = false := ht23
      rw [hmv0] at he
      simp only [Bool.false_eq_true, if_false, Option.some.injEq] at he
      subst he
      refine at_seq ?_
      refine at_region ?_
      refine st_p rfl rfl (p_build (cs := #[.string .empty, N 1]) rfl (fun _ => by kernel_rfl)) ?_
      refine st_l rfl rfl (l_obN (us := [.string .empty, N 1]) 0 rfl rfl rfl (by simp [Value.oneCell']) s_29 (by simp)) ?_
      rintro _ _ ⟨rfl, rfl⟩
      refine at_hp (by (try simp only [List.take_zero, List.take_succ_cons, List.drop_zero, List.drop_succ_cons, List.drop_nil, List.length_cons, List.length_nil, Nat.zero_add, Nat.reduceAdd, List.set_cons_zero, List.set_cons_succ, List.nil_append, List.cons_append, List.append_nil, pick, List.filterMap_cons, List.filterMap_nil, List.getElem?_cons_zero, List.getElem?_cons_succ]); exact rfl) ?_
      refine at_nil ?_
      refine at_ks [0, 2, 3, 4, 5, 6, 7, 8, 9, 15, 23, 35] (by (try simp only [keep, lk, pd, enumE, Nat.reduceBEq, Nat.reduceAdd, cond_true, cond_false]); exact rfl) ?_
      refine at_then ?_
      refine at_retc ?_
      refine at_then_r ?_
      refine at_inb_r ?_
      refine at_then_r ?_
      refine at_then_r ?_
      refine at_inb_r ?_
      refine at_then_r ?_
      exact fin_cd 0 [] (by decide) rfl rfl rfl r_29 s_29 ⟨rfl, rfl⟩
    · (try simp only [decide_eq_true_eq, decide_eq_false_iff_not, Bool.not_eq_true', Bool.not_eq_false', Bool.not_true, Bool.not_false, Bool.or_eq_true, Bool.and_eq_true, Int.not_lt, Int.not_le] at ht23)
      have hmv0 : mayv cl r = true := ht23
      rw [hmv0] at he
      simp only [if_true] at he
      have hmv : (cl = 0 ∧ r = 0) ∨ (1 ≤ cl ∧ cl ≤ 64 ∧ r < 2 ^ (cl - 1).toNat) := by unfold mayv at hmv0; simpa using hmv0
      obtain ⟨c, rfl⟩ : ∃ c : Nat, cl = (c : Int) := ⟨cl.toNat, by omega⟩
      obtain ⟨v, rfl⟩ : ∃ v : Nat, r = (v : Int) := ⟨r.toNat, by omega⟩
      have hc : c < 65 := by omega
      simp only [Int.toNat_natCast] at he
      obtain ⟨⟨m', cF⟩, hf⟩ : ∃ q, forthS encP m1 c c1 = some q := by
        cases h : forthS encP m1 c c1 with
        | none => rw [h] at he; cases he
        | some r => exact ⟨r, rfl⟩
      rw [hf] at he
      simp only at he
      obtain ⟨hk2, he⟩ := (Option.ite_none_right_eq_some).1 he
      obtain ⟨mF, hmid0, rfl⟩ := Mid.start hc hm1 hf
      refine at_skip ?_
      refine at_then ?_
      refine at_seq ?_
      refine at_region ?_
      refine st_p rfl rfl (p_move rfl) ?_
      refine st_p rfl rfl (p_move rfl) ?_
      refine st_p rfl rfl (p_iaO rfl rfl z_23 (by omega) (by omega)) ?_
      refine st_p rfl rfl ((by first | exact p_fa0 rfl o_54_0 | exact p_fa rfl o_54_0)) ?_
      refine st_q rfl rfl (q_fr rfl r_3 (hga 0 _ rfl)) ?_
      refine st_l rfl rfl (l_callP (first := []) (H1 := []) (H2 := _) (List.Perm.refl _) rfl c_33 rfl (fun F1 hF1 hs1 => rnodes_calls (c : Nat) (by omega) (by omega) F1)) ?_
      rintro _ _ ⟨_, ⟨vn, vb, rfl, rfl⟩, rfl⟩
      refine at_hp (by (try simp only [List.take_zero, List.take_succ_cons, List.drop_zero, List.drop_succ_cons, List.drop_nil, List.length_cons, List.length_nil, Nat.zero_add, Nat.reduceAdd, List.set_cons_zero, List.set_cons_succ, List.nil_append, List.cons_append, List.append_nil, pick, List.filterMap_cons, List.filterMap_nil, List.getElem?_cons_zero, List.getElem?_cons_succ]); exact rfl) ?_
      refine st_p rfl rfl (p_move rfl) ?_
      refine st_p rfl rfl (p_ext rfl rfl) ?_
      refine st_p rfl rfl (p_ext rfl rfl) ?_
      refine st_p rfl rfl (p_assign rfl) ?_
      refine st_p rfl rfl (p_assign rfl) ?_
      refine at_nil ?_
      refine at_ks [0, 2, 3, 4, 5, 6, 7, 8, 9, 15, 23, 35] (by (try simp only [keep, lk, pd, enumE, Nat.reduceBEq, Nat.reduceAdd, cond_true, cond_false]); exact rfl) ?_
      refine at_then ?_
      refine at_seq ?_
      refine at_seq ?_
      refine at_row 0 rfl (by decide) fun gn_ cn hv _ => ?_
      subst hv
      refine at_row 1 rfl (by decide) fun gb_ cb_ hv _ => ?_
      subst hv
      refine at_region ?_
      refine st_p rfl rfl (p_assign rfl) ?_
      refine at_nil ?_
      refine at_ks [0, 2, 3, 4, 5, 6, 7, 8, 9, 15, 23, 35] (by (try simp only [keep, lk, pd, enumE, Nat.reduceBEq, Nat.reduceAdd, cond_true, cond_false]); exact rfl) ?_
      refine at_then ?_
      refine at_block ?_
      refine at_ks [0, 2, 3, 4, 5, 6, 7, 8] (by (try simp only [keep, lk, pd, enumE, Nat.reduceBEq, Nat.reduceAdd, cond_true, cond_false]); exact rfl) ?_
      refine at_loop (fun k2 E H => ∃ (j : Nat) (m2 : Ms) (c2 : Cd) (dv2 : Value) (HM2 : Hp), E = [(0, .slice (some ⟨ba, oa, none⟩) n ca), (2, .pointer (some ⟨b2, 0, none⟩)), (3, .pointer (some ⟨mb, 0, none⟩)), (4, .pointer (some ⟨cb, 0, none⟩)), (5, N (i : Int)), (6, .slice (some ⟨gn_, 0, none⟩) 7 cn), (7, .slice (some ⟨gb_, 0, none⟩) 7 cb_), (8, N (j : Int))] ∧ H = .sl (.slice (some ⟨gn_, 0, none⟩) 7 cn) 3 1 7 (ints .i64 (nodesv c 7)) :: .sl (.slice (some ⟨gb_, 0, none⟩) 7 cb_) 3 1 7 (ints .i64 (bitsv c 7)) :: .ob b2 [.string .empty, N 0] 29 :: (refH cb dv2 c2 ++ HM2) ∧ rmodH mb m2 HM2 ∧ Mid encP c j m2 c2 mF cF ∧ c2.ok ∧ j ≤ 7 ∧ k2 + j = 8) (8) (⟨0, m1, c1, dv1, HM1, rfl, rfl, hM1, hmid0, ho1, by omega, by omega⟩) ?_
      rintro k2 _ _ ⟨j, m2, c2, dv2, HM2, rfl, rfl, hM2, hmid, ho2, hj, hk2⟩
      unfold refH refR
      refine at_seq ?_
      refine at_seq ?_
      refine at_region ?_
      refine st_p rfl rfl (p_move rfl) ?_
      refine st_p rfl rfl (p_lss rfl rfl) ?_
      refine at_nil ?_
      refine at_ks [0, 2, 3, 4, 5, 6, 7, 8, 9, 15, 23, 35] (by (try simp only [keep, lk, pd, enumE, Nat.reduceBEq, Nat.reduceAdd, cond_true, cond_false]); exact rfl) ?_
      refine at_then ?_
      refine at_cond rfl (fun ht35 => ?_) (fun ht35 => ?_)
      · (try simp only [decide_eq_true_eq, decide_eq_false_iff_not, Bool.not_eq_true', Bool.not_eq_false', Bool.not_true, Bool.not_false, Bool.or_eq_true, Bool.and_eq_true, Int.not_lt, Int.not_le] at ht35)
        have hj7 : j < 7 := by omega
        obtain ⟨c3, hput, hmid2⟩ := hmid.step hc hj7
        unfold encP at hput
        obtain ⟨hl9, hput⟩ := (Option.ite_none_right_eq_some).1 hput
        simp only [Option.some.injEq] at hput
        subst hput
        refine at_skip ?_
        refine at_then ?_
        refine at_seq ?_
        refine at_block ?_
        refine at_seq ?_
        refine at_region ?_
        refine st_p rfl rfl (p_move rfl) ?_
        refine st_p rfl rfl (p_move rfl) ?_
        refine st_p rfl rfl (p_move rfl) ?_
        refine st_p rfl rfl (p_move rfl) ?_
        refine st_p rfl rfl (p_ia1 rfl rfl z_22 (by omega) (by omega)) ?_
        refine st_q rfl rfl (q_sl 0 rfl rfl r_3 (node_get hj7)) ?_
        refine st_q rfl rfl (q_call (first := []) rfl c_34 rfl (fun F1 hF1 hs1 => rat_calls mb m2 HM2 j (ndn c j) F1 hM2 hmid.ok hj7 (ndn_all c hc j hj7).1 (fun x hx => hs1 x (List.mem_cons_of_mem _ (List.mem_cons_of_mem _ (List.mem_cons_of_mem _ (List.mem_cons_of_mem _ (List.mem_cons_of_mem _ hx)))))))) ?_
        refine st_p rfl rfl (p_assign rfl) ?_
        refine at_nil ?_
        refine at_ks [0, 2, 3, 4, 5, 6, 7, 8, 9, 15, 23, 35] (by (try simp only [keep, lk, pd, enumE, Nat.reduceBEq, Nat.reduceAdd, cond_true, cond_false]); exact rfl) ?_
        refine at_then ?_
        refine at_seq ?_
        refine at_region ?_
        refine st_p rfl rfl (p_move rfl) ?_
        refine st_p rfl rfl (p_move rfl) ?_
        refine st_p rfl rfl (p_move rfl) ?_
        refine st_p rfl rfl (p_move rfl) ?_
        refine st_p rfl rfl (p_ia1 rfl rfl z_22 (by omega) (by omega)) ?_
        refine st_q rfl rfl (q_sl 1 rfl rfl r_3 (bit_get hj7)) ?_
        refine st_l rfl rfl (l_callP (first := []) (H1 := refH cb dv2 c2) (H2 := _ :: _ :: _ :: HM2) (perm32 _ _ _ _ _ _) rfl c_35 rfl (fun F1 hF1 hs1 => rBit_calls cb dv2 c2 (m2.chance j (ndn c j)) (btv c j) ho2 (by omega) F1)) ?_
        rintro _ _ ⟨_, ⟨rfl, dv3, rfl⟩, rfl⟩
        unfold refH refR
        refine at_hp (by (try simp only [List.take_zero, List.take_succ_cons, List.drop_zero, List.drop_succ_cons, List.drop_nil, List.length_cons, List.length_nil, Nat.zero_add, Nat.reduceAdd, List.set_cons_zero, List.set_cons_succ, List.nil_append, List.cons_append, List.append_nil, pick, List.filterMap_cons, List.filterMap_nil, List.getElem?_cons_zero, List.getElem?_cons_succ]); exact rfl) ?_
        refine at_perm (perm23 _ _ _ _ _ _) ?_
        refine at_nil ?_
        refine at_ks [0, 2, 3, 4, 5, 6, 7, 8, 9, 15, 23, 35] (by (try simp only [keep, lk, pd, enumE, Nat.reduceBEq, Nat.reduceAdd, cond_true, cond_false]); exact rfl) ?_
        refine at_then ?_
        refine at_drawH [0, 1, 2, 3, 4, 5, 6, 7, 8, 9, 10, 11] [0, 0, 0, 0, 12, 28, 0, 0, 0, 384, 896, 2047] [5, 10] [11] mixd (by kernel_rfl) ?_
        refine rd_p rfl rfl rfl rfl rfl (p_move rfl) ?_
        refine rd_p rfl rfl rfl rfl rfl (p_move rfl) ?_
        refine rd_p rfl rfl rfl rfl rfl (p_move rfl) ?_
        refine rd_p rfl rfl rfl rfl rfl (p_move rfl) ?_
        refine rd_p rfl rfl rfl rfl rfl (p_ia1 rfl rfl z_22 (by omega) (by omega)) ?_
        refine rd_q rfl rfl rfl rfl rfl (q_sl 0 rfl rfl r_3 (node_get hj7)) (fun _ h => h) ?_
        refine rd_p rfl rfl rfl rfl rfl (p_move rfl) ?_
        refine rd_p rfl rfl rfl rfl rfl (p_move rfl) ?_
        refine rd_p rfl rfl rfl rfl rfl (p_move rfl) ?_
        refine rd_p rfl rfl rfl rfl rfl (p_ia1 rfl rfl z_22 (by omega) (by omega)) ?_
        refine rd_q rfl rfl rfl rfl rfl (q_sl 1 rfl rfl r_3 (bit_get hj7)) (fun _ h => h) ?_
        refine rd_l rfl rfl rfl rfl (l_callP (first := []) (H1 := HM2) (H2 := [_, _, _, _, _]) (List.perm_append_comm (l₁ := [_, _, _, _, _])) rfl c_36 rfl (fun F1 hF1 hs1 => rlearn_calls mb m2 HM2 j (ndn c j) (m2.chance j (ndn c j)) (btv c j) F1 hM2 hmid.ok hj7 (ndn_all c hc j hj7).1)) (fun h => nomatch (show false = true from h)) ?_
        rintro _ _ ⟨HM3, ⟨rfl, hM3⟩, rfl⟩
        refine rd_hp (by (try simp only [List.take_zero, List.take_succ_cons, List.drop_zero, List.drop_succ_cons, List.drop_nil, List.length_cons, List.length_nil, Nat.zero_add, Nat.reduceAdd, List.set_cons_zero, List.set_cons_succ, List.nil_append, List.cons_append, List.append_nil, pick, List.filterMap_cons, List.filterMap_nil, List.getElem?_cons_zero, List.getElem?_cons_succ]); exact rfl) ?_
        refine rd_nil ?_
        refine at_ks [0, 2, 3, 4, 5, 6, 7, 8, 9, 15, 23, 35] (by (try simp only [keep, lk, pd, enumE, Nat.reduceBEq, Nat.reduceAdd, cond_true, cond_false]); exact rfl) ?_
        refine at_inb ?_
        refine at_then ?_
        refine at_region ?_
        refine st_p rfl rfl (p_move rfl) ?_
        refine st_p rfl rfl (p_add rfl rfl (by first | exact nw64 (by omega) | exact nwu64 (by omega) | exact nwu8 (by omega) | exact nwu16 (by omega) | exact wu64 _ | exact wu8 _ | exact wi64 _ | rfl)) ?_
        refine st_p rfl rfl (p_assign rfl) ?_
        refine at_nil ?_
        refine at_ks [0, 2, 3, 4, 5, 6, 7, 8, 9, 15, 23, 35] (by (try simp only [keep, lk, pd, enumE, Nat.reduceBEq, Nat.reduceAdd, cond_true, cond_false]); exact rfl) ?_
        refine at_ks [0, 2, 3, 4, 5, 6, 7, 8] (by (try simp only [keep, lk, pd, enumE, Nat.reduceBEq, Nat.reduceAdd, cond_true, cond_false]); exact rfl) ?_
        refine at_perm List.perm_append_comm ?_
        refine at_back (k2 - 1) (by omega) ⟨j + 1, _, bitC c2 (m2.chance j (ndn c j)) (btv c j), dv3, HM3, rfl, rfl, hM3, hmid2, ho2.bit _ _, by omega, by omega⟩
      · (try simp only [decide_eq_true_eq, decide_eq_false_iff_not, Bool.not_eq_true', Bool.not_eq_false', Bool.not_true, Bool.not_false, Bool.or_eq_true, Bool.and_eq_true, Int.not_lt, Int.not_le] at ht35)
        obtain rfl : j = 7 := by omega
        obtain ⟨rfl, rfl⟩ := hmid.fin
        refine at_exit ?_
        refine at_then_x ?_
        refine at_then_x ?_
        refine at_inb_exit ?_
        refine at_then ?_
        refine at_seq ?_
        refine at_region ?_
        refine st_p rfl rfl (p_move rfl) ?_
        refine st_p rfl rfl (p_move rfl) ?_
        refine st_p rfl rfl (p_move rfl) ?_
        refine st_p rfl rfl (p_iaO rfl rfl z_23 (by omega) (by omega)) ?_
        refine st_p rfl rfl ((by first | exact p_fa0 rfl o_54_0 | exact p_fa rfl o_54_0)) ?_
        refine st_q rfl rfl (q_fr rfl r_3 (hga 0 _ rfl)) ?_
        refine st_l rfl rfl (l_callP (first := []) (H1 := HM2) (H2 := [_, _, _, _, _]) (List.perm_append_comm (l₁ := [_, _, _, _, _])) rfl c_37 rfl (fun F1 hF1 hs1 => rcame_calls mb mF HM2 c F1 hM2)) ?_
        rintro _ _ ⟨HM3, ⟨rfl, hM3⟩, rfl⟩
        refine at_hp (by (try simp only [List.take_zero, List.take_succ_cons, List.drop_zero, List.drop_succ_cons, List.drop_nil, List.length_cons, List.length_nil, Nat.zero_add, Nat.reduceAdd, List.set_cons_zero, List.set_cons_succ, List.nil_append, List.cons_append, List.append_nil, pick, List.filterMap_cons, List.filterMap_nil, List.getElem?_cons_zero, List.getElem?_cons_succ]); exact rfl) ?_
        refine at_perm List.perm_append_comm ?_
        refine at_hp (by (try simp only [List.take_zero, List.take_succ_cons, List.drop_zero, List.drop_succ_cons, List.drop_nil, List.length_cons, List.length_nil, Nat.zero_add, Nat.reduceAdd, List.set_cons_zero, List.set_cons_succ, List.nil_append, List.cons_append, List.append_nil, pick, List.filterMap_cons, List.filterMap_nil, List.getElem?_cons_zero, List.getElem?_cons_succ]); exact rfl) ?_
        refine at_nil ?_
        refine at_ks [0, 2, 3, 4, 5, 6, 7, 8, 9, 15, 23, 35] (by (try simp only [keep, lk, pd, enumE, Nat.reduceBEq, Nat.reduceAdd, cond_true, cond_false]); exact rfl) ?_
        refine at_then ?_
        refine at_drawH [0, 1, 2, 3, 4, 5, 6, 7, 8, 9, 10, 11, 12, 13] [0, 0, 0, 6, 14, 30, 0, 0, 192, 448, 960, 1984, 4032, 8191] [5, 10] [13] mixd (by kernel_rfl) ?_
        refine rd_p rfl rfl rfl rfl rfl (p_move rfl) ?_
        refine rd_p rfl rfl rfl rfl rfl (p_move rfl) ?_
        refine rd_p rfl rfl rfl rfl rfl (p_move rfl) ?_
        refine rd_p rfl rfl rfl rfl rfl (p_iaO rfl rfl z_23 (by omega) (by omega)) ?_
        refine rd_p rfl rfl rfl rfl rfl ((by first | exact p_fa0 rfl o_54_1 | exact p_fa rfl o_54_1)) ?_
        refine rd_q rfl rfl rfl rfl rfl (q_fr rfl r_52 (hga 1 _ rfl)) (fun _ h => h) ?_
        refine rd_p rfl rfl rfl rfl rfl (p_move rfl) ?_
        refine rd_p rfl rfl rfl rfl rfl (p_move rfl) ?_
        refine rd_p rfl rfl rfl rfl rfl (p_iaO rfl rfl z_23 (by omega) (by omega)) ?_
        refine rd_p rfl rfl rfl rfl rfl ((by first | exact p_fa0 rfl o_54_0 | exact p_fa rfl o_54_0)) ?_
        refine rd_q rfl rfl rfl rfl rfl (q_fr rfl r_3 (hga 0 _ rfl)) (fun _ h => h) ?_
        refine rd_p rfl rfl rfl rfl rfl (p_sub rfl rfl (by first | exact nw64 (by omega) | exact nwu64 (by omega) | exact nwu8 (by omega) | exact nwu16 (by omega) | exact wu64 _ | exact wu8 _ | exact wi64 _ | rfl)) ?_
        refine rd_p rfl rfl rfl rfl rfl (p_max (r := mx 0 ((c : Int) - 1)) rfl rfl rfl) ?_
        refine rd_l rfl rfl rfl rfl (l_callP (first := []) (H1 := refH cb dv2 cF) (H2 := _ :: _ :: _ :: HM3) (perm32 _ _ _ _ _ _) rfl c_38 rfl (fun F1 hF1 hs1 => rDirect_calls cb dv2 cF v (mx 0 ((c : Int) - 1)) ho2 (by omega) (by omega) F1)) (fun h => nomatch (show false = true from h)) ?_
        rintro _ _ ⟨_, ⟨rfl, dv3, rfl⟩, rfl⟩
        unfold refH refR
        refine rd_hp (by (try simp only [List.take_zero, List.take_succ_cons, List.drop_zero, List.drop_succ_cons, List.drop_nil, List.length_cons, List.length_nil, Nat.zero_add, Nat.reduceAdd, List.set_cons_zero, List.set_cons_succ, List.nil_append, List.cons_append, List.append_nil, pick, List.filterMap_cons, List.filterMap_nil, List.getElem?_cons_zero, List.getElem?_cons_succ]); exact rfl) ?_
        refine rd_nil ?_
        refine at_ks [0, 2, 3, 4, 5, 6, 7, 8, 9, 15, 23, 35] (by (try simp only [keep, lk, pd, enumE, Nat.reduceBEq, Nat.reduceAdd, cond_true, cond_false]); exact rfl) ?_
        refine at_inb ?_
        refine at_then ?_
        refine at_region ?_
        refine st_p rfl rfl (p_move rfl) ?_
        refine st_p rfl rfl (p_add rfl rfl (by first | exact nw64 (by omega) | exact nwu64 (by omega) | exact nwu8 (by omega) | exact nwu16 (by omega) | exact wu64 _ | exact wu8 _ | exact wi64 _ | rfl)) ?_
        refine st_p rfl rfl (p_assign rfl) ?_
        refine at_nil ?_
        refine at_ks [0, 2, 3, 4, 5, 6, 7, 8, 9, 15, 23, 35] (by (try simp only [keep, lk, pd, enumE, Nat.reduceBEq, Nat.reduceAdd, cond_true, cond_false]); exact rfl) ?_
        refine at_ks [0, 2, 3, 4, 5] (by (try simp only [keep, lk, pd, enumE, Nat.reduceBEq, Nat.reduceAdd, cond_true, cond_false]); exact rfl) ?_
        refine at_dropAt 2 rfl rfl ?_
        refine at_dropAt 2 rfl rfl ?_
        refine at_perm (perm3 _ _ _ _) ?_
        refine at_back (k - 1) (by omega) ⟨i + 1, mF.came c, dirC cF v (dirN ((c : Int) - 1)), dv3, HM3, rfl, by rw [dirN_mx]; rfl, hM3, hmid.ok.came (by omega), ho2.dir _ _, by omega, by omega, he⟩
  · (try simp only [decide_eq_true_eq, decide_eq_false_iff_not, Bool.not_eq_true', Bool.not_eq_false', Bool.not_true, Bool.not_false, Bool.or_eq_true, Bool.and_eq_true, Int.not_lt, Int.not_le] at ht15)
    obtain rfl : n = i := by omega
    rw [List.drop_eq_nil_of_le (by omega), putGo] at he
    obtain ⟨hk9, he⟩ := (Option.ite_none_right_eq_some).1 he
    simp only [Option.some.injEq] at he
    subst he
    refine at_exit ?_
    refine at_then_x ?_
    refine at_then_x ?_
    refine at_inb_exit ?_
    refine at_then ?_
    refine at_seq ?_
    refine at_region ?_
    refine st_p rfl rfl (p_move rfl) ?_
    refine st_l rfl rfl (l_callP (first := []) (H1 := refH cb dv1 c1) (H2 := _ :: HM1) ((perm3 _ _ _ _).symm) rfl c_39 rfl (fun F1 hF1 hs1 => rBytes_calls cb dv1 c1 F1)) ?_
    rintro _ _ ⟨_, ⟨rfl, rfl⟩, rfl⟩
    unfold refH refR
    refine at_hp (by (try simp only [List.take_zero, List.take_succ_cons, List.drop_zero, List.drop_succ_cons, List.drop_nil, List.length_cons, List.length_nil, Nat.zero_add, Nat.reduceAdd, List.set_cons_zero, List.set_cons_succ, List.nil_append, List.cons_append, List.append_nil, pick, List.filterMap_cons, List.filterMap_nil, List.getElem?_cons_zero, List.getElem?_cons_succ]); exact rfl) ?_
    refine st_p rfl rfl (p_build (cs := #[.string (strOfNums (be c1.k c1.n)), N 0]) rfl (fun _ => by kernel_rfl)) ?_
    refine st_l rfl rfl (l_obN (us := [.string (strOfNums (be c1.k c1.n)), N 0]) 2 rfl rfl rfl (by simp [Value.oneCell']) s_29 (by simp)) ?_
    rintro _ _ ⟨rfl, rfl⟩
    refine at_hp (by (try simp only [List.take_zero, List.take_succ_cons, List.drop_zero, List.drop_succ_cons, List.drop_nil, List.length_cons, List.length_nil, Nat.zero_add, Nat.reduceAdd, List.set_cons_zero, List.set_cons_succ, List.nil_append, List.cons_append, List.append_nil, pick, List.filterMap_cons, List.filterMap_nil, List.getElem?_cons_zero, List.getElem?_cons_succ]); exact rfl) ?_
    refine at_nil ?_
    refine at_ks [0, 2, 3, 4, 5, 6, 7, 8, 9, 15, 23, 35] (by (try simp only [keep, lk, pd, enumE, Nat.reduceBEq, Nat.reduceAdd, cond_true, cond_false]); exact rfl) ?_
    refine at_then ?_
    refine at_retc ?_
    exact fin_cd 2 [] (by decide) rfl rfl rfl r_29 s_29 ⟨rfl, rfl⟩

/-- A class that is told, bit by bit: the state ahead of bit j. -/
structure GMid (s : ByteArray) (j node : Nat) (m : Ms) (x : Cd × Bool) (q : Int × Int × Ms × (Cd × Bool)) : Prop where
  go : classS (decS s) (7 - j) j node m x = some q
  ok : m.ok
  ho : x.1.ok
  lo : 2 ^ j ≤ node
  hi : node < 2 ^ (j + 1)
theorem GMid.lt {s : ByteArray} {j node : Nat} {m : Ms} {x : Cd × Bool} {q : Int × Int × Ms × (Cd × Bool)} (h : GMid s j node m x q) (hj : j < 7) : node < 128 := by
  have h1 := h.hi
  have : 2 ^ (j + 1) ≤ 2 ^ 7 := Nat.pow_le_pow_right (by decide) (by omega)
  omega
theorem GMid.step {s : ByteArray} {j node : Nat} {m : Ms} {x : Cd × Bool} {q : Int × Int × Ms × (Cd × Bool)} (h : GMid s j node m x q) (hj : j < 7) : x.1.k < 30000000000000 ∧
    ((dBit s x (m.chance j node)).2.1 = 0 → ((dBit s x (m.chance j node)).1 = 0 ∨ (dBit s x (m.chance j node)).1 = 1) ∧ GMid s (j + 1) (2 * node + (dBit s x (m.chance j node)).1.toNat) (m.learn j node (m.chance j node) (dBit s x (m.chance j node)).1) (dBit s x (m.chance j node)).2.2 q) ∧
    ((dBit s x (m.chance j node)).2.1 ≠ 0 → q.2.1 = (dBit s x (m.chance j node)).2.1) := by
  obtain ⟨hg, hm, ho, hlo, hhi⟩ := h
  rw [show 7 - j = (7 - (j + 1)) + 1 by omega, classS, bitS, decS] at hg
  by_cases hk : x.1.k < 30000000000000
  · have hb : (dBit s x (m.chance j node)).1 = 0 ∨ (dBit s x (m.chance j node)).1 = 1 := decS_bit s x (m.chance j node) (dBit s x (m.chance j node)).1 (dBit s x (m.chance j node)).2.1 (dBit s x (m.chance j node)).2.2 (by unfold decS; rw [if_pos hk])
    rw [if_pos hk] at hg
    simp only at hg
    have hb1 : (dBit s x (m.chance j node)).1.toNat ≤ 1 := by rcases hb with h | h <;> rw [h] <;> decide
    refine ⟨hk, fun h0 => ⟨hb, ?_⟩, fun h0 => ?_⟩
    · rw [if_pos h0] at hg
      simp only [if_true] at hg
      refine ⟨hg, hm.learn hj _ _ _, dBit_ok _ ho, ?_, ?_⟩
      · rw [Nat.pow_succ]; omega
      · rw [Nat.pow_succ]; omega
    · rw [if_neg h0] at hg
      simp only [if_neg h0, Option.some.injEq] at hg
      rw [← hg]
  · rw [if_neg hk] at hg
    cases hg
theorem GMid.fin {s : ByteArray} {node : Nat} {m : Ms} {x : Cd × Bool} {q : Int × Int × Ms × (Cd × Bool)} (h : GMid s 7 node m x q) : 128 ≤ node ∧ node < 256 ∧ q = (if 65 ≤ node - 128 then (0, 3, m, x) else (((node - 128 : Nat) : Int), 0, m.came (node - 128), x)) := by
  obtain ⟨hg, hm, ho, hlo, hhi⟩ := h
  refine ⟨hlo, hhi, ?_⟩
  simp only [Nat.sub_self, classS] at hg
  split at hg
  · rename_i h
    rw [if_pos h]
    simp only [Option.some.injEq] at hg
    exact hg.symm
  · rename_i h
    rw [if_neg h]
    simp only [Option.some.injEq] at hg
    exact hg.symm
theorem GMid.start {s : ByteArray} {m : Ms} {x : Cd × Bool} {q : Int × Int × Ms × (Cd × Bool)} (hm : m.ok) (ho : x.1.ok) (h : classS (decS s) 7 0 1 m x = some q) : GMid s 0 1 m x q := ⟨h, hm, ho, by decide, by decide⟩
theorem perm53 {α : Type} (a b c d e : α) (X : List α) : (a :: b :: c :: d :: e :: X).Perm (d :: e :: a :: b :: c :: X) := perm32 a b c d e X

set_option maxHeartbeats 1600000 in
theorem rget_calls (s : ByteArray) (n : Int) (res : List (Int × Int) × Int) (F : Frm) (h : getS s n = some res) :
    SC Try.prog 14 #[.string s, N n] [] F (fun u H => ∃ v, u = .agg #[v, N res.2] ∧ H = [.sl v 54 2 res.1.length (pcells res.1)]) := by
  unfold getS at h
  refine sc_in (args := [.string s, N n]) Try.func14 rfl rfl (Nat.le_of_ble_eq_true rfl) ?_
  refine at_ks [0, 1, 4, 5, 6, 7, 8, 9, 10, 11, 12, 18, 26, 28, 40, 60, 73, 87] (by (try simp only [keep, lk, pd, enumE, Nat.reduceBEq, Nat.reduceAdd, cond_true, cond_false]); exact rfl) ?_
  refine at_seq ?_
  refine at_region ?_
  refine st_l rfl rfl (l_alloc _ y_34) ?_
  rintro _ _ ⟨b4, rfl, rfl⟩
  refine at_hp (by (try simp only [List.take_zero, List.take_succ_cons, List.drop_zero, List.drop_succ_cons, List.drop_nil, List.length_cons, List.length_nil, Nat.zero_add, Nat.reduceAdd, List.set_cons_zero, List.set_cons_succ, List.nil_append, List.cons_append, List.append_nil, pick, List.filterMap_cons, List.filterMap_nil, List.getElem?_cons_zero, List.getElem?_cons_succ]); exact rfl) ?_
  refine at_nil ?_
  refine at_ks [0, 1, 4, 5, 6, 7, 8, 9, 10, 11, 12, 18, 26, 28, 40, 60, 73, 87] (by (try simp only [keep, lk, pd, enumE, Nat.reduceBEq, Nat.reduceAdd, cond_true, cond_false]); exact rfl) ?_
  refine at_then ?_
  refine at_seq ?_
  refine at_seq ?_
  refine at_region ?_
  refine st_p rfl rfl (p_move rfl) ?_
  refine st_p rfl rfl (p_lss rfl rfl) ?_
  refine st_p rfl rfl (p_move rfl) ?_
  refine at_split 15 rfl (fun ht15 => ?_) (fun ht15 => ?_)
  · (try simp only [decide_eq_true_eq, decide_eq_false_iff_not, Bool.not_eq_true', Bool.not_eq_false', Bool.not_true, Bool.not_false, Bool.or_eq_true, Bool.and_eq_true, Int.not_lt, Int.not_le] at ht15)
    refine sg_no rfl rfl ?_
    refine sg_no rfl rfl ?_
    refine st_p rfl rfl ((by first | exact p_pick_t rfl rfl | exact p_pick_f rfl rfl)) ?_
    refine at_nil ?_
    refine at_ks [0, 1, 4, 5, 6, 7, 8, 9, 10, 11, 12, 18, 26, 28, 40, 60, 73, 87] (by (try simp only [keep, lk, pd, enumE, Nat.reduceBEq, Nat.reduceAdd, cond_true, cond_false]); exact rfl) ?_
    refine at_then ?_
    refine at_cond_t rfl ?_
    rw [if_pos (by omega)] at h
    simp only [Option.some.injEq] at h
    subst h
    refine at_seq ?_
    refine at_region ?_
    refine st_p rfl rfl (p_build (cs := #[.slice none 0 0, N 1]) rfl (fun _ => by kernel_rfl)) ?_
    refine st_l rfl rfl (l_obN (us := [.slice none 0 0, N 1]) 0 rfl rfl rfl (by simp [Value.oneCell']) s_34 (by simp)) ?_
    rintro _ _ ⟨rfl, rfl⟩
    refine at_hp (by (try simp only [List.take_zero, List.take_succ_cons, List.drop_zero, List.drop_succ_cons, List.drop_nil, List.length_cons, List.length_nil, Nat.zero_add, Nat.reduceAdd, List.set_cons_zero, List.set_cons_succ, List.nil_append, List.cons_append, List.append_nil, pick, List.filterMap_cons, List.filterMap_nil, List.getElem?_cons_zero, List.getElem?_cons_succ]); exact rfl) ?_
    refine at_nil ?_
    refine at_ks [0, 1, 4, 5, 6, 7, 8, 9, 10, 11, 12, 18, 26, 28, 40, 60, 73, 87] (by (try simp only [keep, lk, pd, enumE, Nat.reduceBEq, Nat.reduceAdd, cond_true, cond_false]); exact rfl) ?_
    refine at_then ?_
    refine at_retc ?_
    refine at_then_r ?_
    refine at_nilsl 54 2 ?_
    exact fin_cd 1 [0] (by decide) rfl rfl rfl r_34 s_34 ⟨_, rfl, rfl⟩
  · (try simp only [decide_eq_true_eq, decide_eq_false_iff_not, Bool.not_eq_true', Bool.not_eq_false', Bool.not_true, Bool.not_false, Bool.or_eq_true, Bool.and_eq_true, Int.not_lt, Int.not_le] at ht15)
    refine sg_p rfl rfl (p_move rfl) ?_
    refine sg_p rfl rfl (p_gtr rfl rfl) ?_
    refine st_p rfl rfl ((by first | exact p_pick_t rfl rfl | exact p_pick_f rfl rfl)) ?_
    refine at_nil ?_
    refine at_ks [0, 1, 4, 5, 6, 7, 8, 9, 10, 11, 12, 18, 26, 28, 40, 60, 73, 87] (by (try simp only [keep, lk, pd, enumE, Nat.reduceBEq, Nat.reduceAdd, cond_true, cond_false]); exact rfl) ?_
    refine at_then ?_
    refine at_cond rfl (fun ht18 => ?_) (fun ht18 => ?_)
    · (try simp only [decide_eq_true_eq, decide_eq_false_iff_not, Bool.not_eq_true', Bool.not_eq_false', Bool.not_true, Bool.not_false, Bool.or_eq_true, Bool.and_eq_true, Int.not_lt, Int.not_le] at ht18)
      rw [if_pos (by omega)] at h
      simp only [Option.some.injEq] at h
      subst h
      refine at_seq ?_
      refine at_region ?_
      refine st_p rfl rfl (p_build (cs := #[.slice none 0 0, N 1]) rfl (fun _ => by kernel_rfl)) ?_
      refine st_l rfl rfl (l_obN (us := [.slice none 0 0, N 1]) 0 rfl rfl rfl (by simp [Value.oneCell']) s_34 (by simp)) ?_
      rintro _ _ ⟨rfl, rfl⟩
      refine at_hp (by (try simp only [List.take_zero, List.take_succ_cons, List.drop_zero, List.drop_succ_cons, List.drop_nil, List.length_cons, List.length_nil, Nat.zero_add, Nat.reduceAdd, List.set_cons_zero, List.set_cons_succ, List.nil_append, List.cons_append, List.append_nil, pick, List.filterMap_cons, List.filterMap_nil, List.getElem?_cons_zero, List.getElem?_cons_succ]); exact rfl) ?_
      refine at_nil ?_
      refine at_ks [0, 1, 4, 5, 6, 7, 8, 9, 10, 11, 12, 18, 26, 28, 40, 60, 73, 87] (by (try simp only [keep, lk, pd, enumE, Nat.reduceBEq, Nat.reduceAdd, cond_true, cond_false]); exact rfl) ?_
      refine at_then ?_
      refine at_retc ?_
      refine at_then_r ?_
      refine at_nilsl 54 2 ?_
      exact fin_cd 1 [0] (by decide) rfl rfl rfl r_34 s_34 ⟨_, rfl, rfl⟩
    · (try simp only [decide_eq_true_eq, decide_eq_false_iff_not, Bool.not_eq_true', Bool.not_eq_false', Bool.not_true, Bool.not_false, Bool.or_eq_true, Bool.and_eq_true, Int.not_lt, Int.not_le] at ht18)
      rw [if_neg (by omega)] at h
      refine at_skip ?_
      refine at_then ?_
      refine at_seq ?_
      refine at_region ?_
      refine st_l rfl rfl (l_callP (first := []) (H1 := []) (H2 := _) (List.Perm.refl _) rfl c_30 rfl (fun F1 hF1 hs1 => rmodel_calls F1)) ?_
      rintro _ _ ⟨HM, ⟨mb, rfl, hM⟩, rfl⟩
      refine at_hp (by (try simp only [List.take_zero, List.take_succ_cons, List.drop_zero, List.drop_succ_cons, List.drop_nil, List.length_cons, List.length_nil, Nat.zero_add, Nat.reduceAdd, List.set_cons_zero, List.set_cons_succ, List.nil_append, List.cons_append, List.append_nil, pick, List.filterMap_cons, List.filterMap_nil, List.getElem?_cons_zero, List.getElem?_cons_succ]); exact rfl) ?_
      refine st_p rfl rfl (p_assign rfl) ?_
      refine at_nil ?_
      refine at_ks [0, 1, 4, 5, 6, 7, 8, 9, 10, 11, 12, 18, 26, 28, 40, 60, 73, 87] (by (try simp only [keep, lk, pd, enumE, Nat.reduceBEq, Nat.reduceAdd, cond_true, cond_false]); exact rfl) ?_
      refine at_then ?_
      refine at_seq ?_
      refine at_region ?_
      refine st_p rfl rfl (p_move rfl) ?_
      refine st_l rfl rfl (l_callP (first := []) (H1 := []) (H2 := _) (List.Perm.refl _) rfl c_45 rfl (fun F1 hF1 hs1 => rfrom_calls s F1)) ?_
      rintro _ _ ⟨_, ⟨rb, cb, dv, rfl, rfl⟩, rfl⟩
      unfold readR refH refR
      refine at_hp (by (try simp only [List.take_zero, List.take_succ_cons, List.drop_zero, List.drop_succ_cons, List.drop_nil, List.length_cons, List.length_nil, Nat.zero_add, Nat.reduceAdd, List.set_cons_zero, List.set_cons_succ, List.nil_append, List.cons_append, List.append_nil, pick, List.filterMap_cons, List.filterMap_nil, List.getElem?_cons_zero, List.getElem?_cons_succ]); exact rfl) ?_
      refine st_p rfl rfl (p_assign rfl) ?_
      refine at_nil ?_
      refine at_ks [0, 1, 4, 5, 6, 7, 8, 9, 10, 11, 12, 18, 26, 28, 40, 60, 73, 87] (by (try simp only [keep, lk, pd, enumE, Nat.reduceBEq, Nat.reduceAdd, cond_true, cond_false]); exact rfl) ?_
      refine at_then ?_
      refine at_seq ?_
      refine at_region ?_
      refine st_p rfl rfl (p_assign rfl) ?_
      refine at_nil ?_
      refine at_ks [0, 1, 4, 5, 6, 7, 8, 9, 10, 11, 12, 18, 26, 28, 40, 60, 73, 87] (by (try simp only [keep, lk, pd, enumE, Nat.reduceBEq, Nat.reduceAdd, cond_true, cond_false]); exact rfl) ?_
      refine at_then ?_
      refine at_seq ?_
      refine at_block ?_
      refine at_ks [0, 1, 4, 5, 6, 7] (by (try simp only [keep, lk, pd, enumE, Nat.reduceBEq, Nat.reduceAdd, cond_true, cond_false]); exact rfl) ?_
      refine at_perm (perm3r _ _ _ _ _) ?_
      refine at_nilsl 54 2 ?_
      refine at_loop (fun k E H => ∃ (acc : List (Int × Int)) (m1 : Ms) (x1 : Cd × Bool) (v dv1 : Value) (HM1 : Hp), E = [(0, .string s), (1, N n), (4, .pointer (some ⟨b4, 0, none⟩)), (5, .pointer (some ⟨mb, 0, none⟩)), (6, .pointer (some ⟨rb, 0, none⟩)), (7, v)] ∧ H = .sl v 54 2 acc.length (pcells acc) :: .ob b4 [.slice none 0 0, N 0] 34 :: (readR rb cb dv1 s x1 ++ HM1) ∧ rmodH mb m1 HM1 ∧ m1.ok ∧ x1.1.ok ∧ acc.length + k = n.toNat + 1 ∧ 0 < k ∧ getGo s (k - 1) m1 x1 acc = some res) (n.toNat + 1) (⟨[], ms0, (cd0, false), _, dv, HM, rfl, rfl, hM, ms0_ok, cd0_ok, by simp, by omega, h⟩) ?_
      rintro k _ _ ⟨acc, m1, x1, v, dv1, HM1, rfl, rfl, hM1, hm1, ho1, hk, hk0, he⟩
      unfold readR refH refR
      refine at_shapeM 0 rfl fun Av cv hv _ _ _ => ?_
      subst hv
      refine at_seq ?_
      refine at_seq ?_
      refine at_region ?_
      refine st_p rfl rfl (p_move rfl) ?_
      refine st_p rfl rfl (p_len rfl m_23) ?_
      refine st_p rfl rfl (p_move rfl) ?_
      refine st_p rfl rfl (p_lss rfl rfl) ?_
      refine at_nil ?_
      refine at_ks [0, 1, 4, 5, 6, 7, 8, 9, 10, 11, 12, 18, 26, 28, 40, 60, 73, 87] (by (try simp only [keep, lk, pd, enumE, Nat.reduceBEq, Nat.reduceAdd, cond_true, cond_false]); exact rfl) ?_
      refine at_then ?_
      refine at_cond rfl (fun ht26 => ?_) (fun ht26 => ?_)
      · (try simp only [decide_eq_true_eq, decide_eq_false_iff_not, Bool.not_eq_true', Bool.not_eq_false', Bool.not_true, Bool.not_false, Bool.or_eq_true, Bool.and_eq_true, Int.not_lt, Int.not_le] at ht26)
        obtain ⟨k, rfl⟩ : ∃ q, k = q + 2 := ⟨k - 2, by omega⟩
        rw [show k + 2 - 1 = k + 1 by omega, getGo] at he
        obtain ⟨q, hcl⟩ : ∃ q, classS (decS s) 7 0 1 m1 x1 = some q := by
          cases hh : classS (decS s) 7 0 1 m1 x1 with
          | none => rw [hh] at he; cases he
          | some q => exact ⟨q, rfl⟩
        rw [hcl] at he
        simp only at he
        have hmid0 := GMid.start hm1 ho1 hcl
        refine at_skip ?_
        refine at_then ?_
        refine at_block ?_
        refine at_seq ?_
        refine at_region ?_
        refine st_p rfl rfl (p_assign rfl) ?_
        refine at_nil ?_
        refine at_ks [0, 1, 4, 5, 6, 7, 8, 9, 10, 11, 12, 18, 26, 28, 40, 60, 73, 87] (by (try simp only [keep, lk, pd, enumE, Nat.reduceBEq, Nat.reduceAdd, cond_true, cond_false]); exact rfl) ?_
        refine at_then ?_
        refine at_seq ?_
        refine at_seq ?_
        refine at_region ?_
        refine st_p rfl rfl (p_assign rfl) ?_
        refine at_nil ?_
        refine at_ks [0, 1, 4, 5, 6, 7, 8, 9, 10, 11, 12, 18, 26, 28, 40, 60, 73, 87] (by (try simp only [keep, lk, pd, enumE, Nat.reduceBEq, Nat.reduceAdd, cond_true, cond_false]); exact rfl) ?_
        refine at_then ?_
        refine at_block ?_
        refine at_ks [0, 1, 4, 5, 6, 7, 8, 9] (by (try simp only [keep, lk, pd, enumE, Nat.reduceBEq, Nat.reduceAdd, cond_true, cond_false]); exact rfl) ?_
        refine at_loop (fun k2 E H => ∃ (j node : Nat) (m2 : Ms) (x2 : Cd × Bool) (dv2 : Value) (HM2 : Hp), E = [(0, .string s), (1, N n), (4, .pointer (some ⟨b4, 0, none⟩)), (5, .pointer (some ⟨mb, 0, none⟩)), (6, .pointer (some ⟨rb, 0, none⟩)), (7, .slice Av acc.length cv), (8, N (node : Int)), (9, N (j : Int))] ∧ H = .sl (.slice Av acc.length cv) 54 2 acc.length (pcells acc) :: .ob b4 [.slice none 0 0, N 0] 34 :: (readR rb cb dv2 s x2 ++ HM2) ∧ rmodH mb m2 HM2 ∧ GMid s j node m2 x2 q ∧ j ≤ 7 ∧ k2 + j = 8) (8) (⟨0, 1, m1, x1, dv1, HM1, rfl, rfl, hM1, hmid0, by omega, by omega⟩) ?_
        rintro k2 _ _ ⟨j, node, m2, x2, dv2, HM2, rfl, rfl, hM2, hmid, hj, hk2⟩
        unfold readR refH refR
        refine at_seq ?_
        refine at_seq ?_
        refine at_region ?_
        refine st_p rfl rfl (p_move rfl) ?_
        refine st_p rfl rfl (p_lss rfl rfl) ?_
        refine at_nil ?_
        refine at_ks [0, 1, 4, 5, 6, 7, 8, 9, 10, 11, 12, 18, 26, 28, 40, 60, 73, 87] (by (try simp only [keep, lk, pd, enumE, Nat.reduceBEq, Nat.reduceAdd, cond_true, cond_false]); exact rfl) ?_
        refine at_then ?_
        refine at_cond rfl (fun ht28 => ?_) (fun ht28 => ?_)
        · (try simp only [decide_eq_true_eq, decide_eq_false_iff_not, Bool.not_eq_true', Bool.not_eq_false', Bool.not_true, Bool.not_false, Bool.or_eq_true, Bool.and_eq_true, Int.not_lt, Int.not_le] at ht28)
          have hj7 : j < 7 := by omega
          obtain ⟨hk9, hstep, hbad⟩ := hmid.step hj7
          have hn128 := hmid.lt hj7
          refine at_skip ?_
          refine at_then ?_
          refine at_seq ?_
          refine at_block ?_
          refine at_seq ?_
          refine at_region ?_
          refine st_p rfl rfl (p_move rfl) ?_
          refine st_p rfl rfl (p_move rfl) ?_
          refine st_p rfl rfl (p_move rfl) ?_
          refine st_q rfl rfl (q_call (first := []) rfl c_34 rfl (fun F1 hF1 hs1 => rat_calls mb m2 HM2 j node F1 hM2 hmid.ok hj7 (hmid.lt hj7) (fun x hx => hs1 x (List.mem_cons_of_mem _ (List.mem_cons_of_mem _ (List.mem_cons_of_mem _ (List.mem_cons_of_mem _ (List.mem_cons_of_mem _ hx)))))))) ?_
          refine st_p rfl rfl (p_assign rfl) ?_
          refine at_nil ?_
          refine at_ks [0, 1, 4, 5, 6, 7, 8, 9, 10, 11, 12, 18, 26, 28, 40, 60, 73, 87] (by (try simp only [keep, lk, pd, enumE, Nat.reduceBEq, Nat.reduceAdd, cond_true, cond_false]); exact rfl) ?_
          refine at_then ?_
          refine at_seq ?_
          refine at_region ?_
          refine st_p rfl rfl (p_move rfl) ?_
          refine st_p rfl rfl (p_move rfl) ?_
          refine st_l rfl rfl (l_callP (first := []) (H1 := readR rb cb dv2 s x2) (H2 := _ :: _ :: HM2) (perm23 _ _ _ _ _ _) rfl c_46 rfl (fun F1 hF1 hs1 => rdBit_calls rb cb dv2 s x2 (m2.chance j node) hmid.ho (by omega) F1)) ?_
          rintro _ _ ⟨_, ⟨rfl, dv3, rfl⟩, rfl⟩
          unfold readR refH refR
          refine at_hp (by (try simp only [List.take_zero, List.take_succ_cons, List.drop_zero, List.drop_succ_cons, List.drop_nil, List.length_cons, List.length_nil, Nat.zero_add, Nat.reduceAdd, List.set_cons_zero, List.set_cons_succ, List.nil_append, List.cons_append, List.append_nil, pick, List.filterMap_cons, List.filterMap_nil, List.getElem?_cons_zero, List.getElem?_cons_succ]); exact rfl) ?_
          refine st_l rfl rfl (l_alloc _ y_90) ?_
          rintro _ _ ⟨b11, rfl, rfl⟩
          refine at_hp (by (try simp only [List.take_zero, List.take_succ_cons, List.drop_zero, List.drop_succ_cons, List.drop_nil, List.length_cons, List.length_nil, Nat.zero_add, Nat.reduceAdd, List.set_cons_zero, List.set_cons_succ, List.nil_append, List.cons_append, List.append_nil, pick, List.filterMap_cons, List.filterMap_nil, List.getElem?_cons_zero, List.getElem?_cons_succ]); exact rfl) ?_
          refine st_l rfl rfl (l_obN (us := [U (dBit s x2 (m2.chance j node)).1, N 0, N (dBit s x2 (m2.chance j node)).2.1]) 0 rfl rfl rfl (by simp [Value.oneCell']) s_90 (by simp)) ?_
          rintro _ _ ⟨rfl, rfl⟩
          refine at_hp (by (try simp only [List.take_zero, List.take_succ_cons, List.drop_zero, List.drop_succ_cons, List.drop_nil, List.length_cons, List.length_nil, Nat.zero_add, Nat.reduceAdd, List.set_cons_zero, List.set_cons_succ, List.nil_append, List.cons_append, List.append_nil, pick, List.filterMap_cons, List.filterMap_nil, List.getElem?_cons_zero, List.getElem?_cons_succ]); exact rfl) ?_
          refine at_nil ?_
          refine at_ks [0, 1, 4, 5, 6, 7, 8, 9, 10, 11, 12, 18, 26, 28, 40, 60, 73, 87] (by (try simp only [keep, lk, pd, enumE, Nat.reduceBEq, Nat.reduceAdd, cond_true, cond_false]); exact rfl) ?_
          refine at_then ?_
          refine at_seq ?_
          refine at_seq ?_
          refine at_region ?_
          refine st_p rfl rfl ((by first | exact p_fa0 rfl o_90_2 | exact p_fa rfl o_90_2)) ?_
          refine st_q rfl rfl ((by first | exact q_ob 0 rfl rfl r_3 (by first | rfl | assumption) | exact q_ob 1 rfl rfl r_3 (by first | rfl | assumption) | exact q_ob 2 rfl rfl r_3 (by first | rfl | assumption) | exact q_ob 3 rfl rfl r_3 (by first | rfl | assumption) | exact q_ob 4 rfl rfl r_3 (by first | rfl | assumption) | exact q_ob 5 rfl rfl r_3 (by first | rfl | assumption) | exact q_ob 6 rfl rfl r_3 (by first | rfl | assumption) | exact q_sl 0 rfl rfl r_3 (by first | rfl | assumption) | exact q_sl 1 rfl rfl r_3 (by first | rfl | assumption) | exact q_sl 2 rfl rfl r_3 (by first | rfl | assumption) | exact q_sl 3 rfl rfl r_3 (by first | rfl | assumption) | exact q_sl 4 rfl rfl r_3 (by first | rfl | assumption) | exact q_sl 5 rfl rfl r_3 (by first | rfl | assumption) | exact q_sl 6 rfl rfl r_3 (by first | rfl | assumption) | exact q_fr rfl r_3 (by assumption))) ?_
          refine st_p rfl rfl (p_neq rfl rfl) ?_
          refine at_nil ?_
          refine at_ks [0, 1, 4, 5, 6, 7, 8, 9, 10, 11, 12, 18, 26, 28, 40, 60, 73, 87] (by (try simp only [keep, lk, pd, enumE, Nat.reduceBEq, Nat.reduceAdd, cond_true, cond_false]); exact rfl) ?_
          refine at_then ?_
          refine at_cond rfl (fun ht40 => ?_) (fun ht40 => ?_)
          · (try simp only [decide_eq_true_eq, decide_eq_false_iff_not, Bool.not_eq_true', Bool.not_eq_false', Bool.not_true, Bool.not_false, Bool.or_eq_true, Bool.and_eq_true, Int.not_lt, Int.not_le] at ht40)
            have hb := hbad ht40
            rw [hb, if_neg ht40] at he
            simp only [Option.some.injEq] at he
            subst he
            refine at_seq ?_
            refine at_region ?_
            refine st_p rfl rfl ((by first | exact p_fa0 rfl o_90_2 | exact p_fa rfl o_90_2)) ?_
            refine st_q rfl rfl ((by first | exact q_ob 0 rfl rfl r_3 (by first | rfl | assumption) | exact q_ob 1 rfl rfl r_3 (by first | rfl | assumption) | exact q_ob 2 rfl rfl r_3 (by first | rfl | assumption) | exact q_ob 3 rfl rfl r_3 (by first | rfl | assumption) | exact q_ob 4 rfl rfl r_3 (by first | rfl | assumption) | exact q_ob 5 rfl rfl r_3 (by first | rfl | assumption) | exact q_ob 6 rfl rfl r_3 (by first | rfl | assumption) | exact q_sl 0 rfl rfl r_3 (by first | rfl | assumption) | exact q_sl 1 rfl rfl r_3 (by first | rfl | assumption) | exact q_sl 2 rfl rfl r_3 (by first | rfl | assumption) | exact q_sl 3 rfl rfl r_3 (by first | rfl | assumption) | exact q_sl 4 rfl rfl r_3 (by first | rfl | assumption) | exact q_sl 5 rfl rfl r_3 (by first | rfl | assumption) | exact q_sl 6 rfl rfl r_3 (by first | rfl | assumption) | exact q_fr rfl r_3 (by assumption))) ?_
            refine st_p rfl rfl (p_build (cs := #[.slice none 0 0, N (dBit s x2 (m2.chance j node)).2.1]) rfl (fun _ => by kernel_rfl)) ?_
            refine st_l rfl rfl (l_obN (us := [.slice none 0 0, N (dBit s x2 (m2.chance j node)).2.1]) 5 rfl rfl rfl (by simp [Value.oneCell']) s_34 (by simp)) ?_
            rintro _ _ ⟨rfl, rfl⟩
            refine at_hp (by (try simp only [List.take_zero, List.take_succ_cons, List.drop_zero, List.drop_succ_cons, List.drop_nil, List.length_cons, List.length_nil, Nat.zero_add, Nat.reduceAdd, List.set_cons_zero, List.set_cons_succ, List.nil_append, List.cons_append, List.append_nil, pick, List.filterMap_cons, List.filterMap_nil, List.getElem?_cons_zero, List.getElem?_cons_succ]); exact rfl) ?_
            refine at_nil ?_
            refine at_ks [0, 1, 4, 5, 6, 7, 8, 9, 10, 11, 12, 18, 26, 28, 40, 60, 73, 87] (by (try simp only [keep, lk, pd, enumE, Nat.reduceBEq, Nat.reduceAdd, cond_true, cond_false]); exact rfl) ?_
            refine at_then ?_
            refine at_retc ?_
            refine at_then_r ?_
            refine at_inb_r ?_
            refine at_then_r ?_
            refine at_then_r ?_
            refine at_inb_r ?_
            refine at_then_r ?_
            refine at_inb_r ?_
            refine at_then_r ?_
            refine at_inb_r ?_
            refine at_then_r ?_
            refine at_nilsl 54 2 ?_
            exact fin_cd 6 [0] (by decide) rfl rfl rfl r_34 s_34 ⟨_, rfl, rfl⟩
          · (try simp only [decide_eq_true_eq, decide_eq_false_iff_not, Bool.not_eq_true', Bool.not_eq_false', Bool.not_true, Bool.not_false, Bool.or_eq_true, Bool.and_eq_true, Int.not_lt, Int.not_le] at ht40)
            obtain ⟨hb01, hmid2⟩ := hstep ht40
            refine at_skip ?_
            refine at_then ?_
            refine at_seq ?_
            refine at_region ?_
            refine st_p rfl rfl (p_move rfl) ?_
            refine st_p rfl rfl (p_move rfl) ?_
            refine st_p rfl rfl (p_move rfl) ?_
            refine st_p rfl rfl (p_move rfl) ?_
            refine st_p rfl rfl ((by first | exact p_fa0 rfl o_90_0 | exact p_fa rfl o_90_0)) ?_
            refine st_q rfl rfl ((by first | exact q_ob 0 rfl rfl r_52 (by first | rfl | assumption) | exact q_ob 1 rfl rfl r_52 (by first | rfl | assumption) | exact q_ob 2 rfl rfl r_52 (by first | rfl | assumption) | exact q_ob 3 rfl rfl r_52 (by first | rfl | assumption) | exact q_ob 4 rfl rfl r_52 (by first | rfl | assumption) | exact q_ob 5 rfl rfl r_52 (by first | rfl | assumption) | exact q_ob 6 rfl rfl r_52 (by first | rfl | assumption) | exact q_sl 0 rfl rfl r_52 (by first | rfl | assumption) | exact q_sl 1 rfl rfl r_52 (by first | rfl | assumption) | exact q_sl 2 rfl rfl r_52 (by first | rfl | assumption) | exact q_sl 3 rfl rfl r_52 (by first | rfl | assumption) | exact q_sl 4 rfl rfl r_52 (by first | rfl | assumption) | exact q_sl 5 rfl rfl r_52 (by first | rfl | assumption) | exact q_sl 6 rfl rfl r_52 (by first | rfl | assumption) | exact q_fr rfl r_52 (by assumption))) ?_
            refine st_p rfl rfl (p_conv (r := (dBit s x2 (m2.chance j node)).1) rfl Try.underlying52 Try.underlying3 (nw64 (by omega))) ?_
            refine st_l rfl rfl (l_callP (first := []) (H1 := HM2) (H2 := [_, _, _, _, _, _]) (List.perm_append_comm (l₁ := [_, _, _, _, _, _])) rfl c_36 rfl (fun F1 hF1 hs1 => rlearn_calls mb m2 HM2 j node (m2.chance j node) (dBit s x2 (m2.chance j node)).1 F1 hM2 hmid.ok hj7 (hmid.lt hj7))) ?_
            rintro _ _ ⟨HM3, ⟨rfl, hM3⟩, rfl⟩
            refine at_hp (by (try simp only [List.take_zero, List.take_succ_cons, List.drop_zero, List.drop_succ_cons, List.drop_nil, List.length_cons, List.length_nil, Nat.zero_add, Nat.reduceAdd, List.set_cons_zero, List.set_cons_succ, List.nil_append, List.cons_append, List.append_nil, pick, List.filterMap_cons, List.filterMap_nil, List.getElem?_cons_zero, List.getElem?_cons_succ]); exact rfl) ?_
            refine at_perm List.perm_append_comm ?_
            refine at_hp (by (try simp only [List.take_zero, List.take_succ_cons, List.drop_zero, List.drop_succ_cons, List.drop_nil, List.length_cons, List.length_nil, Nat.zero_add, Nat.reduceAdd, List.set_cons_zero, List.set_cons_succ, List.nil_append, List.cons_append, List.append_nil, pick, List.filterMap_cons, List.filterMap_nil, List.getElem?_cons_zero, List.getElem?_cons_succ]); exact rfl) ?_
            refine at_nil ?_
            refine at_ks [0, 1, 4, 5, 6, 7, 8, 9, 10, 11, 12, 18, 26, 28, 40, 60, 73, 87] (by (try simp only [keep, lk, pd, enumE, Nat.reduceBEq, Nat.reduceAdd, cond_true, cond_false]); exact rfl) ?_
            refine at_then ?_
            refine at_region ?_
            refine st_p rfl rfl (p_move rfl) ?_
            refine st_p rfl rfl (p_mul rfl rfl (by first | exact nw64 (by omega) | exact nwu64 (by omega) | exact nwu8 (by omega) | exact nwu16 (by omega) | exact wu64 _ | exact wu8 _ | exact wi64 _ | rfl)) ?_
            refine st_p rfl rfl ((by first | exact p_fa0 rfl o_90_0 | exact p_fa rfl o_90_0)) ?_
            refine st_q rfl rfl ((by first | exact q_ob 0 rfl rfl r_52 (by first | rfl | assumption) | exact q_ob 1 rfl rfl r_52 (by first | rfl | assumption) | exact q_ob 2 rfl rfl r_52 (by first | rfl | assumption) | exact q_ob 3 rfl rfl r_52 (by first | rfl | assumption) | exact q_ob 4 rfl rfl r_52 (by first | rfl | assumption) | exact q_ob 5 rfl rfl r_52 (by first | rfl | assumption) | exact q_ob 6 rfl rfl r_52 (by first | rfl | assumption) | exact q_sl 0 rfl rfl r_52 (by first | rfl | assumption) | exact q_sl 1 rfl rfl r_52 (by first | rfl | assumption) | exact q_sl 2 rfl rfl r_52 (by first | rfl | assumption) | exact q_sl 3 rfl rfl r_52 (by first | rfl | assumption) | exact q_sl 4 rfl rfl r_52 (by first | rfl | assumption) | exact q_sl 5 rfl rfl r_52 (by first | rfl | assumption) | exact q_sl 6 rfl rfl r_52 (by first | rfl | assumption) | exact q_fr rfl r_52 (by assumption))) ?_
            refine st_p rfl rfl (p_conv (r := (dBit s x2 (m2.chance j node)).1) rfl Try.underlying52 Try.underlying3 (nw64 (by omega))) ?_
            refine st_p rfl rfl (p_add (r := ((2 * node + (dBit s x2 (m2.chance j node)).1.toNat : Nat) : Int)) rfl rfl ((nw64 (by omega)).trans (by omega))) ?_
            refine st_p rfl rfl (p_assign rfl) ?_
            refine at_nil ?_
            refine at_ks [0, 1, 4, 5, 6, 7, 8, 9, 10, 11, 12, 18, 26, 28, 40, 60, 73, 87] (by (try simp only [keep, lk, pd, enumE, Nat.reduceBEq, Nat.reduceAdd, cond_true, cond_false]); exact rfl) ?_
            refine at_inb ?_
            refine at_then ?_
            refine at_region ?_
            refine st_p rfl rfl (p_move rfl) ?_
            refine st_p rfl rfl (p_add rfl rfl (by first | exact nw64 (by omega) | exact nwu64 (by omega) | exact nwu8 (by omega) | exact nwu16 (by omega) | exact wu64 _ | exact wu8 _ | exact wi64 _ | rfl)) ?_
            refine st_p rfl rfl (p_assign rfl) ?_
            refine at_nil ?_
            refine at_ks [0, 1, 4, 5, 6, 7, 8, 9, 10, 11, 12, 18, 26, 28, 40, 60, 73, 87] (by (try simp only [keep, lk, pd, enumE, Nat.reduceBEq, Nat.reduceAdd, cond_true, cond_false]); exact rfl) ?_
            refine at_ks [0, 1, 4, 5, 6, 7, 8, 9] (by (try simp only [keep, lk, pd, enumE, Nat.reduceBEq, Nat.reduceAdd, cond_true, cond_false]); exact rfl) ?_
            refine at_dropAt 0 rfl rfl ?_
            refine at_perm (perm32 _ _ _ _ _ _) ?_
            refine at_back (k2 - 1) (by omega) ⟨j + 1, 2 * node + (dBit s x2 (m2.chance j node)).1.toNat, _, (dBit s x2 (m2.chance j node)).2.2, dv3, HM3, rfl, rfl, hM3, hmid2, by omega, by omega⟩
        · (try simp only [decide_eq_true_eq, decide_eq_false_iff_not, Bool.not_eq_true', Bool.not_eq_false', Bool.not_true, Bool.not_false, Bool.or_eq_true, Bool.and_eq_true, Int.not_lt, Int.not_le] at ht28)
          obtain rfl : j = 7 := by omega
          obtain ⟨hn0, hn1, hq⟩ := hmid.fin
          subst hq
          refine at_exit ?_
          refine at_then_x ?_
          refine at_then_x ?_
          refine at_inb_exit ?_
          refine at_then ?_
          refine at_seq ?_
          refine at_seq ?_
          refine at_region ?_
          refine st_p rfl rfl (p_move rfl) ?_
          refine st_p rfl rfl (p_sub rfl rfl (by first | exact nw64 (by omega) | exact nwu64 (by omega) | exact nwu8 (by omega) | exact nwu16 (by omega) | exact wu64 _ | exact wu8 _ | exact wi64 _ | rfl)) ?_
          refine st_p rfl rfl (p_geq rfl rfl) ?_
          refine at_nil ?_
          refine at_ks [0, 1, 4, 5, 6, 7, 8, 9, 10, 11, 12, 18, 26, 28, 40, 60, 73, 87] (by (try simp only [keep, lk, pd, enumE, Nat.reduceBEq, Nat.reduceAdd, cond_true, cond_false]); exact rfl) ?_
          refine at_then ?_
          refine at_cond rfl (fun ht60 => ?_) (fun ht60 => ?_)
          · (try simp only [decide_eq_true_eq, decide_eq_false_iff_not, Bool.not_eq_true', Bool.not_eq_false', Bool.not_true, Bool.not_false, Bool.or_eq_true, Bool.and_eq_true, Int.not_lt, Int.not_le] at ht60)
            rw [if_pos (show 65 ≤ node - 128 by omega)] at he
            simp only at he
            rw [if_neg (by decide)] at he
            simp only [Option.some.injEq] at he
            subst he
            refine at_seq ?_
            refine at_region ?_
            refine st_p rfl rfl (p_build (cs := #[.slice none 0 0, N 3]) rfl (fun _ => by kernel_rfl)) ?_
            refine st_l rfl rfl (l_obN (us := [.slice none 0 0, N 3]) 1 rfl rfl rfl (by simp [Value.oneCell']) s_34 (by simp)) ?_
            rintro _ _ ⟨rfl, rfl⟩
            refine at_hp (by (try simp only [List.take_zero, List.take_succ_cons, List.drop_zero, List.drop_succ_cons, List.drop_nil, List.length_cons, List.length_nil, Nat.zero_add, Nat.reduceAdd, List.set_cons_zero, List.set_cons_succ, List.nil_append, List.cons_append, List.append_nil, pick, List.filterMap_cons, List.filterMap_nil, List.getElem?_cons_zero, List.getElem?_cons_succ]); exact rfl) ?_
            refine at_nil ?_
            refine at_ks [0, 1, 4, 5, 6, 7, 8, 9, 10, 11, 12, 18, 26, 28, 40, 60, 73, 87] (by (try simp only [keep, lk, pd, enumE, Nat.reduceBEq, Nat.reduceAdd, cond_true, cond_false]); exact rfl) ?_
            refine at_then ?_
            refine at_retc ?_
            refine at_then_r ?_
            refine at_inb_r ?_
            refine at_then_r ?_
            refine at_inb_r ?_
            refine at_then_r ?_
            refine at_nilsl 54 2 ?_
            exact fin_cd 2 [0] (by decide) rfl rfl rfl r_34 s_34 ⟨_, rfl, rfl⟩
          · (try simp only [decide_eq_true_eq, decide_eq_false_iff_not, Bool.not_eq_true', Bool.not_eq_false', Bool.not_true, Bool.not_false, Bool.or_eq_true, Bool.and_eq_true, Int.not_lt, Int.not_le] at ht60)
            rw [if_neg (show ¬ 65 ≤ node - 128 by omega)] at he
            simp only [if_true] at he
            obtain ⟨hk9, he⟩ := (Option.ite_none_right_eq_some).1 he
            rw [show ((node - 128 : Nat) : Int) - 1 = (node : Int) - 129 by omega] at he
            refine at_skip ?_
            refine at_then ?_
            refine at_seq ?_
            refine at_region ?_
            refine st_p rfl rfl (p_move rfl) ?_
            refine st_p rfl rfl (p_move rfl) ?_
            refine st_p rfl rfl (p_sub (r := ((node - 128 : Nat) : Int)) rfl rfl ((nw64 (by omega)).trans (by omega))) ?_
            refine st_l rfl rfl (l_callP (first := []) (H1 := HM2) (H2 := [_, _, _, _, _]) (List.perm_append_comm (l₁ := [_, _, _, _, _])) rfl c_37 rfl (fun F1 hF1 hs1 => rcame_calls mb m2 HM2 (node - 128) F1 hM2)) ?_
            rintro _ _ ⟨HM3, ⟨rfl, hM3⟩, rfl⟩
            refine at_hp (by (try simp only [List.take_zero, List.take_succ_cons, List.drop_zero, List.drop_succ_cons, List.drop_nil, List.length_cons, List.length_nil, Nat.zero_add, Nat.reduceAdd, List.set_cons_zero, List.set_cons_succ, List.nil_append, List.cons_append, List.append_nil, pick, List.filterMap_cons, List.filterMap_nil, List.getElem?_cons_zero, List.getElem?_cons_succ]); exact rfl) ?_
            refine at_perm List.perm_append_comm ?_
            refine at_hp (by (try simp only [List.take_zero, List.take_succ_cons, List.drop_zero, List.drop_succ_cons, List.drop_nil, List.length_cons, List.length_nil, Nat.zero_add, Nat.reduceAdd, List.set_cons_zero, List.set_cons_succ, List.nil_append, List.cons_append, List.append_nil, pick, List.filterMap_cons, List.filterMap_nil, List.getElem?_cons_zero, List.getElem?_cons_succ]); exact rfl) ?_
            refine at_nil ?_
            refine at_ks [0, 1, 4, 5, 6, 7, 8, 9, 10, 11, 12, 18, 26, 28, 40, 60, 73, 87] (by (try simp only [keep, lk, pd, enumE, Nat.reduceBEq, Nat.reduceAdd, cond_true, cond_false]); exact rfl) ?_
            refine at_then ?_
            refine at_seq ?_
            refine at_region ?_
            refine st_p rfl rfl (p_move rfl) ?_
            refine st_p rfl rfl (p_move rfl) ?_
            refine st_p rfl rfl (p_sub rfl rfl (by first | exact nw64 (by omega) | exact nwu64 (by omega) | exact nwu8 (by omega) | exact nwu16 (by omega) | exact wu64 _ | exact wu8 _ | exact wi64 _ | rfl)) ?_
            refine st_p rfl rfl (p_max (r := mx 0 ((node : Int) - 129)) rfl rfl rfl) ?_
            refine st_l rfl rfl (l_callP (first := []) (H1 := readR rb cb dv2 s x2) (H2 := _ :: _ :: HM3) (perm23 _ _ _ _ _ _) rfl c_47 rfl (fun F1 hF1 hs1 => (by have := rdDirect_calls rb cb dv2 s x2 (mx 0 ((node : Int) - 129)) hmid.ho (by omega) F1; rw [dDir_mx] at this; exact this))) ?_
            rintro _ _ ⟨_, ⟨rfl, dv3, rfl⟩, rfl⟩
            unfold readR refH refR
            refine at_hp (by (try simp only [List.take_zero, List.take_succ_cons, List.drop_zero, List.drop_succ_cons, List.drop_nil, List.length_cons, List.length_nil, Nat.zero_add, Nat.reduceAdd, List.set_cons_zero, List.set_cons_succ, List.nil_append, List.cons_append, List.append_nil, pick, List.filterMap_cons, List.filterMap_nil, List.getElem?_cons_zero, List.getElem?_cons_succ]); exact rfl) ?_
            refine st_l rfl rfl (l_alloc _ y_90) ?_
            rintro _ _ ⟨b12, rfl, rfl⟩
            refine at_hp (by (try simp only [List.take_zero, List.take_succ_cons, List.drop_zero, List.drop_succ_cons, List.drop_nil, List.length_cons, List.length_nil, Nat.zero_add, Nat.reduceAdd, List.set_cons_zero, List.set_cons_succ, List.nil_append, List.cons_append, List.append_nil, pick, List.filterMap_cons, List.filterMap_nil, List.getElem?_cons_zero, List.getElem?_cons_succ]); exact rfl) ?_
            refine st_l rfl rfl (l_obN (us := [U (dDir s x2 ((node : Int) - 129)).1, N 0, N (dDir s x2 ((node : Int) - 129)).2.1]) 0 rfl rfl rfl (by simp [Value.oneCell']) s_90 (by simp)) ?_
            rintro _ _ ⟨rfl, rfl⟩
            refine at_hp (by (try simp only [List.take_zero, List.take_succ_cons, List.drop_zero, List.drop_succ_cons, List.drop_nil, List.length_cons, List.length_nil, Nat.zero_add, Nat.reduceAdd, List.set_cons_zero, List.set_cons_succ, List.nil_append, List.cons_append, List.append_nil, pick, List.filterMap_cons, List.filterMap_nil, List.getElem?_cons_zero, List.getElem?_cons_succ]); exact rfl) ?_
            refine at_nil ?_
            refine at_ks [0, 1, 4, 5, 6, 7, 8, 9, 10, 11, 12, 18, 26, 28, 40, 60, 73, 87] (by (try simp only [keep, lk, pd, enumE, Nat.reduceBEq, Nat.reduceAdd, cond_true, cond_false]); exact rfl) ?_
            refine at_then ?_
            refine at_seq ?_
            refine at_seq ?_
            refine at_region ?_
            refine st_p rfl rfl ((by first | exact p_fa0 rfl o_90_2 | exact p_fa rfl o_90_2)) ?_
            refine st_q rfl rfl ((by first | exact q_ob 0 rfl rfl r_3 (by first | rfl | assumption) | exact q_ob 1 rfl rfl r_3 (by first | rfl | assumption) | exact q_ob 2 rfl rfl r_3 (by first | rfl | assumption) | exact q_ob 3 rfl rfl r_3 (by first | rfl | assumption) | exact q_ob 4 rfl rfl r_3 (by first | rfl | assumption) | exact q_ob 5 rfl rfl r_3 (by first | rfl | assumption) | exact q_ob 6 rfl rfl r_3 (by first | rfl | assumption) | exact q_sl 0 rfl rfl r_3 (by first | rfl | assumption) | exact q_sl 1 rfl rfl r_3 (by first | rfl | assumption) | exact q_sl 2 rfl rfl r_3 (by first | rfl | assumption) | exact q_sl 3 rfl rfl r_3 (by first | rfl | assumption) | exact q_sl 4 rfl rfl r_3 (by first | rfl | assumption) | exact q_sl 5 rfl rfl r_3 (by first | rfl | assumption) | exact q_sl 6 rfl rfl r_3 (by first | rfl | assumption) | exact q_fr rfl r_3 (by assumption))) ?_
            refine st_p rfl rfl (p_neq rfl rfl) ?_
            refine at_nil ?_
            refine at_ks [0, 1, 4, 5, 6, 7, 8, 9, 10, 11, 12, 18, 26, 28, 40, 60, 73, 87] (by (try simp only [keep, lk, pd, enumE, Nat.reduceBEq, Nat.reduceAdd, cond_true, cond_false]); exact rfl) ?_
            refine at_then ?_
            refine at_cond rfl (fun ht73 => ?_) (fun ht73 => ?_)
            · (try simp only [decide_eq_true_eq, decide_eq_false_iff_not, Bool.not_eq_true', Bool.not_eq_false', Bool.not_true, Bool.not_false, Bool.or_eq_true, Bool.and_eq_true, Int.not_lt, Int.not_le] at ht73)
              rw [if_neg ht73] at he
              simp only [Option.some.injEq] at he
              subst he
              refine at_seq ?_
              refine at_region ?_
              refine st_p rfl rfl ((by first | exact p_fa0 rfl o_90_2 | exact p_fa rfl o_90_2)) ?_
              refine st_q rfl rfl ((by first | exact q_ob 0 rfl rfl r_3 (by first | rfl | assumption) | exact q_ob 1 rfl rfl r_3 (by first | rfl | assumption) | exact q_ob 2 rfl rfl r_3 (by first | rfl | assumption) | exact q_ob 3 rfl rfl r_3 (by first | rfl | assumption) | exact q_ob 4 rfl rfl r_3 (by first | rfl | assumption) | exact q_ob 5 rfl rfl r_3 (by first | rfl | assumption) | exact q_ob 6 rfl rfl r_3 (by first | rfl | assumption) | exact q_sl 0 rfl rfl r_3 (by first | rfl | assumption) | exact q_sl 1 rfl rfl r_3 (by first | rfl | assumption) | exact q_sl 2 rfl rfl r_3 (by first | rfl | assumption) | exact q_sl 3 rfl rfl r_3 (by first | rfl | assumption) | exact q_sl 4 rfl rfl r_3 (by first | rfl | assumption) | exact q_sl 5 rfl rfl r_3 (by first | rfl | assumption) | exact q_sl 6 rfl rfl r_3 (by first | rfl | assumption) | exact q_fr rfl r_3 (by assumption))) ?_
              refine st_p rfl rfl (p_build (cs := #[.slice none 0 0, N (dDir s x2 ((node : Int) - 129)).2.1]) rfl (fun _ => by kernel_rfl)) ?_
              refine st_l rfl rfl (l_obN (us := [.slice none 0 0, N (dDir s x2 ((node : Int) - 129)).2.1]) 5 rfl rfl rfl (by simp [Value.oneCell']) s_34 (by simp)) ?_
              rintro _ _ ⟨rfl, rfl⟩
              refine at_hp (by (try simp only [List.take_zero, List.take_succ_cons, List.drop_zero, List.drop_succ_cons, List.drop_nil, List.length_cons, List.length_nil, Nat.zero_add, Nat.reduceAdd, List.set_cons_zero, List.set_cons_succ, List.nil_append, List.cons_append, List.append_nil, pick, List.filterMap_cons, List.filterMap_nil, List.getElem?_cons_zero, List.getElem?_cons_succ]); exact rfl) ?_
              refine at_nil ?_
              refine at_ks [0, 1, 4, 5, 6, 7, 8, 9, 10, 11, 12, 18, 26, 28, 40, 60, 73, 87] (by (try simp only [keep, lk, pd, enumE, Nat.reduceBEq, Nat.reduceAdd, cond_true, cond_false]); exact rfl) ?_
              refine at_then ?_
              refine at_retc ?_
              refine at_then_r ?_
              refine at_inb_r ?_
              refine at_then_r ?_
              refine at_inb_r ?_
              refine at_then_r ?_
              refine at_nilsl 54 2 ?_
              exact fin_cd 6 [0] (by decide) rfl rfl rfl r_34 s_34 ⟨_, rfl, rfl⟩
            · (try simp only [decide_eq_true_eq, decide_eq_false_iff_not, Bool.not_eq_true', Bool.not_eq_false', Bool.not_true, Bool.not_false, Bool.or_eq_true, Bool.and_eq_true, Int.not_lt, Int.not_le] at ht73)
              rw [if_pos ht73] at he
              refine at_skip ?_
              refine at_then ?_
              refine at_region ?_
              refine st_p rfl rfl (p_move rfl) ?_
              refine st_p rfl rfl (p_move rfl) ?_
              refine st_p rfl rfl (p_sub (r := ((node - 128 : Nat) : Int)) rfl rfl ((nw64 (by omega)).trans (by omega))) ?_
              refine st_p rfl rfl ((by first | exact p_fa0 rfl o_90_0 | exact p_fa rfl o_90_0)) ?_
              refine st_q rfl rfl ((by first | exact q_ob 0 rfl rfl r_52 (by first | rfl | assumption) | exact q_ob 1 rfl rfl r_52 (by first | rfl | assumption) | exact q_ob 2 rfl rfl r_52 (by first | rfl | assumption) | exact q_ob 3 rfl rfl r_52 (by first | rfl | assumption) | exact q_ob 4 rfl rfl r_52 (by first | rfl | assumption) | exact q_ob 5 rfl rfl r_52 (by first | rfl | assumption) | exact q_ob 6 rfl rfl r_52 (by first | rfl | assumption) | exact q_sl 0 rfl rfl r_52 (by first | rfl | assumption) | exact q_sl 1 rfl rfl r_52 (by first | rfl | assumption) | exact q_sl 2 rfl rfl r_52 (by first | rfl | assumption) | exact q_sl 3 rfl rfl r_52 (by first | rfl | assumption) | exact q_sl 4 rfl rfl r_52 (by first | rfl | assumption) | exact q_sl 5 rfl rfl r_52 (by first | rfl | assumption) | exact q_sl 6 rfl rfl r_52 (by first | rfl | assumption) | exact q_fr rfl r_52 (by assumption))) ?_
              refine st_p rfl rfl (p_build (cs := #[N ((node - 128 : Nat) : Int), U (dDir s x2 ((node : Int) - 129)).1]) rfl (fun _ => by kernel_rfl)) ?_
              refine st_l rfl rfl (l_bsV [.agg #[N ((node - 128 : Nat) : Int), U (dDir s x2 ((node : Int) - 129)).1]] [N ((node - 128 : Nat) : Int), U (dDir s x2 ((node : Int) - 129)).1] rfl e_23 (by decide) (by decide) rfl (by simp [Value.cells]) (by simp [Value.cells])) ?_
              rintro _ _ ⟨b83, rfl, rfl⟩
              refine at_hp (by (try simp only [List.take_zero, List.take_succ_cons, List.drop_zero, List.drop_succ_cons, List.drop_nil, List.length_cons, List.length_nil, Nat.zero_add, Nat.reduceAdd, List.set_cons_zero, List.set_cons_succ, List.nil_append, List.cons_append, List.append_nil, pick, List.filterMap_cons, List.filterMap_nil, List.getElem?_cons_zero, List.getElem?_cons_succ]); exact rfl) ?_
              refine st_l rfl rfl (l_app 5 0 rfl rfl e_23 rfl (by decide) rfl rfl rfl (by simp [Value.oneCell']) (by decide) (by omega) (by decide)) ?_
              rintro _ _ ⟨g84, c84, rfl, rfl⟩
              refine at_hp (by (try simp only [List.take_zero, List.take_succ_cons, List.drop_zero, List.drop_succ_cons, List.drop_nil, List.length_cons, List.length_nil, Nat.zero_add, Nat.reduceAdd, List.set_cons_zero, List.set_cons_succ, List.nil_append, List.cons_append, List.append_nil, pick, List.filterMap_cons, List.filterMap_nil, List.getElem?_cons_zero, List.getElem?_cons_succ]); exact rfl) ?_
              refine at_drop ?_
              refine st_p rfl rfl (p_assign rfl) ?_
              refine at_nil ?_
              refine at_ks [0, 1, 4, 5, 6, 7, 8, 9, 10, 11, 12, 18, 26, 28, 40, 60, 73, 87] (by (try simp only [keep, lk, pd, enumE, Nat.reduceBEq, Nat.reduceAdd, cond_true, cond_false]); exact rfl) ?_
              refine at_inb ?_
              refine at_ks [0, 1, 4, 5, 6, 7] (by (try simp only [keep, lk, pd, enumE, Nat.reduceBEq, Nat.reduceAdd, cond_true, cond_false]); exact rfl) ?_
              refine at_dropAt 0 rfl rfl ?_
              refine at_perm (perm32 _ _ _ _ _ _) ?_
              refine at_back (k + 1) (by omega) ⟨acc ++ [(((node - 128 : Nat) : Int), (dDir s x2 ((node : Int) - 129)).1)], m2.came (node - 128), (dDir s x2 ((node : Int) - 129)).2.2, _, dv3, HM3, rfl, ?_, hM3, hmid.ok.came (by omega), dDir_ok _ _ _ hmid.ho, by simp; omega, by omega, he⟩
              rw [pcells_snoc, List.length_append]; rfl
      · (try simp only [decide_eq_true_eq, decide_eq_false_iff_not, Bool.not_eq_true', Bool.not_eq_false', Bool.not_true, Bool.not_false, Bool.or_eq_true, Bool.and_eq_true, Int.not_lt, Int.not_le] at ht26)
        obtain rfl : k = 1 := by omega
        rw [getGo] at he
        obtain ⟨hk9, he⟩ := (Option.ite_none_right_eq_some).1 he
        refine at_exit ?_
        refine at_then_x ?_
        refine at_then_x ?_
        refine at_inb_exit ?_
        refine at_then ?_
        refine at_seq ?_
        refine at_seq ?_
        refine at_region ?_
        refine st_p rfl rfl (p_move rfl) ?_
        refine st_l rfl rfl (l_callP (first := []) (H1 := readR rb cb dv1 s x1) (H2 := _ :: _ :: HM1) (perm23 _ _ _ _ _ _) rfl c_48 rfl (fun F1 hF1 hs1 => rdEnd_calls rb cb dv1 s x1 ho1 (by omega) F1)) ?_
        rintro _ _ ⟨_, ⟨rfl, rfl⟩, rfl⟩
        refine at_hp (by (try simp only [List.take_zero, List.take_succ_cons, List.drop_zero, List.drop_succ_cons, List.drop_nil, List.length_cons, List.length_nil, Nat.zero_add, Nat.reduceAdd, List.set_cons_zero, List.set_cons_succ, List.nil_append, List.cons_append, List.append_nil, pick, List.filterMap_cons, List.filterMap_nil, List.getElem?_cons_zero, List.getElem?_cons_succ]); exact rfl) ?_
        refine st_p rfl rfl (p_neq rfl rfl) ?_
        refine at_nil ?_
        refine at_ks [0, 1, 4, 5, 6, 7, 8, 9, 10, 11, 12, 18, 26, 28, 40, 60, 73, 87] (by (try simp only [keep, lk, pd, enumE, Nat.reduceBEq, Nat.reduceAdd, cond_true, cond_false]); exact rfl) ?_
        refine at_then ?_
        refine at_cond rfl (fun ht87 => ?_) (fun ht87 => ?_)
        · (try simp only [decide_eq_true_eq, decide_eq_false_iff_not, Bool.not_eq_true', Bool.not_eq_false', Bool.not_true, Bool.not_false, Bool.or_eq_true, Bool.and_eq_true, Int.not_lt, Int.not_le] at ht87)
          rw [if_neg ht87] at he
          simp only [Option.some.injEq] at he
          subst he
          refine at_seq ?_
          refine at_region ?_
          refine st_p rfl rfl (p_build (cs := #[.slice none 0 0, N 3]) rfl (fun _ => by kernel_rfl)) ?_
          refine st_l rfl rfl (l_obN (us := [.slice none 0 0, N 3]) 1 rfl rfl rfl (by simp [Value.oneCell']) s_34 (by simp)) ?_
          rintro _ _ ⟨rfl, rfl⟩
          refine at_hp (by (try simp only [List.take_zero, List.take_succ_cons, List.drop_zero, List.drop_succ_cons, List.drop_nil, List.length_cons, List.length_nil, Nat.zero_add, Nat.reduceAdd, List.set_cons_zero, List.set_cons_succ, List.nil_append, List.cons_append, List.append_nil, pick, List.filterMap_cons, List.filterMap_nil, List.getElem?_cons_zero, List.getElem?_cons_succ]); exact rfl) ?_
          refine at_nil ?_
          refine at_ks [0, 1, 4, 5, 6, 7, 8, 9, 10, 11, 12, 18, 26, 28, 40, 60, 73, 87] (by (try simp only [keep, lk, pd, enumE, Nat.reduceBEq, Nat.reduceAdd, cond_true, cond_false]); exact rfl) ?_
          refine at_then ?_
          refine at_retc ?_
          refine at_then_r ?_
          refine at_nilsl 54 2 ?_
          exact fin_cd 2 [0] (by decide) rfl rfl rfl r_34 s_34 ⟨_, rfl, rfl⟩
        · (try simp only [decide_eq_true_eq, decide_eq_false_iff_not, Bool.not_eq_true', Bool.not_eq_false', Bool.not_true, Bool.not_false, Bool.or_eq_true, Bool.and_eq_true, Int.not_lt, Int.not_le] at ht87)
          rw [if_pos ht87] at he
          simp only [Option.some.injEq] at he
          subst he
          refine at_skip ?_
          refine at_then ?_
          refine at_seq ?_
          refine at_region ?_
          refine st_p rfl rfl (p_move rfl) ?_
          refine st_p rfl rfl (p_build (cs := #[.slice Av acc.length cv, N 0]) rfl (fun _ => by kernel_rfl)) ?_
          refine st_l rfl rfl (l_obN (us := [.slice Av acc.length cv, N 0]) 1 rfl rfl rfl (by simp [Value.oneCell']) s_34 (by simp)) ?_
          rintro _ _ ⟨rfl, rfl⟩
          refine at_hp (by (try simp only [List.take_zero, List.take_succ_cons, List.drop_zero, List.drop_succ_cons, List.drop_nil, List.length_cons, List.length_nil, Nat.zero_add, Nat.reduceAdd, List.set_cons_zero, List.set_cons_succ, List.nil_append, List.cons_append, List.append_nil, pick, List.filterMap_cons, List.filterMap_nil, List.getElem?_cons_zero, List.getElem?_cons_succ]); exact rfl) ?_
          refine at_nil ?_
          refine at_ks [0, 1, 4, 5, 6, 7, 8, 9, 10, 11, 12, 18, 26, 28, 40, 60, 73, 87] (by (try simp only [keep, lk, pd, enumE, Nat.reduceBEq, Nat.reduceAdd, cond_true, cond_false]); exact rfl) ?_
          refine at_then ?_
          refine at_retc ?_
          exact fin_cd 1 [0] (by decide) rfl rfl rfl r_34 s_34 ⟨_, rfl, rfl⟩

end Go.Proofs.Ytbpbhjnkmonlbaa