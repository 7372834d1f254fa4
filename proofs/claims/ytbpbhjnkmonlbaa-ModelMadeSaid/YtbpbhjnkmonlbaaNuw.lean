/- Numbers by numbers, and their parts: walks. No condition. -/
import Derived.Test.YtbpbhjnkmonlbaaNu
namespace Go.Proofs.Ytbpbhjnkmonlbaa
open Go.RowKit Sl
set_option linter.unusedVariables false
set_option linter.unusedSimpArgs false
set_option maxRecDepth 10000
theorem takeP_next {l m : List (Int × Int)} {i : Nat} {x : Int × Int} (h : l.take i = m.take i) (hl : l[i]? = some x) (hm : m[i]? = some x) : l.take (i + 1) = m.take (i + 1) := by
  rw [List.take_add_one, List.take_add_one, h, hl, hm]
theorem shlI {m i : Int} (h : i ≤ 64) (h0 : 0 ≤ i) : IntKind.i64.wrap (m * 2 ^ min i.toNat IntKind.i64.bits) = IntKind.i64.wrap (m * 2 ^ i.toNat) := by
  rw [show min i.toNat IntKind.i64.bits = i.toNat from by simp [IntKind.bits]; omega]

theorem sameParts_calls (A B : Option Addr) (n m ca cb : Nat) (xs ys : List (Int × Int)) (F : Frm) (hn : xs.length = n) (hm : ys.length = m) (h6 : n ≤ 1000000000000) (hx : FV F A (pcells xs)) (hy : FV F B (pcells ys)) :
    SC Try.prog 19 #[.slice A n ca, .slice B m cb] [] F (fun u H => u = .bool (decide (xs = ys)) ∧ H = []) := by
  refine sc_in (args := [.slice A n ca, .slice B m cb]) Try.func19 rfl rfl (Nat.le_of_ble_eq_true rfl) ?_
  refine at_ks [0, 1, 4, 5, 10, 14, 25] (by (try simp only [keep, lk, pd, enumE, Nat.reduceBEq, Nat.reduceAdd, cond_true, cond_false]); exact rfl) ?_
  refine at_seq ?_
  refine at_region ?_
  refine st_p rfl rfl (p_assign rfl) ?_
  refine at_nil ?_
  refine at_ks [0, 1, 4, 5, 10, 14, 25] (by (try simp only [keep, lk, pd, enumE, Nat.reduceBEq, Nat.reduceAdd, cond_true, cond_false]); exact rfl) ?_
  refine at_then ?_
  refine at_seq ?_
  refine at_seq ?_
  refine at_region ?_
  refine st_p rfl rfl (p_move rfl) ?_
  refine st_p rfl rfl (p_len rfl m_23) ?_
  refine st_p rfl rfl (p_move rfl) ?_
  refine st_p rfl rfl (p_len rfl m_23) ?_
  refine st_p rfl rfl (p_neq rfl rfl) ?_
  refine at_nil ?_
  refine at_ks [0, 1, 4, 5, 10, 14, 25] (by (try simp only [keep, lk, pd, enumE, Nat.reduceBEq, Nat.reduceAdd, cond_true, cond_false]); exact rfl) ?_
  refine at_then ?_
  refine at_cond rfl (fun ht10 => ?_) (fun ht10 => ?_)
  · (try simp only [decide_eq_true_eq, decide_eq_false_iff_not, Bool.not_eq_true', Bool.not_eq_false', Bool.not_true, Bool.not_false, Bool.or_eq_true, Bool.and_eq_true, Int.not_lt, Int.not_le] at ht10)
    refine at_seq ?_
    refine at_region ?_
    refine st_p rfl rfl (p_assign rfl) ?_
    refine at_nil ?_
    refine at_ks [0, 1, 4, 5, 10, 14, 25] (by (try simp only [keep, lk, pd, enumE, Nat.reduceBEq, Nat.reduceAdd, cond_true, cond_false]); exact rfl) ?_
    refine at_then ?_
    refine at_retc ?_
    refine at_then_r ?_
    exact fin_1 rfl rfl (by
        exact ⟨congrArg Value.bool (decide_eq_false (fun h => by rw [h] at hn; omega)).symm, rfl⟩)
  · (try simp only [decide_eq_true_eq, decide_eq_false_iff_not, Bool.not_eq_true', Bool.not_eq_false', Bool.not_true, Bool.not_false, Bool.or_eq_true, Bool.and_eq_true, Int.not_lt, Int.not_le] at ht10)
    have hnm : n = m := by omega
    refine at_skip ?_
    refine at_then ?_
    refine at_seq ?_
    refine at_seq ?_
    refine at_region ?_
    refine st_p rfl rfl (p_assign rfl) ?_
    refine at_nil ?_
    refine at_ks [0, 1, 4, 5, 10, 14, 25] (by (try simp only [keep, lk, pd, enumE, Nat.reduceBEq, Nat.reduceAdd, cond_true, cond_false]); exact rfl) ?_
    refine at_then ?_
    refine at_block ?_
    refine at_ks [0, 1, 5] (by (try simp only [keep, lk, pd, enumE, Nat.reduceBEq, Nat.reduceAdd, cond_true, cond_false]); exact rfl) ?_
    refine at_loop (fun k E H => ∃ i : Nat, E = [(0, .slice A n ca), (1, .slice B m cb), (5, N (i : Int))] ∧ H = [] ∧ i ≤ n ∧ k + i = n + 1 ∧ xs.take i = ys.take i) (n + 1) (⟨0, rfl, rfl, by omega, by omega, rfl⟩) ?_
    rintro k _ _ ⟨i, rfl, rfl, hi, hk, he⟩
    refine at_seq ?_
    refine at_seq ?_
    refine at_region ?_
    refine st_p rfl rfl (p_move rfl) ?_
    refine st_p rfl rfl (p_move rfl) ?_
    refine st_p rfl rfl (p_len rfl m_23) ?_
    refine st_p rfl rfl (p_lss rfl rfl) ?_
    refine at_nil ?_
    refine at_ks [0, 1, 4, 5, 10, 14, 25] (by (try simp only [keep, lk, pd, enumE, Nat.reduceBEq, Nat.reduceAdd, cond_true, cond_false]); exact rfl) ?_
    refine at_then ?_
    refine at_cond rfl (fun ht14 => ?_) (fun ht14 => ?_)
    · (try simp only [decide_eq_true_eq, decide_eq_false_iff_not, Bool.not_eq_true', Bool.not_eq_false', Bool.not_true, Bool.not_false, Bool.or_eq_true, Bool.and_eq_true, Int.not_lt, Int.not_le] at ht14)
      obtain ⟨⟨a, b⟩, hia⟩ : ∃ q, xs[i]? = some q := ⟨_, List.getElem?_eq_getElem (by omega)⟩
      obtain ⟨⟨c, d⟩, hib⟩ : ∃ q, ys[i]? = some q := ⟨_, List.getElem?_eq_getElem (by omega)⟩
      obtain ⟨ba, oa, rfl, hga⟩ := Go.Proofs.Ytbpbhjnkmonlbaa.FV.part hx hia
      obtain ⟨bb, ob, rfl, hgb⟩ := Go.Proofs.Ytbpbhjnkmonlbaa.FV.part hy hib
      refine at_skip ?_
      refine at_then ?_
      refine at_seq ?_
      refine at_block ?_
      refine at_seq ?_
      refine at_drawH [0, 1, 2, 3, 4, 5, 6, 7, 8] [0, 0, 3, 7, 0, 0, 48, 112, 255] [3, 7] [] mixd (by kernel_rfl) ?_
      refine rd_p rfl rfl rfl rfl rfl (p_move rfl) ?_
      refine rd_p rfl rfl rfl rfl rfl (p_move rfl) ?_
      refine rd_p rfl rfl rfl rfl rfl ((by first | exact p_ia1 rfl rfl z_23 (by first | decide | omega) (by first | decide | omega) | exact p_iaN rfl rfl z_23 (by first | decide | omega) (by first | decide | omega) | exact p_iaO1 rfl rfl z_23 (by first | decide | omega) (by first | decide | omega) | exact p_iaO rfl rfl z_23 (by first | decide | omega) (by first | decide | omega))) ?_
      refine rd_q rfl rfl rfl rfl rfl (q_frN (us := [N a, U b]) rfl r_54 s_54 rfl hga) (fun _ h => h) ?_
      refine rd_p rfl rfl rfl rfl rfl (p_move rfl) ?_
      refine rd_p rfl rfl rfl rfl rfl (p_move rfl) ?_
      refine rd_p rfl rfl rfl rfl rfl ((by first | exact p_ia1 rfl rfl z_23 (by first | decide | omega) (by first | decide | omega) | exact p_iaN rfl rfl z_23 (by first | decide | omega) (by first | decide | omega) | exact p_iaO1 rfl rfl z_23 (by first | decide | omega) (by first | decide | omega) | exact p_iaO rfl rfl z_23 (by first | decide | omega) (by first | decide | omega))) ?_
      refine rd_q rfl rfl rfl rfl rfl (q_frN (us := [N c, U d]) rfl r_54 s_54 rfl hgb) (fun _ h => h) ?_
      refine rd_p rfl rfl rfl rfl rfl (p_neP rfl rfl pB Try.underlying3 Try.underlying52) ?_
      refine rd_nil ?_
      refine at_ks [0, 1, 4, 5, 10, 14, 25] (by (try simp only [keep, lk, pd, enumE, Nat.reduceBEq, Nat.reduceAdd, cond_true, cond_false]); exact rfl) ?_
      refine at_then ?_
      refine at_cond rfl (fun ht25 => ?_) (fun ht25 => ?_)
      · (try simp only [decide_eq_true_eq, decide_eq_false_iff_not, Bool.not_eq_true', Bool.not_eq_false', Bool.not_true, Bool.not_false, Bool.or_eq_true, Bool.and_eq_true, Int.not_lt, Int.not_le] at ht25)
        refine at_seq ?_
        refine at_region ?_
        refine st_p rfl rfl (p_assign rfl) ?_
        refine at_nil ?_
        refine at_ks [0, 1, 4, 5, 10, 14, 25] (by (try simp only [keep, lk, pd, enumE, Nat.reduceBEq, Nat.reduceAdd, cond_true, cond_false]); exact rfl) ?_
        refine at_then ?_
        refine at_retc ?_
        refine at_inb_r ?_
        refine at_then_r ?_
        refine at_then_r ?_
        refine at_inb_r ?_
        refine at_then_r ?_
        exact fin_1 rfl rfl (by
            exact ⟨congrArg Value.bool (decide_eq_false (fun h => by rw [h, hib] at hia; simp only [Option.some.injEq, Prod.mk.injEq] at hia; simp [hia.1, hia.2] at ht25)).symm, rfl⟩)
      · (try simp only [decide_eq_true_eq, decide_eq_false_iff_not, Bool.not_eq_true', Bool.not_eq_false', Bool.not_true, Bool.not_false, Bool.or_eq_true, Bool.and_eq_true, Int.not_lt, Int.not_le] at ht25)
        refine at_skip ?_
        refine at_inb ?_
        refine at_then ?_
        refine at_region ?_
        refine st_p rfl rfl (p_move rfl) ?_
        refine st_p rfl rfl (p_add rfl rfl (by first | exact nw64 (by omega) | exact nwu64 (by omega) | exact nwu8 (by omega) | exact nwu16 (by omega) | exact wu64 _ | exact wu8 _ | exact wi64 _ | rfl)) ?_
        refine st_p rfl rfl (p_assign rfl) ?_
        refine at_nil ?_
        refine at_ks [0, 1, 4, 5, 10, 14, 25] (by (try simp only [keep, lk, pd, enumE, Nat.reduceBEq, Nat.reduceAdd, cond_true, cond_false]); exact rfl) ?_
        refine at_ks [0, 1, 5] (by (try simp only [keep, lk, pd, enumE, Nat.reduceBEq, Nat.reduceAdd, cond_true, cond_false]); exact rfl) ?_
        obtain ⟨rfl, rfl⟩ : a = c ∧ b = d := by simpa using ht25
        refine at_back (k - 1) (by omega) ⟨i + 1, rfl, rfl, by omega, by omega, takeP_next he hia hib⟩
    · (try simp only [decide_eq_true_eq, decide_eq_false_iff_not, Bool.not_eq_true', Bool.not_eq_false', Bool.not_true, Bool.not_false, Bool.or_eq_true, Bool.and_eq_true, Int.not_lt, Int.not_le] at ht14)
      obtain rfl : n = i := by omega
      rw [List.take_of_length_le (by omega), List.take_of_length_le (by omega)] at he
      refine at_exit ?_
      refine at_then_x ?_
      refine at_then_x ?_
      refine at_inb_exit ?_
      refine at_then ?_
      refine at_seq ?_
      refine at_region ?_
      refine st_p rfl rfl (p_assign rfl) ?_
      refine at_nil ?_
      refine at_ks [0, 1, 4, 5, 10, 14, 25] (by (try simp only [keep, lk, pd, enumE, Nat.reduceBEq, Nat.reduceAdd, cond_true, cond_false]); exact rfl) ?_
      refine at_then ?_
      refine at_retc ?_
      exact fin_1 rfl rfl (by
          exact ⟨congrArg Value.bool (decide_eq_true he).symm, rfl⟩)

theorem split_calls (v : Int) (F : Frm) (h0 : -9223372036854775808 ≤ v) (h1 : v ≤ 9223372036854775807) : SC Try.prog 50 #[N v] [] F (fun u H => u = .agg #[N (splitv v).1, U (splitv v).2] ∧ H = []) := by
  have hm := mapv_in h0 h1
  have hb := bl_in 64 (mapv v) hm.1 hm.2
  have hsp : splitv v = if lenv (mapv v) = 0 then (0, 0) else (lenv (mapv v), mapv v - 2 ^ (lenv (mapv v) - 1).toNat) := rfl
  refine sc_in (args := [N v]) Try.func50 rfl rfl (Nat.le_of_ble_eq_true rfl) ?_
  refine at_ks [0, 2, 3, 4, 10] (by (try simp only [keep, lk, pd, enumE, Nat.reduceBEq, Nat.reduceAdd, cond_true, cond_false]); exact rfl) ?_
  refine at_seq ?_
  refine at_region ?_
  refine st_l rfl rfl (l_alloc [N 0, U 0] y_54) ?_
  rintro _ _ ⟨b2, rfl, rfl⟩
  refine at_hp (by (try simp only [List.take_zero, List.take_succ_cons, List.drop_zero, List.drop_succ_cons, List.drop_nil, List.length_cons, List.length_nil, Nat.zero_add, Nat.reduceAdd, List.set_cons_zero, List.set_cons_succ, List.nil_append, List.cons_append, List.append_nil, pick, List.filterMap_cons, List.filterMap_nil, List.getElem?_cons_zero, List.getElem?_cons_succ]); exact rfl) ?_
  refine at_nil ?_
  refine at_ks [0, 2, 3, 4, 10] (by (try simp only [keep, lk, pd, enumE, Nat.reduceBEq, Nat.reduceAdd, cond_true, cond_false]); exact rfl) ?_
  refine at_then ?_
  refine at_seq ?_
  refine at_region ?_
  refine st_p rfl rfl (p_move rfl) ?_
  refine st_q rfl rfl (q_call (first := []) rfl c_71 rfl (fun F1 hF1 hs1 => map_calls v F1 h0 h1)) ?_
  refine st_p rfl rfl (p_assign rfl) ?_
  refine at_nil ?_
  refine at_ks [0, 2, 3, 4, 10] (by (try simp only [keep, lk, pd, enumE, Nat.reduceBEq, Nat.reduceAdd, cond_true, cond_false]); exact rfl) ?_
  refine at_then ?_
  refine at_seq ?_
  refine at_region ?_
  refine st_p rfl rfl (p_move rfl) ?_
  refine st_q rfl rfl (q_call (first := []) rfl c_72 rfl (fun F1 hF1 hs1 => length_calls _ F1 hm.1 hm.2)) ?_
  refine st_p rfl rfl (p_assign rfl) ?_
  refine at_nil ?_
  refine at_ks [0, 2, 3, 4, 10] (by (try simp only [keep, lk, pd, enumE, Nat.reduceBEq, Nat.reduceAdd, cond_true, cond_false]); exact rfl) ?_
  refine at_then ?_
  refine at_seq ?_
  refine at_seq ?_
  refine at_region ?_
  refine st_p rfl rfl (p_move rfl) ?_
  refine st_p rfl rfl (p_eql rfl rfl) ?_
  refine at_nil ?_
  refine at_ks [0, 2, 3, 4, 10] (by (try simp only [keep, lk, pd, enumE, Nat.reduceBEq, Nat.reduceAdd, cond_true, cond_false]); exact rfl) ?_
  refine at_then ?_
  refine at_cond rfl (fun ht10 => ?_) (fun ht10 => ?_)
  · (try simp only [decide_eq_true_eq, decide_eq_false_iff_not, Bool.not_eq_true', Bool.not_eq_false', Bool.not_true, Bool.not_false, Bool.or_eq_true, Bool.and_eq_true, Int.not_lt, Int.not_le] at ht10)
    rw [if_pos ht10] at hsp
    refine at_seq ?_
    refine at_region ?_
    refine st_p rfl rfl (p_build (vs := []) (cs := #[N 0, U 0]) rfl (fun _ => by kernel_rfl)) ?_
    refine st_l rfl rfl (l_obN (us := [N 0, U 0]) 0 rfl rfl rfl (by simp [Value.oneCell']) s_54 (by simp)) ?_
    rintro _ _ ⟨rfl, rfl⟩
    refine at_hp (by (try simp only [List.take_zero, List.take_succ_cons, List.drop_zero, List.drop_succ_cons, List.drop_nil, List.length_cons, List.length_nil, Nat.zero_add, Nat.reduceAdd, List.set_cons_zero, List.set_cons_succ, List.nil_append, List.cons_append, List.append_nil, pick, List.filterMap_cons, List.filterMap_nil, List.getElem?_cons_zero, List.getElem?_cons_succ]); exact rfl) ?_
    refine at_nil ?_
    refine at_ks [0, 2, 3, 4, 10] (by (try simp only [keep, lk, pd, enumE, Nat.reduceBEq, Nat.reduceAdd, cond_true, cond_false]); exact rfl) ?_
    refine at_then ?_
    refine at_retc ?_
    refine at_then_r ?_
    exact fin_cd 0 [] (by decide) rfl rfl rfl r_54 s_54 ⟨by rw [hsp], rfl⟩
  · (try simp only [decide_eq_true_eq, decide_eq_false_iff_not, Bool.not_eq_true', Bool.not_eq_false', Bool.not_true, Bool.not_false, Bool.or_eq_true, Bool.and_eq_true, Int.not_lt, Int.not_le] at ht10)
    rw [if_neg ht10] at hsp
    have h2 : 0 < mapv v := by
      rcases Int.lt_or_eq_of_le hm.1 with h | h
      · exact h
      · exact absurd (by rw [← h]; rfl) ht10
    obtain ⟨h3, h4, h5⟩ := hb.2.2 h2
    have h6 : bl 64 (mapv v) = lenv (mapv v) := rfl
    rw [h6] at h3 h4 h5 hb
    have h7 := (pow_in (n := (lenv (mapv v) - 1).toNat) (by omega)).1
    refine at_skip ?_
    refine at_then ?_
    refine at_seq ?_
    refine at_region ?_
    refine st_p rfl rfl (p_move rfl) ?_
    refine st_p rfl rfl (p_move rfl) ?_
    refine st_p rfl rfl (p_move rfl) ?_
    refine st_p rfl rfl (p_sub rfl rfl (by first | exact nw64 (by omega) | exact nwu64 (by omega) | exact nwu8 (by omega) | exact nwu16 (by omega) | exact wu64 _ | exact wu8 _ | exact wi64 _ | rfl)) ?_
    refine st_p rfl rfl (p_shl (r := 2 ^ (lenv (mapv v) - 1).toNat) rfl rfl (by omega) (shlU (by omega) (by omega))) ?_
    refine st_p rfl rfl (p_sub rfl rfl (by first | exact nw64 (by omega) | exact nwu64 (by omega) | exact nwu8 (by omega) | exact nwu16 (by omega) | exact wu64 _ | exact wu8 _ | exact wi64 _ | rfl)) ?_
    refine st_p rfl rfl (p_build (cs := #[N (lenv (mapv v)), U (mapv v - 2 ^ (lenv (mapv v) - 1).toNat)]) rfl (fun _ => by kernel_rfl)) ?_
    refine st_l rfl rfl (l_obN (us := [N (lenv (mapv v)), U (mapv v - 2 ^ (lenv (mapv v) - 1).toNat)]) 0 rfl rfl rfl (by simp [Value.oneCell']) s_54 (by simp)) ?_
    rintro _ _ ⟨rfl, rfl⟩
    refine at_hp (by (try simp only [List.take_zero, List.take_succ_cons, List.drop_zero, List.drop_succ_cons, List.drop_nil, List.length_cons, List.length_nil, Nat.zero_add, Nat.reduceAdd, List.set_cons_zero, List.set_cons_succ, List.nil_append, List.cons_append, List.append_nil, pick, List.filterMap_cons, List.filterMap_nil, List.getElem?_cons_zero, List.getElem?_cons_succ]); exact rfl) ?_
    refine at_nil ?_
    refine at_ks [0, 2, 3, 4, 10] (by (try simp only [keep, lk, pd, enumE, Nat.reduceBEq, Nat.reduceAdd, cond_true, cond_false]); exact rfl) ?_
    refine at_then ?_
    refine at_retc ?_
    exact fin_cd 0 [] (by decide) rfl rfl rfl r_54 s_54 ⟨by rw [hsp], rfl⟩

theorem parts_calls (A : Option Addr) (n ca : Nat) (xs : List Int) (F : Frm) (hn : xs.length = n) (h6 : n ≤ 1000000000) (h0 : ∀ x ∈ xs, -9223372036854775808 ≤ x ∧ x ≤ 9223372036854775807) (hx : FV F A (ints .i64 xs)) :
    SC Try.prog 20 #[.slice A n ca] [] F (fun u H => H = [.sl u 54 2 n (pcells (xs.map splitv))]) := by
  refine sc_in (args := [.slice A n ca]) Try.func20 rfl rfl (Nat.le_of_ble_eq_true rfl) ?_
  refine at_ks [0, 2, 3, 4, 8] (by (try simp only [keep, lk, pd, enumE, Nat.reduceBEq, Nat.reduceAdd, cond_true, cond_false]); exact rfl) ?_
  refine at_seq ?_
  refine at_region ?_
  refine st_p rfl rfl (p_assign rfl) ?_
  refine at_nil ?_
  refine at_ks [0, 2, 3, 4, 8] (by (try simp only [keep, lk, pd, enumE, Nat.reduceBEq, Nat.reduceAdd, cond_true, cond_false]); exact rfl) ?_
  refine at_then ?_
  refine at_seq ?_
  refine at_region ?_
  refine st_p rfl rfl (p_assign rfl) ?_
  refine at_nil ?_
  refine at_ks [0, 2, 3, 4, 8] (by (try simp only [keep, lk, pd, enumE, Nat.reduceBEq, Nat.reduceAdd, cond_true, cond_false]); exact rfl) ?_
  refine at_then ?_
  refine at_seq ?_
  refine at_seq ?_
  refine at_region ?_
  refine st_p rfl rfl (p_assign rfl) ?_
  refine at_nil ?_
  refine at_ks [0, 2, 3, 4, 8] (by (try simp only [keep, lk, pd, enumE, Nat.reduceBEq, Nat.reduceAdd, cond_true, cond_false]); exact rfl) ?_
  refine at_then ?_
  refine at_block ?_
  refine at_ks [0, 3, 4] (by (try simp only [keep, lk, pd, enumE, Nat.reduceBEq, Nat.reduceAdd, cond_true, cond_false]); exact rfl) ?_
  refine at_nilsl 54 2 ?_
  refine at_loop (fun k E H => ∃ (i : Nat) (v : Value), E = [(0, .slice A n ca), (3, v), (4, N (i : Int))] ∧ H = [.sl v 54 2 i (pcells ((xs.take i).map splitv))] ∧ i ≤ n ∧ k + i = n + 1) (n + 1) (⟨0, _, rfl, rfl, by omega, by omega⟩) ?_
  rintro k _ _ ⟨i, v, rfl, rfl, hi, hk⟩
  refine at_seq ?_
  refine at_seq ?_
  refine at_region ?_
  refine st_p rfl rfl (p_move rfl) ?_
  refine st_p rfl rfl (p_move rfl) ?_
  refine st_p rfl rfl (p_len rfl m_44) ?_
  refine st_p rfl rfl (p_lss rfl rfl) ?_
  refine at_nil ?_
  refine at_ks [0, 2, 3, 4, 8] (by (try simp only [keep, lk, pd, enumE, Nat.reduceBEq, Nat.reduceAdd, cond_true, cond_false]); exact rfl) ?_
  refine at_then ?_
  refine at_cond rfl (fun ht8 => ?_) (fun ht8 => ?_)
  · (try simp only [decide_eq_true_eq, decide_eq_false_iff_not, Bool.not_eq_true', Bool.not_eq_false', Bool.not_true, Bool.not_false, Bool.or_eq_true, Bool.and_eq_true, Int.not_lt, Int.not_le] at ht8)
    obtain ⟨ba, oa, rfl, hga⟩ := hx.int (i := (i : Int)) (by omega) (by omega)
    have hg0 := h0 _ (List.mem_of_getElem? (gi_get (xs := xs) (i := (i : Int)) (by omega) (by omega)))
    refine at_skip ?_
    refine at_then ?_
    refine at_seq ?_
    refine at_block ?_
    refine at_region ?_
    refine st_p rfl rfl (p_move rfl) ?_
    refine st_p rfl rfl (p_move rfl) ?_
    refine st_p rfl rfl (p_move rfl) ?_
    refine st_p rfl rfl ((by first | exact p_ia1 rfl rfl z_44 (by first | decide | omega) (by first | decide | omega) | exact p_iaN rfl rfl z_44 (by first | decide | omega) (by first | decide | omega) | exact p_iaO1 rfl rfl z_44 (by first | decide | omega) (by first | decide | omega) | exact p_iaO rfl rfl z_44 (by first | decide | omega) (by first | decide | omega))) ?_
    refine st_q rfl rfl ((by first | exact q_ob 0 rfl rfl r_2 (by first | rfl | assumption) | exact q_ob 1 rfl rfl r_2 (by first | rfl | assumption) | exact q_ob 2 rfl rfl r_2 (by first | rfl | assumption) | exact q_ob 3 rfl rfl r_2 (by first | rfl | assumption) | exact q_ob 4 rfl rfl r_2 (by first | rfl | assumption) | exact q_ob 5 rfl rfl r_2 (by first | rfl | assumption) | exact q_sl 0 rfl rfl r_2 (by first | rfl | assumption) | exact q_sl 1 rfl rfl r_2 (by first | rfl | assumption) | exact q_sl 2 rfl rfl r_2 (by first | rfl | assumption) | exact q_sl 3 rfl rfl r_2 (by first | rfl | assumption) | exact q_sl 4 rfl rfl r_2 (by first | rfl | assumption) | exact q_sl 5 rfl rfl r_2 (by first | rfl | assumption) | exact q_fr rfl r_2 (by assumption))) ?_
    refine st_q rfl rfl (q_call (first := []) rfl c_50 rfl (fun F1 hF1 hs1 => split_calls _ F1 hg0.1 hg0.2)) ?_
    refine st_l rfl rfl (l_bsV [.agg #[N (splitv (gi xs i)).1, U (splitv (gi xs i)).2]] [N (splitv (gi xs i)).1, U (splitv (gi xs i)).2] rfl e_23 (by decide) (by decide) rfl (by simp [Value.cells]) (by simp [Value.cells])) ?_
    rintro _ _ ⟨b17, rfl, rfl⟩
    refine at_hp (by (try simp only [List.take_zero, List.take_succ_cons, List.drop_zero, List.drop_succ_cons, List.drop_nil, List.length_cons, List.length_nil, Nat.zero_add, Nat.reduceAdd, List.set_cons_zero, List.set_cons_succ, List.nil_append, List.cons_append, List.append_nil, pick, List.filterMap_cons, List.filterMap_nil, List.getElem?_cons_zero, List.getElem?_cons_succ]); exact rfl) ?_
    refine st_l rfl rfl (l_app 1 0 rfl rfl e_23 rfl (by decide) rfl rfl rfl (by simp [Value.oneCell']) (by decide) (by omega) (by decide)) ?_
    rintro _ _ ⟨g18, c18, rfl, rfl⟩
    refine at_hp (by (try simp only [List.take_zero, List.take_succ_cons, List.drop_zero, List.drop_succ_cons, List.drop_nil, List.length_cons, List.length_nil, Nat.zero_add, Nat.reduceAdd, List.set_cons_zero, List.set_cons_succ, List.nil_append, List.cons_append, List.append_nil, pick, List.filterMap_cons, List.filterMap_nil, List.getElem?_cons_zero, List.getElem?_cons_succ]); exact rfl) ?_
    refine at_drop ?_
    refine st_p rfl rfl (p_assign rfl) ?_
    refine at_nil ?_
    refine at_ks [0, 2, 3, 4, 8] (by (try simp only [keep, lk, pd, enumE, Nat.reduceBEq, Nat.reduceAdd, cond_true, cond_false]); exact rfl) ?_
    refine at_inb ?_
    refine at_then ?_
    refine at_region ?_
    refine st_p rfl rfl (p_move rfl) ?_
    refine st_p rfl rfl (p_add rfl rfl (by first | exact nw64 (by omega) | exact nwu64 (by omega) | exact nwu8 (by omega) | exact nwu16 (by omega) | exact wu64 _ | exact wu8 _ | exact wi64 _ | rfl)) ?_
    refine st_p rfl rfl (p_assign rfl) ?_
    refine at_nil ?_
    refine at_ks [0, 2, 3, 4, 8] (by (try simp only [keep, lk, pd, enumE, Nat.reduceBEq, Nat.reduceAdd, cond_true, cond_false]); exact rfl) ?_
    refine at_ks [0, 3, 4] (by (try simp only [keep, lk, pd, enumE, Nat.reduceBEq, Nat.reduceAdd, cond_true, cond_false]); exact rfl) ?_
    refine at_back (k - 1) (by omega) ⟨i + 1, _, rfl, ?_, by omega, by omega⟩
    rw [take_map_next splitv (by omega), pcells_snoc]
  · (try simp only [decide_eq_true_eq, decide_eq_false_iff_not, Bool.not_eq_true', Bool.not_eq_false', Bool.not_true, Bool.not_false, Bool.or_eq_true, Bool.and_eq_true, Int.not_lt, Int.not_le] at ht8)
    obtain rfl : n = i := by omega
    refine at_exit ?_
    refine at_then_x ?_
    refine at_then_x ?_
    refine at_inb_exit ?_
    refine at_then ?_
    refine at_seq ?_
    refine at_region ?_
    refine st_p rfl rfl (p_move rfl) ?_
    refine st_p rfl rfl (p_assign rfl) ?_
    refine at_nil ?_
    refine at_ks [0, 2, 3, 4, 8] (by (try simp only [keep, lk, pd, enumE, Nat.reduceBEq, Nat.reduceAdd, cond_true, cond_false]); exact rfl) ?_
    refine at_then ?_
    refine at_retc ?_
    exact fin_1 rfl rfl (by
        rw [List.take_of_length_le (by omega)])

theorem numbers_calls (A : Option Addr) (n ca : Nat) (ns : List Int) (F : Frm) (hn : ns.length = n) (h6 : n ≤ 1000000000000000) (h0 : ∀ x ∈ ns, 0 ≤ x ∧ x ≤ 65535) (hx : FV F A (ints .u16 ns)) :
    SC Try.prog 21 #[.slice A n ca] [] F (fun u H => H = [.sl u 2 1 (min 60 n) (ints .i64 (numsV ns))]) := by
  refine sc_in (args := [.slice A n ca]) Try.func21 rfl rfl (Nat.le_of_ble_eq_true rfl) ?_
  refine at_ks [0, 2, 3, 4, 5, 13, 27, 28, 32, 36, 45] (by (try simp only [keep, lk, pd, enumE, Nat.reduceBEq, Nat.reduceAdd, cond_true, cond_false]); exact rfl) ?_
  refine at_seq ?_
  refine at_region ?_
  refine st_p rfl rfl (p_assign rfl) ?_
  refine at_nil ?_
  refine at_ks [0, 2, 3, 4, 5, 13, 27, 28, 32, 36, 45] (by (try simp only [keep, lk, pd, enumE, Nat.reduceBEq, Nat.reduceAdd, cond_true, cond_false]); exact rfl) ?_
  refine at_then ?_
  refine at_seq ?_
  refine at_region ?_
  refine st_p rfl rfl (p_assign rfl) ?_
  refine at_nil ?_
  refine at_ks [0, 2, 3, 4, 5, 13, 27, 28, 32, 36, 45] (by (try simp only [keep, lk, pd, enumE, Nat.reduceBEq, Nat.reduceAdd, cond_true, cond_false]); exact rfl) ?_
  refine at_then ?_
  refine at_seq ?_
  refine at_seq ?_
  refine at_region ?_
  refine st_p rfl rfl (p_assign rfl) ?_
  refine at_nil ?_
  refine at_ks [0, 2, 3, 4, 5, 13, 27, 28, 32, 36, 45] (by (try simp only [keep, lk, pd, enumE, Nat.reduceBEq, Nat.reduceAdd, cond_true, cond_false]); exact rfl) ?_
  refine at_then ?_
  refine at_block ?_
  refine at_ks [0, 3, 4] (by (try simp only [keep, lk, pd, enumE, Nat.reduceBEq, Nat.reduceAdd, cond_true, cond_false]); exact rfl) ?_
  refine at_nilsl 2 1 ?_
  refine at_loop (fun k E H => ∃ (i : Nat) (v : Value), E = [(0, .slice A n ca), (3, v), (4, N (i : Int))] ∧ H = [.sl v 2 1 i (ints .i64 ((ns.take i).map numV))] ∧ i ≤ n ∧ i ≤ 60 ∧ k + i = 61) (61) (⟨0, _, rfl, rfl, by omega, by omega, by omega⟩) ?_
  rintro k _ _ ⟨i, v, rfl, rfl, hi, hi6, hk⟩
  refine at_seq ?_
  refine at_seq ?_
  refine at_region ?_
  refine st_p rfl rfl (p_move rfl) ?_
  refine st_p rfl rfl (p_move rfl) ?_
  refine st_p rfl rfl (p_len rfl m_41) ?_
  refine st_p rfl rfl (p_lss rfl rfl) ?_
  refine st_p rfl rfl (p_move rfl) ?_
  refine at_split 10 rfl (fun ht10 => ?_) (fun ht10 => ?_)
  · (try simp only [decide_eq_true_eq, decide_eq_false_iff_not, Bool.not_eq_true', Bool.not_eq_false', Bool.not_true, Bool.not_false, Bool.or_eq_true, Bool.and_eq_true, Int.not_lt, Int.not_le] at ht10)
    refine sg_p rfl rfl (p_move rfl) ?_
    refine sg_p rfl rfl (p_lss rfl rfl) ?_
    refine st_p rfl rfl ((by first | exact p_pick_t rfl rfl | exact p_pick_f rfl rfl)) ?_
    refine at_nil ?_
    refine at_ks [0, 2, 3, 4, 5, 13, 27, 28, 32, 36, 45] (by (try simp only [keep, lk, pd, enumE, Nat.reduceBEq, Nat.reduceAdd, cond_true, cond_false]); exact rfl) ?_
    refine at_then ?_
    refine at_cond rfl (fun ht13 => ?_) (fun ht13 => ?_)
    · (try simp only [decide_eq_true_eq, decide_eq_false_iff_not, Bool.not_eq_true', Bool.not_eq_false', Bool.not_true, Bool.not_false, Bool.or_eq_true, Bool.and_eq_true, Int.not_lt, Int.not_le] at ht13)
      obtain ⟨ba, oa, rfl, hga⟩ := hx.int (i := (i : Int)) (by omega) (by omega)
      have hg0 := h0 _ (List.mem_of_getElem? (gi_get (xs := ns) (i := (i : Int)) (by omega) (by omega)))
      refine at_skip ?_
      refine at_then ?_
      refine at_seq ?_
      refine at_block ?_
      refine at_seq ?_
      refine at_region ?_
      refine st_p rfl rfl (p_move rfl) ?_
      refine st_p rfl rfl (p_move rfl) ?_
      refine st_p rfl rfl ((by first | exact p_ia1 rfl rfl z_41 (by first | decide | omega) (by first | decide | omega) | exact p_iaN rfl rfl z_41 (by first | decide | omega) (by first | decide | omega) | exact p_iaO1 rfl rfl z_41 (by first | decide | omega) (by first | decide | omega) | exact p_iaO rfl rfl z_41 (by first | decide | omega) (by first | decide | omega))) ?_
      refine st_q rfl rfl ((by first | exact q_ob 0 rfl rfl r_42 (by first | rfl | assumption) | exact q_ob 1 rfl rfl r_42 (by first | rfl | assumption) | exact q_ob 2 rfl rfl r_42 (by first | rfl | assumption) | exact q_ob 3 rfl rfl r_42 (by first | rfl | assumption) | exact q_ob 4 rfl rfl r_42 (by first | rfl | assumption) | exact q_ob 5 rfl rfl r_42 (by first | rfl | assumption) | exact q_sl 0 rfl rfl r_42 (by first | rfl | assumption) | exact q_sl 1 rfl rfl r_42 (by first | rfl | assumption) | exact q_sl 2 rfl rfl r_42 (by first | rfl | assumption) | exact q_sl 3 rfl rfl r_42 (by first | rfl | assumption) | exact q_sl 4 rfl rfl r_42 (by first | rfl | assumption) | exact q_sl 5 rfl rfl r_42 (by first | rfl | assumption) | exact q_fr rfl r_42 (by assumption))) ?_
      refine st_p rfl rfl (p_rem (r := gi ns i % 1024) rfl rfl (by decide) (Int.tmod_eq_emod_of_nonneg hg0.1)) ?_
      refine st_p rfl rfl (p_conv (r := gi ns i % 1024) rfl Try.underlying42 Try.underlying2 (nw64 (by omega))) ?_
      refine st_p rfl rfl (p_assign rfl) ?_
      refine at_nil ?_
      refine at_ks [0, 2, 3, 4, 5, 13, 27, 28, 32, 36, 45] (by (try simp only [keep, lk, pd, enumE, Nat.reduceBEq, Nat.reduceAdd, cond_true, cond_false]); exact rfl) ?_
      refine at_then ?_
      refine at_seq ?_
      refine at_seq ?_
      refine at_region ?_
      refine st_p rfl rfl (p_move rfl) ?_
      refine st_p rfl rfl (p_move rfl) ?_
      refine st_p rfl rfl ((by first | exact p_ia1 rfl rfl z_41 (by first | decide | omega) (by first | decide | omega) | exact p_iaN rfl rfl z_41 (by first | decide | omega) (by first | decide | omega) | exact p_iaO1 rfl rfl z_41 (by first | decide | omega) (by first | decide | omega) | exact p_iaO rfl rfl z_41 (by first | decide | omega) (by first | decide | omega))) ?_
      refine st_q rfl rfl ((by first | exact q_ob 0 rfl rfl r_42 (by first | rfl | assumption) | exact q_ob 1 rfl rfl r_42 (by first | rfl | assumption) | exact q_ob 2 rfl rfl r_42 (by first | rfl | assumption) | exact q_ob 3 rfl rfl r_42 (by first | rfl | assumption) | exact q_ob 4 rfl rfl r_42 (by first | rfl | assumption) | exact q_ob 5 rfl rfl r_42 (by first | rfl | assumption) | exact q_sl 0 rfl rfl r_42 (by first | rfl | assumption) | exact q_sl 1 rfl rfl r_42 (by first | rfl | assumption) | exact q_sl 2 rfl rfl r_42 (by first | rfl | assumption) | exact q_sl 3 rfl rfl r_42 (by first | rfl | assumption) | exact q_sl 4 rfl rfl r_42 (by first | rfl | assumption) | exact q_sl 5 rfl rfl r_42 (by first | rfl | assumption) | exact q_fr rfl r_42 (by assumption))) ?_
      refine st_p rfl rfl (p_quo (r := gi ns i / 1024) rfl rfl (by decide) (by rw [Int.tdiv_eq_ediv_of_nonneg hg0.1]; exact nwu16 (by omega))) ?_
      refine st_p rfl rfl (p_rem (r := gi ns i / 1024 % 6) rfl rfl (by decide) (Int.tmod_eq_emod_of_nonneg (by omega))) ?_
      refine at_nil ?_
      refine at_ks [0, 2, 3, 4, 5, 13, 27, 28, 32, 36, 45] (by (try simp only [keep, lk, pd, enumE, Nat.reduceBEq, Nat.reduceAdd, cond_true, cond_false]); exact rfl) ?_
      refine at_then ?_
      refine at_block ?_
      refine at_seq ?_
      refine at_region ?_
      refine st_p rfl rfl (p_eql rfl rfl) ?_
      refine st_p rfl rfl (p_assign rfl) ?_
      refine at_nil ?_
      refine at_ks [0, 2, 3, 4, 5, 13, 27, 28, 32, 36, 45] (by (try simp only [keep, lk, pd, enumE, Nat.reduceBEq, Nat.reduceAdd, cond_true, cond_false]); exact rfl) ?_
      refine at_then ?_
      refine at_cond rfl (fun ht28 => ?_) (fun ht28 => ?_)
      · (try simp only [decide_eq_true_eq, decide_eq_false_iff_not, Bool.not_eq_true', Bool.not_eq_false', Bool.not_true, Bool.not_false, Bool.or_eq_true, Bool.and_eq_true, Int.not_lt, Int.not_le] at ht28)
        refine at_region ?_
        refine st_p rfl rfl (p_move rfl) ?_
        refine st_p rfl rfl (p_rem (r := gi ns i % 1024 % 3) rfl rfl (by decide) (Int.tmod_eq_emod_of_nonneg (by omega))) ?_
        refine st_p rfl rfl (p_assign rfl) ?_
        refine at_nil ?_
        refine at_ks [0, 2, 3, 4, 5, 13, 27, 28, 32, 36, 45] (by (try simp only [keep, lk, pd, enumE, Nat.reduceBEq, Nat.reduceAdd, cond_true, cond_false]); exact rfl) ?_
        refine at_inb ?_
        refine at_then ?_
        refine at_region ?_
        refine st_p rfl rfl (p_move rfl) ?_
        refine st_p rfl rfl (p_move rfl) ?_
        refine st_l rfl rfl (l_bsV [_] _ rfl e_44 (by decide) (by decide) rfl (by simp [Value.cells]) (by simp only [List.flatMap_cons, List.flatMap_nil, Value.cells, List.nil_append, List.cons_append, List.append_nil]; exact rfl)) ?_
        rintro _ _ ⟨b57, rfl, rfl⟩
        refine at_hp (by (try simp only [List.take_zero, List.take_succ_cons, List.drop_zero, List.drop_succ_cons, List.drop_nil, List.length_cons, List.length_nil, Nat.zero_add, Nat.reduceAdd, List.set_cons_zero, List.set_cons_succ, List.nil_append, List.cons_append, List.append_nil, pick, List.filterMap_cons, List.filterMap_nil, List.getElem?_cons_zero, List.getElem?_cons_succ]); exact rfl) ?_
        refine st_l rfl rfl ((by first | exact l_app 1 0 rfl rfl e_44 rfl (by decide) rfl rfl (by first | rfl | (simp; done)) (by simp [Value.oneCell']) (by decide) (by first | omega | (simp only [List.length_append, List.length_cons, List.length_nil]; omega)) (by first | decide | omega) | exact l_app 2 0 rfl rfl e_44 rfl (by decide) rfl rfl (by first | rfl | (simp; done)) (by simp [Value.oneCell']) (by decide) (by first | omega | (simp only [List.length_append, List.length_cons, List.length_nil]; omega)) (by first | decide | omega) | exact l_app 3 0 rfl rfl e_44 rfl (by decide) rfl rfl (by first | rfl | (simp; done)) (by simp [Value.oneCell']) (by decide) (by first | omega | (simp only [List.length_append, List.length_cons, List.length_nil]; omega)) (by first | decide | omega) | exact l_app 4 0 rfl rfl e_44 rfl (by decide) rfl rfl (by first | rfl | (simp; done)) (by simp [Value.oneCell']) (by decide) (by first | omega | (simp only [List.length_append, List.length_cons, List.length_nil]; omega)) (by first | decide | omega) | exact l_app 5 0 rfl rfl e_44 rfl (by decide) rfl rfl (by first | rfl | (simp; done)) (by simp [Value.oneCell']) (by decide) (by first | omega | (simp only [List.length_append, List.length_cons, List.length_nil]; omega)) (by first | decide | omega) | exact l_app 0 1 rfl rfl e_44 rfl (by decide) rfl rfl (by first | rfl | (simp; done)) (by simp [Value.oneCell']) (by decide) (by first | omega | (simp only [List.length_append, List.length_cons, List.length_nil]; omega)) (by first | decide | omega) | exact l_app 2 1 rfl rfl e_44 rfl (by decide) rfl rfl (by first | rfl | (simp; done)) (by simp [Value.oneCell']) (by decide) (by first | omega | (simp only [List.length_append, List.length_cons, List.length_nil]; omega)) (by first | decide | omega) | exact l_app 3 1 rfl rfl e_44 rfl (by decide) rfl rfl (by first | rfl | (simp; done)) (by simp [Value.oneCell']) (by decide) (by first | omega | (simp only [List.length_append, List.length_cons, List.length_nil]; omega)) (by first | decide | omega) | exact l_app 4 1 rfl rfl e_44 rfl (by decide) rfl rfl (by first | rfl | (simp; done)) (by simp [Value.oneCell']) (by decide) (by first | omega | (simp only [List.length_append, List.length_cons, List.length_nil]; omega)) (by first | decide | omega) | exact l_app 5 1 rfl rfl e_44 rfl (by decide) rfl rfl (by first | rfl | (simp; done)) (by simp [Value.oneCell']) (by decide) (by first | omega | (simp only [List.length_append, List.length_cons, List.length_nil]; omega)) (by first | decide | omega) | exact l_app 0 2 rfl rfl e_44 rfl (by decide) rfl rfl (by first | rfl | (simp; done)) (by simp [Value.oneCell']) (by decide) (by first | omega | (simp only [List.length_append, List.length_cons, List.length_nil]; omega)) (by first | decide | omega) | exact l_app 1 2 rfl rfl e_44 rfl (by decide) rfl rfl (by first | rfl | (simp; done)) (by simp [Value.oneCell']) (by decide) (by first | omega | (simp only [List.length_append, List.length_cons, List.length_nil]; omega)) (by first | decide | omega) | exact l_app 3 2 rfl rfl e_44 rfl (by decide) rfl rfl (by first | rfl | (simp; done)) (by simp [Value.oneCell']) (by decide) (by first | omega | (simp only [List.length_append, List.length_cons, List.length_nil]; omega)) (by first | decide | omega) | exact l_app 4 2 rfl rfl e_44 rfl (by decide) rfl rfl (by first | rfl | (simp; done)) (by simp [Value.oneCell']) (by decide) (by first | omega | (simp only [List.length_append, List.length_cons, List.length_nil]; omega)) (by first | decide | omega) | exact l_app 5 2 rfl rfl e_44 rfl (by decide) rfl rfl (by first | rfl | (simp; done)) (by simp [Value.oneCell']) (by decide) (by first | omega | (simp only [List.length_append, List.length_cons, List.length_nil]; omega)) (by first | decide | omega))) ?_
        rintro _ _ ⟨g58, c58, rfl, rfl⟩
        refine at_hp (by (try simp only [List.take_zero, List.take_succ_cons, List.drop_zero, List.drop_succ_cons, List.drop_nil, List.length_cons, List.length_nil, Nat.zero_add, Nat.reduceAdd, List.set_cons_zero, List.set_cons_succ, List.nil_append, List.cons_append, List.append_nil, pick, List.filterMap_cons, List.filterMap_nil, List.getElem?_cons_zero, List.getElem?_cons_succ]); exact rfl) ?_
        refine at_drop ?_
        refine st_p rfl rfl (p_assign rfl) ?_
        refine at_nil ?_
        refine at_ks [0, 2, 3, 4, 5, 13, 27, 28, 32, 36, 45] (by (try simp only [keep, lk, pd, enumE, Nat.reduceBEq, Nat.reduceAdd, cond_true, cond_false]); exact rfl) ?_
        refine at_inb ?_
        refine at_then ?_
        refine at_region ?_
        refine st_p rfl rfl (p_move rfl) ?_
        refine st_p rfl rfl (p_add rfl rfl (by first | exact nw64 (by omega) | exact nwu64 (by omega) | exact nwu8 (by omega) | exact nwu16 (by omega) | exact wu64 _ | exact wu8 _ | exact wi64 _ | rfl)) ?_
        refine st_p rfl rfl (p_assign rfl) ?_
        refine at_nil ?_
        refine at_ks [0, 2, 3, 4, 5, 13, 27, 28, 32, 36, 45] (by (try simp only [keep, lk, pd, enumE, Nat.reduceBEq, Nat.reduceAdd, cond_true, cond_false]); exact rfl) ?_
        refine at_ks [0, 3, 4] (by (try simp only [keep, lk, pd, enumE, Nat.reduceBEq, Nat.reduceAdd, cond_true, cond_false]); exact rfl) ?_
        refine at_back (k - 1) (by omega) ⟨i + 1, _, rfl, ?_, by omega, by omega, by omega⟩
        rw [take_map_next numV (by omega)]
        conv => rhs; rw [numV]
        rw [if_pos ht28]
        simp [ints]
      · (try simp only [decide_eq_true_eq, decide_eq_false_iff_not, Bool.not_eq_true', Bool.not_eq_false', Bool.not_true, Bool.not_false, Bool.or_eq_true, Bool.and_eq_true, Int.not_lt, Int.not_le] at ht28)
        refine at_seq ?_
        refine at_region ?_
        refine st_p rfl rfl (p_eql rfl rfl) ?_
        refine st_p rfl rfl (p_assign rfl) ?_
        refine at_nil ?_
        refine at_ks [0, 2, 3, 4, 5, 13, 27, 28, 32, 36, 45] (by (try simp only [keep, lk, pd, enumE, Nat.reduceBEq, Nat.reduceAdd, cond_true, cond_false]); exact rfl) ?_
        refine at_then ?_
        refine at_cond rfl (fun ht32 => ?_) (fun ht32 => ?_)
        · (try simp only [decide_eq_true_eq, decide_eq_false_iff_not, Bool.not_eq_true', Bool.not_eq_false', Bool.not_true, Bool.not_false, Bool.or_eq_true, Bool.and_eq_true, Int.not_lt, Int.not_le] at ht32)
          refine at_region ?_
          refine st_p rfl rfl (p_move rfl) ?_
          refine st_p rfl rfl (p_neg rfl (by first | exact (congrArg _ (Int.zero_sub _)).trans (nw64 (by omega)) | exact wi64 _ | rfl)) ?_
          refine st_p rfl rfl (p_assign rfl) ?_
          refine at_nil ?_
          refine at_ks [0, 2, 3, 4, 5, 13, 27, 28, 32, 36, 45] (by (try simp only [keep, lk, pd, enumE, Nat.reduceBEq, Nat.reduceAdd, cond_true, cond_false]); exact rfl) ?_
          refine at_inb ?_
          refine at_then ?_
          refine at_region ?_
          refine st_p rfl rfl (p_move rfl) ?_
          refine st_p rfl rfl (p_move rfl) ?_
          refine st_l rfl rfl (l_bsV [_] _ rfl e_44 (by decide) (by decide) rfl (by simp [Value.cells]) (by simp only [List.flatMap_cons, List.flatMap_nil, Value.cells, List.nil_append, List.cons_append, List.append_nil]; exact rfl)) ?_
          rintro _ _ ⟨b57, rfl, rfl⟩
          refine at_hp (by (try simp only [List.take_zero, List.take_succ_cons, List.drop_zero, List.drop_succ_cons, List.drop_nil, List.length_cons, List.length_nil, Nat.zero_add, Nat.reduceAdd, List.set_cons_zero, List.set_cons_succ, List.nil_append, List.cons_append, List.append_nil, pick, List.filterMap_cons, List.filterMap_nil, List.getElem?_cons_zero, List.getElem?_cons_succ]); exact rfl) ?_
          refine st_l rfl rfl ((by first | exact l_app 1 0 rfl rfl e_44 rfl (by decide) rfl rfl (by first | rfl | (simp; done)) (by simp [Value.oneCell']) (by decide) (by first | omega | (simp only [List.length_append, List.length_cons, List.length_nil]; omega)) (by first | decide | omega) | exact l_app 2 0 rfl rfl e_44 rfl (by decide) rfl rfl (by first | rfl | (simp; done)) (by simp [Value.oneCell']) (by decide) (by first | omega | (simp only [List.length_append, List.length_cons, List.length_nil]; omega)) (by first | decide | omega) | exact l_app 3 0 rfl rfl e_44 rfl (by decide) rfl rfl (by first | rfl | (simp; done)) (by simp [Value.oneCell']) (by decide) (by first | omega | (simp only [List.length_append, List.length_cons, List.length_nil]; omega)) (by first | decide | omega) | exact l_app 4 0 rfl rfl e_44 rfl (by decide) rfl rfl (by first | rfl | (simp; done)) (by simp [Value.oneCell']) (by decide) (by first | omega | (simp only [List.length_append, List.length_cons, List.length_nil]; omega)) (by first | decide | omega) | exact l_app 5 0 rfl rfl e_44 rfl (by decide) rfl rfl (by first | rfl | (simp; done)) (by simp [Value.oneCell']) (by decide) (by first | omega | (simp only [List.length_append, List.length_cons, List.length_nil]; omega)) (by first | decide | omega) | exact l_app 0 1 rfl rfl e_44 rfl (by decide) rfl rfl (by first | rfl | (simp; done)) (by simp [Value.oneCell']) (by decide) (by first | omega | (simp only [List.length_append, List.length_cons, List.length_nil]; omega)) (by first | decide | omega) | exact l_app 2 1 rfl rfl e_44 rfl (by decide) rfl rfl (by first | rfl | (simp; done)) (by simp [Value.oneCell']) (by decide) (by first | omega | (simp only [List.length_append, List.length_cons, List.length_nil]; omega)) (by first | decide | omega) | exact l_app 3 1 rfl rfl e_44 rfl (by decide) rfl rfl (by first | rfl | (simp; done)) (by simp [Value.oneCell']) (by decide) (by first | omega | (simp only [List.length_append, List.length_cons, List.length_nil]; omega)) (by first | decide | omega) | exact l_app 4 1 rfl rfl e_44 rfl (by decide) rfl rfl (by first | rfl | (simp; done)) (by simp [Value.oneCell']) (by decide) (by first | omega | (simp only [List.length_append, List.length_cons, List.length_nil]; omega)) (by first | decide | omega) | exact l_app 5 1 rfl rfl e_44 rfl (by decide) rfl rfl (by first | rfl | (simp; done)) (by simp [Value.oneCell']) (by decide) (by first | omega | (simp only [List.length_append, List.length_cons, List.length_nil]; omega)) (by first | decide | omega) | exact l_app 0 2 rfl rfl e_44 rfl (by decide) rfl rfl (by first | rfl | (simp; done)) (by simp [Value.oneCell']) (by decide) (by first | omega | (simp only [List.length_append, List.length_cons, List.length_nil]; omega)) (by first | decide | omega) | exact l_app 1 2 rfl rfl e_44 rfl (by decide) rfl rfl (by first | rfl | (simp; done)) (by simp [Value.oneCell']) (by decide) (by first | omega | (simp only [List.length_append, List.length_cons, List.length_nil]; omega)) (by first | decide | omega) | exact l_app 3 2 rfl rfl e_44 rfl (by decide) rfl rfl (by first | rfl | (simp; done)) (by simp [Value.oneCell']) (by decide) (by first | omega | (simp only [List.length_append, List.length_cons, List.length_nil]; omega)) (by first | decide | omega) | exact l_app 4 2 rfl rfl e_44 rfl (by decide) rfl rfl (by first | rfl | (simp; done)) (by simp [Value.oneCell']) (by decide) (by first | omega | (simp only [List.length_append, List.length_cons, List.length_nil]; omega)) (by first | decide | omega) | exact l_app 5 2 rfl rfl e_44 rfl (by decide) rfl rfl (by first | rfl | (simp; done)) (by simp [Value.oneCell']) (by decide) (by first | omega | (simp only [List.length_append, List.length_cons, List.length_nil]; omega)) (by first | decide | omega))) ?_
          rintro _ _ ⟨g58, c58, rfl, rfl⟩
          refine at_hp (by (try simp only [List.take_zero, List.take_succ_cons, List.drop_zero, List.drop_succ_cons, List.drop_nil, List.length_cons, List.length_nil, Nat.zero_add, Nat.reduceAdd, List.set_cons_zero, List.set_cons_succ, List.nil_append, List.cons_append, List.append_nil, pick, List.filterMap_cons, List.filterMap_nil, List.getElem?_cons_zero, List.getElem?_cons_succ]); exact rfl) ?_
          refine at_drop ?_
          refine st_p rfl rfl (p_assign rfl) ?_
          refine at_nil ?_
          refine at_ks [0, 2, 3, 4, 5, 13, 27, 28, 32, 36, 45] (by (try simp only [keep, lk, pd, enumE, Nat.reduceBEq, Nat.reduceAdd, cond_true, cond_false]); exact rfl) ?_
          refine at_inb ?_
          refine at_then ?_
          refine at_region ?_
          refine st_p rfl rfl (p_move rfl) ?_
          refine st_p rfl rfl (p_add rfl rfl (by first | exact nw64 (by omega) | exact nwu64 (by omega) | exact nwu8 (by omega) | exact nwu16 (by omega) | exact wu64 _ | exact wu8 _ | exact wi64 _ | rfl)) ?_
          refine st_p rfl rfl (p_assign rfl) ?_
          refine at_nil ?_
          refine at_ks [0, 2, 3, 4, 5, 13, 27, 28, 32, 36, 45] (by (try simp only [keep, lk, pd, enumE, Nat.reduceBEq, Nat.reduceAdd, cond_true, cond_false]); exact rfl) ?_
          refine at_ks [0, 3, 4] (by (try simp only [keep, lk, pd, enumE, Nat.reduceBEq, Nat.reduceAdd, cond_true, cond_false]); exact rfl) ?_
          refine at_back (k - 1) (by omega) ⟨i + 1, _, rfl, ?_, by omega, by omega, by omega⟩
          rw [take_map_next numV (by omega)]
          conv => rhs; rw [numV]
          rw [if_neg ht28, if_pos ht32]
          simp [ints]
        · (try simp only [decide_eq_true_eq, decide_eq_false_iff_not, Bool.not_eq_true', Bool.not_eq_false', Bool.not_true, Bool.not_false, Bool.or_eq_true, Bool.and_eq_true, Int.not_lt, Int.not_le] at ht32)
          refine at_seq ?_
          refine at_region ?_
          refine st_p rfl rfl (p_eql rfl rfl) ?_
          refine st_p rfl rfl (p_assign rfl) ?_
          refine at_nil ?_
          refine at_ks [0, 2, 3, 4, 5, 13, 27, 28, 32, 36, 45] (by (try simp only [keep, lk, pd, enumE, Nat.reduceBEq, Nat.reduceAdd, cond_true, cond_false]); exact rfl) ?_
          refine at_then ?_
          refine at_cond rfl (fun ht36 => ?_) (fun ht36 => ?_)
          · (try simp only [decide_eq_true_eq, decide_eq_false_iff_not, Bool.not_eq_true', Bool.not_eq_false', Bool.not_true, Bool.not_false, Bool.or_eq_true, Bool.and_eq_true, Int.not_lt, Int.not_le] at ht36)
            refine at_region ?_
            refine st_p rfl rfl (p_move rfl) ?_
            refine st_p rfl rfl (p_move rfl) ?_
            refine st_p rfl rfl (p_move rfl) ?_
            refine st_p rfl rfl ((by first | exact p_ia1 rfl rfl z_41 (by first | decide | omega) (by first | decide | omega) | exact p_iaN rfl rfl z_41 (by first | decide | omega) (by first | decide | omega) | exact p_iaO1 rfl rfl z_41 (by first | decide | omega) (by first | decide | omega) | exact p_iaO rfl rfl z_41 (by first | decide | omega) (by first | decide | omega))) ?_
            refine st_q rfl rfl ((by first | exact q_ob 0 rfl rfl r_42 (by first | rfl | assumption) | exact q_ob 1 rfl rfl r_42 (by first | rfl | assumption) | exact q_ob 2 rfl rfl r_42 (by first | rfl | assumption) | exact q_ob 3 rfl rfl r_42 (by first | rfl | assumption) | exact q_ob 4 rfl rfl r_42 (by first | rfl | assumption) | exact q_ob 5 rfl rfl r_42 (by first | rfl | assumption) | exact q_sl 0 rfl rfl r_42 (by first | rfl | assumption) | exact q_sl 1 rfl rfl r_42 (by first | rfl | assumption) | exact q_sl 2 rfl rfl r_42 (by first | rfl | assumption) | exact q_sl 3 rfl rfl r_42 (by first | rfl | assumption) | exact q_sl 4 rfl rfl r_42 (by first | rfl | assumption) | exact q_sl 5 rfl rfl r_42 (by first | rfl | assumption) | exact q_fr rfl r_42 (by assumption))) ?_
            refine st_p rfl rfl (p_rem (r := gi ns i % 53) rfl rfl (by decide) (Int.tmod_eq_emod_of_nonneg hg0.1)) ?_
            refine st_p rfl rfl (p_shl rfl rfl (by omega) (shlI (by omega) (by omega))) ?_
            refine st_p rfl rfl (p_assign rfl) ?_
            refine at_nil ?_
            refine at_ks [0, 2, 3, 4, 5, 13, 27, 28, 32, 36, 45] (by (try simp only [keep, lk, pd, enumE, Nat.reduceBEq, Nat.reduceAdd, cond_true, cond_false]); exact rfl) ?_
            refine at_inb ?_
            refine at_then ?_
            refine at_region ?_
            refine st_p rfl rfl (p_move rfl) ?_
            refine st_p rfl rfl (p_move rfl) ?_
            refine st_l rfl rfl (l_bsV [_] _ rfl e_44 (by decide) (by decide) rfl (by simp [Value.cells]) (by simp only [List.flatMap_cons, List.flatMap_nil, Value.cells, List.nil_append, List.cons_append, List.append_nil]; exact rfl)) ?_
            rintro _ _ ⟨b57, rfl, rfl⟩
            refine at_hp (by (try simp only [List.take_zero, List.take_succ_cons, List.drop_zero, List.drop_succ_cons, List.drop_nil, List.length_cons, List.length_nil, Nat.zero_add, Nat.reduceAdd, List.set_cons_zero, List.set_cons_succ, List.nil_append, List.cons_append, List.append_nil, pick, List.filterMap_cons, List.filterMap_nil, List.getElem?_cons_zero, List.getElem?_cons_succ]); exact rfl) ?_
            refine st_l rfl rfl ((by first | exact l_app 1 0 rfl rfl e_44 rfl (by decide) rfl rfl (by first | rfl | (simp; done)) (by simp [Value.oneCell']) (by decide) (by first | omega | (simp only [List.length_append, List.length_cons, List.length_nil]; omega)) (by first | decide | omega) | exact l_app 2 0 rfl rfl e_44 rfl (by decide) rfl rfl (by first | rfl | (simp; done)) (by simp [Value.oneCell']) (by decide) (by first | omega | (simp only [List.length_append, List.length_cons, List.length_nil]; omega)) (by first | decide | omega) | exact l_app 3 0 rfl rfl e_44 rfl (by decide) rfl rfl (by first | rfl | (simp; done)) (by simp [Value.oneCell']) (by decide) (by first | omega | (simp only [List.length_append, List.length_cons, List.length_nil]; omega)) (by first | decide | omega) | exact l_app 4 0 rfl rfl e_44 rfl (by decide) rfl rfl (by first | rfl | (simp; done)) (by simp [Value.oneCell']) (by decide) (by first | omega | (simp only [List.length_append, List.length_cons, List.length_nil]; omega)) (by first | decide | omega) | exact l_app 5 0 rfl rfl e_44 rfl (by decide) rfl rfl (by first | rfl | (simp; done)) (by simp [Value.oneCell']) (by decide) (by first | omega | (simp only [List.length_append, List.length_cons, List.length_nil]; omega)) (by first | decide | omega) | exact l_app 0 1 rfl rfl e_44 rfl (by decide) rfl rfl (by first | rfl | (simp; done)) (by simp [Value.oneCell']) (by decide) (by first | omega | (simp only [List.length_append, List.length_cons, List.length_nil]; omega)) (by first | decide | omega) | exact l_app 2 1 rfl rfl e_44 rfl (by decide) rfl rfl (by first | rfl | (simp; done)) (by simp [Value.oneCell']) (by decide) (by first | omega | (simp only [List.length_append, List.length_cons, List.length_nil]; omega)) (by first | decide | omega) | exact l_app 3 1 rfl rfl e_44 rfl (by decide) rfl rfl (by first | rfl | (simp; done)) (by simp [Value.oneCell']) (by decide) (by first | omega | (simp only [List.length_append, List.length_cons, List.length_nil]; omega)) (by first | decide | omega) | exact l_app 4 1 rfl rfl e_44 rfl (by decide) rfl rfl (by first | rfl | (simp; done)) (by simp [Value.oneCell']) (by decide) (by first | omega | (simp only [List.length_append, List.length_cons, List.length_nil]; omega)) (by first | decide | omega) | exact l_app 5 1 rfl rfl e_44 rfl (by decide) rfl rfl (by first | rfl | (simp; done)) (by simp [Value.oneCell']) (by decide) (by first | omega | (simp only [List.length_append, List.length_cons, List.length_nil]; omega)) (by first | decide | omega) | exact l_app 0 2 rfl rfl e_44 rfl (by decide) rfl rfl (by first | rfl | (simp; done)) (by simp [Value.oneCell']) (by decide) (by first | omega | (simp only [List.length_append, List.length_cons, List.length_nil]; omega)) (by first | decide | omega) | exact l_app 1 2 rfl rfl e_44 rfl (by decide) rfl rfl (by first | rfl | (simp; done)) (by simp [Value.oneCell']) (by decide) (by first | omega | (simp only [List.length_append, List.length_cons, List.length_nil]; omega)) (by first | decide | omega) | exact l_app 3 2 rfl rfl e_44 rfl (by decide) rfl rfl (by first | rfl | (simp; done)) (by simp [Value.oneCell']) (by decide) (by first | omega | (simp only [List.length_append, List.length_cons, List.length_nil]; omega)) (by first | decide | omega) | exact l_app 4 2 rfl rfl e_44 rfl (by decide) rfl rfl (by first | rfl | (simp; done)) (by simp [Value.oneCell']) (by decide) (by first | omega | (simp only [List.length_append, List.length_cons, List.length_nil]; omega)) (by first | decide | omega) | exact l_app 5 2 rfl rfl e_44 rfl (by decide) rfl rfl (by first | rfl | (simp; done)) (by simp [Value.oneCell']) (by decide) (by first | omega | (simp only [List.length_append, List.length_cons, List.length_nil]; omega)) (by first | decide | omega))) ?_
            rintro _ _ ⟨g58, c58, rfl, rfl⟩
            refine at_hp (by (try simp only [List.take_zero, List.take_succ_cons, List.drop_zero, List.drop_succ_cons, List.drop_nil, List.length_cons, List.length_nil, Nat.zero_add, Nat.reduceAdd, List.set_cons_zero, List.set_cons_succ, List.nil_append, List.cons_append, List.append_nil, pick, List.filterMap_cons, List.filterMap_nil, List.getElem?_cons_zero, List.getElem?_cons_succ]); exact rfl) ?_
            refine at_drop ?_
            refine st_p rfl rfl (p_assign rfl) ?_
            refine at_nil ?_
            refine at_ks [0, 2, 3, 4, 5, 13, 27, 28, 32, 36, 45] (by (try simp only [keep, lk, pd, enumE, Nat.reduceBEq, Nat.reduceAdd, cond_true, cond_false]); exact rfl) ?_
            refine at_inb ?_
            refine at_then ?_
            refine at_region ?_
            refine st_p rfl rfl (p_move rfl) ?_
            refine st_p rfl rfl (p_add rfl rfl (by first | exact nw64 (by omega) | exact nwu64 (by omega) | exact nwu8 (by omega) | exact nwu16 (by omega) | exact wu64 _ | exact wu8 _ | exact wi64 _ | rfl)) ?_
            refine st_p rfl rfl (p_assign rfl) ?_
            refine at_nil ?_
            refine at_ks [0, 2, 3, 4, 5, 13, 27, 28, 32, 36, 45] (by (try simp only [keep, lk, pd, enumE, Nat.reduceBEq, Nat.reduceAdd, cond_true, cond_false]); exact rfl) ?_
            refine at_ks [0, 3, 4] (by (try simp only [keep, lk, pd, enumE, Nat.reduceBEq, Nat.reduceAdd, cond_true, cond_false]); exact rfl) ?_
            refine at_back (k - 1) (by omega) ⟨i + 1, _, rfl, ?_, by omega, by omega, by omega⟩
            rw [take_map_next numV (by omega)]
            conv => rhs; rw [numV]
            rw [if_neg ht28, if_neg ht32, if_pos ht36]
            simp [ints]
          · (try simp only [decide_eq_true_eq, decide_eq_false_iff_not, Bool.not_eq_true', Bool.not_eq_false', Bool.not_true, Bool.not_false, Bool.or_eq_true, Bool.and_eq_true, Int.not_lt, Int.not_le] at ht36)
            refine at_seq ?_
            refine at_region ?_
            refine st_p rfl rfl (p_eql rfl rfl) ?_
            refine st_p rfl rfl (p_assign rfl) ?_
            refine at_nil ?_
            refine at_ks [0, 2, 3, 4, 5, 13, 27, 28, 32, 36, 45] (by (try simp only [keep, lk, pd, enumE, Nat.reduceBEq, Nat.reduceAdd, cond_true, cond_false]); exact rfl) ?_
            refine at_then ?_
            refine at_cond rfl (fun ht45 => ?_) (fun ht45 => ?_)
            · (try simp only [decide_eq_true_eq, decide_eq_false_iff_not, Bool.not_eq_true', Bool.not_eq_false', Bool.not_true, Bool.not_false, Bool.or_eq_true, Bool.and_eq_true, Int.not_lt, Int.not_le] at ht45)
              refine at_region ?_
              refine st_p rfl rfl (p_move rfl) ?_
              refine st_p rfl rfl (p_neg rfl (by first | exact (congrArg _ (Int.zero_sub _)).trans (nw64 (by omega)) | exact wi64 _ | rfl)) ?_
              refine st_p rfl rfl (p_move rfl) ?_
              refine st_p rfl rfl (p_move rfl) ?_
              refine st_p rfl rfl ((by first | exact p_ia1 rfl rfl z_41 (by first | decide | omega) (by first | decide | omega) | exact p_iaN rfl rfl z_41 (by first | decide | omega) (by first | decide | omega) | exact p_iaO1 rfl rfl z_41 (by first | decide | omega) (by first | decide | omega) | exact p_iaO rfl rfl z_41 (by first | decide | omega) (by first | decide | omega))) ?_
              refine st_q rfl rfl ((by first | exact q_ob 0 rfl rfl r_42 (by first | rfl | assumption) | exact q_ob 1 rfl rfl r_42 (by first | rfl | assumption) | exact q_ob 2 rfl rfl r_42 (by first | rfl | assumption) | exact q_ob 3 rfl rfl r_42 (by first | rfl | assumption) | exact q_ob 4 rfl rfl r_42 (by first | rfl | assumption) | exact q_ob 5 rfl rfl r_42 (by first | rfl | assumption) | exact q_sl 0 rfl rfl r_42 (by first | rfl | assumption) | exact q_sl 1 rfl rfl r_42 (by first | rfl | assumption) | exact q_sl 2 rfl rfl r_42 (by first | rfl | assumption) | exact q_sl 3 rfl rfl r_42 (by first | rfl | assumption) | exact q_sl 4 rfl rfl r_42 (by first | rfl | assumption) | exact q_sl 5 rfl rfl r_42 (by first | rfl | assumption) | exact q_fr rfl r_42 (by assumption))) ?_
              refine st_p rfl rfl (p_rem (r := gi ns i % 54) rfl rfl (by decide) (Int.tmod_eq_emod_of_nonneg hg0.1)) ?_
              refine st_p rfl rfl (p_shl rfl rfl (by omega) (shlI (by omega) (by omega))) ?_
              refine st_p rfl rfl (p_assign rfl) ?_
              refine at_nil ?_
              refine at_ks [0, 2, 3, 4, 5, 13, 27, 28, 32, 36, 45] (by (try simp only [keep, lk, pd, enumE, Nat.reduceBEq, Nat.reduceAdd, cond_true, cond_false]); exact rfl) ?_
              refine at_inb ?_
              refine at_then ?_
              refine at_region ?_
              refine st_p rfl rfl (p_move rfl) ?_
              refine st_p rfl rfl (p_move rfl) ?_
              refine st_l rfl rfl (l_bsV [_] _ rfl e_44 (by decide) (by decide) rfl (by simp [Value.cells]) (by simp only [List.flatMap_cons, List.flatMap_nil, Value.cells, List.nil_append, List.cons_append, List.append_nil]; exact rfl)) ?_
              rintro _ _ ⟨b57, rfl, rfl⟩
              refine at_hp (by (try simp only [List.take_zero, List.take_succ_cons, List.drop_zero, List.drop_succ_cons, List.drop_nil, List.length_cons, List.length_nil, Nat.zero_add, Nat.reduceAdd, List.set_cons_zero, List.set_cons_succ, List.nil_append, List.cons_append, List.append_nil, pick, List.filterMap_cons, List.filterMap_nil, List.getElem?_cons_zero, List.getElem?_cons_succ]); exact rfl) ?_
              refine st_l rfl rfl ((by first | exact l_app 1 0 rfl rfl e_44 rfl (by decide) rfl rfl (by first | rfl | (simp; done)) (by simp [Value.oneCell']) (by decide) (by first | omega | (simp only [List.length_append, List.length_cons, List.length_nil]; omega)) (by first | decide | omega) | exact l_app 2 0 rfl rfl e_44 rfl (by decide) rfl rfl (by first | rfl | (simp; done)) (by simp [Value.oneCell']) (by decide) (by first | omega | (simp only [List.length_append, List.length_cons, List.length_nil]; omega)) (by first | decide | omega) | exact l_app 3 0 rfl rfl e_44 rfl (by decide) rfl rfl (by first | rfl | (simp; done)) (by simp [Value.oneCell']) (by decide) (by first | omega | (simp only [List.length_append, List.length_cons, List.length_nil]; omega)) (by first | decide | omega) | exact l_app 4 0 rfl rfl e_44 rfl (by decide) rfl rfl (by first | rfl | (simp; done)) (by simp [Value.oneCell']) (by decide) (by first | omega | (simp only [List.length_append, List.length_cons, List.length_nil]; omega)) (by first | decide | omega) | exact l_app 5 0 rfl rfl e_44 rfl (by decide) rfl rfl (by first | rfl | (simp; done)) (by simp [Value.oneCell']) (by decide) (by first | omega | (simp only [List.length_append, List.length_cons, List.length_nil]; omega)) (by first | decide | omega) | exact l_app 0 1 rfl rfl e_44 rfl (by decide) rfl rfl (by first | rfl | (simp; done)) (by simp [Value.oneCell']) (by decide) (by first | omega | (simp only [List.length_append, List.length_cons, List.length_nil]; omega)) (by first | decide | omega) | exact l_app 2 1 rfl rfl e_44 rfl (by decide) rfl rfl (by first | rfl | (simp; done)) (by simp [Value.oneCell']) (by decide) (by first | omega | (simp only [List.length_append, List.length_cons, List.length_nil]; omega)) (by first | decide | omega) | exact l_app 3 1 rfl rfl e_44 rfl (by decide) rfl rfl (by first | rfl | (simp; done)) (by simp [Value.oneCell']) (by decide) (by first | omega | (simp only [List.length_append, List.length_cons, List.length_nil]; omega)) (by first | decide | omega) | exact l_app 4 1 rfl rfl e_44 rfl (by decide) rfl rfl (by first | rfl | (simp; done)) (by simp [Value.oneCell']) (by decide) (by first | omega | (simp only [List.length_append, List.length_cons, List.length_nil]; omega)) (by first | decide | omega) | exact l_app 5 1 rfl rfl e_44 rfl (by decide) rfl rfl (by first | rfl | (simp; done)) (by simp [Value.oneCell']) (by decide) (by first | omega | (simp only [List.length_append, List.length_cons, List.length_nil]; omega)) (by first | decide | omega) | exact l_app 0 2 rfl rfl e_44 rfl (by decide) rfl rfl (by first | rfl | (simp; done)) (by simp [Value.oneCell']) (by decide) (by first | omega | (simp only [List.length_append, List.length_cons, List.length_nil]; omega)) (by first | decide | omega) | exact l_app 1 2 rfl rfl e_44 rfl (by decide) rfl rfl (by first | rfl | (simp; done)) (by simp [Value.oneCell']) (by decide) (by first | omega | (simp only [List.length_append, List.length_cons, List.length_nil]; omega)) (by first | decide | omega) | exact l_app 3 2 rfl rfl e_44 rfl (by decide) rfl rfl (by first | rfl | (simp; done)) (by simp [Value.oneCell']) (by decide) (by first | omega | (simp only [List.length_append, List.length_cons, List.length_nil]; omega)) (by first | decide | omega) | exact l_app 4 2 rfl rfl e_44 rfl (by decide) rfl rfl (by first | rfl | (simp; done)) (by simp [Value.oneCell']) (by decide) (by first | omega | (simp only [List.length_append, List.length_cons, List.length_nil]; omega)) (by first | decide | omega) | exact l_app 5 2 rfl rfl e_44 rfl (by decide) rfl rfl (by first | rfl | (simp; done)) (by simp [Value.oneCell']) (by decide) (by first | omega | (simp only [List.length_append, List.length_cons, List.length_nil]; omega)) (by first | decide | omega))) ?_
              rintro _ _ ⟨g58, c58, rfl, rfl⟩
              refine at_hp (by (try simp only [List.take_zero, List.take_succ_cons, List.drop_zero, List.drop_succ_cons, List.drop_nil, List.length_cons, List.length_nil, Nat.zero_add, Nat.reduceAdd, List.set_cons_zero, List.set_cons_succ, List.nil_append, List.cons_append, List.append_nil, pick, List.filterMap_cons, List.filterMap_nil, List.getElem?_cons_zero, List.getElem?_cons_succ]); exact rfl) ?_
              refine at_drop ?_
              refine st_p rfl rfl (p_assign rfl) ?_
              refine at_nil ?_
              refine at_ks [0, 2, 3, 4, 5, 13, 27, 28, 32, 36, 45] (by (try simp only [keep, lk, pd, enumE, Nat.reduceBEq, Nat.reduceAdd, cond_true, cond_false]); exact rfl) ?_
              refine at_inb ?_
              refine at_then ?_
              refine at_region ?_
              refine st_p rfl rfl (p_move rfl) ?_
              refine st_p rfl rfl (p_add rfl rfl (by first | exact nw64 (by omega) | exact nwu64 (by omega) | exact nwu8 (by omega) | exact nwu16 (by omega) | exact wu64 _ | exact wu8 _ | exact wi64 _ | rfl)) ?_
              refine st_p rfl rfl (p_assign rfl) ?_
              refine at_nil ?_
              refine at_ks [0, 2, 3, 4, 5, 13, 27, 28, 32, 36, 45] (by (try simp only [keep, lk, pd, enumE, Nat.reduceBEq, Nat.reduceAdd, cond_true, cond_false]); exact rfl) ?_
              refine at_ks [0, 3, 4] (by (try simp only [keep, lk, pd, enumE, Nat.reduceBEq, Nat.reduceAdd, cond_true, cond_false]); exact rfl) ?_
              refine at_back (k - 1) (by omega) ⟨i + 1, _, rfl, ?_, by omega, by omega, by omega⟩
              rw [take_map_next numV (by omega)]
              conv => rhs; rw [numV]
              rw [if_neg ht28, if_neg ht32, if_neg ht36, if_pos ht45]
              simp [ints]
            · (try simp only [decide_eq_true_eq, decide_eq_false_iff_not, Bool.not_eq_true', Bool.not_eq_false', Bool.not_true, Bool.not_false, Bool.or_eq_true, Bool.and_eq_true, Int.not_lt, Int.not_le] at ht45)
              refine at_skip ?_
              refine at_inb ?_
              refine at_then ?_
              refine at_region ?_
              refine st_p rfl rfl (p_move rfl) ?_
              refine st_p rfl rfl (p_move rfl) ?_
              refine st_l rfl rfl (l_bsV [_] _ rfl e_44 (by decide) (by decide) rfl (by simp [Value.cells]) (by simp only [List.flatMap_cons, List.flatMap_nil, Value.cells, List.nil_append, List.cons_append, List.append_nil]; exact rfl)) ?_
              rintro _ _ ⟨b57, rfl, rfl⟩
              refine at_hp (by (try simp only [List.take_zero, List.take_succ_cons, List.drop_zero, List.drop_succ_cons, List.drop_nil, List.length_cons, List.length_nil, Nat.zero_add, Nat.reduceAdd, List.set_cons_zero, List.set_cons_succ, List.nil_append, List.cons_append, List.append_nil, pick, List.filterMap_cons, List.filterMap_nil, List.getElem?_cons_zero, List.getElem?_cons_succ]); exact rfl) ?_
              refine st_l rfl rfl ((by first | exact l_app 1 0 rfl rfl e_44 rfl (by decide) rfl rfl (by first | rfl | (simp; done)) (by simp [Value.oneCell']) (by decide) (by first | omega | (simp only [List.length_append, List.length_cons, List.length_nil]; omega)) (by first | decide | omega) | exact l_app 2 0 rfl rfl e_44 rfl (by decide) rfl rfl (by first | rfl | (simp; done)) (by simp [Value.oneCell']) (by decide) (by first | omega | (simp only [List.length_append, List.length_cons, List.length_nil]; omega)) (by first | decide | omega) | exact l_app 3 0 rfl rfl e_44 rfl (by decide) rfl rfl (by first | rfl | (simp; done)) (by simp [Value.oneCell']) (by decide) (by first | omega | (simp only [List.length_append, List.length_cons, List.length_nil]; omega)) (by first | decide | omega) | exact l_app 4 0 rfl rfl e_44 rfl (by decide) rfl rfl (by first | rfl | (simp; done)) (by simp [Value.oneCell']) (by decide) (by first | omega | (simp only [List.length_append, List.length_cons, List.length_nil]; omega)) (by first | decide | omega) | exact l_app 5 0 rfl rfl e_44 rfl (by decide) rfl rfl (by first | rfl | (simp; done)) (by simp [Value.oneCell']) (by decide) (by first | omega | (simp only [List.length_append, List.length_cons, List.length_nil]; omega)) (by first | decide | omega) | exact l_app 0 1 rfl rfl e_44 rfl (by decide) rfl rfl (by first | rfl | (simp; done)) (by simp [Value.oneCell']) (by decide) (by first | omega | (simp only [List.length_append, List.length_cons, List.length_nil]; omega)) (by first | decide | omega) | exact l_app 2 1 rfl rfl e_44 rfl (by decide) rfl rfl (by first | rfl | (simp; done)) (by simp [Value.oneCell']) (by decide) (by first | omega | (simp only [List.length_append, List.length_cons, List.length_nil]; omega)) (by first | decide | omega) | exact l_app 3 1 rfl rfl e_44 rfl (by decide) rfl rfl (by first | rfl | (simp; done)) (by simp [Value.oneCell']) (by decide) (by first | omega | (simp only [List.length_append, List.length_cons, List.length_nil]; omega)) (by first | decide | omega) | exact l_app 4 1 rfl rfl e_44 rfl (by decide) rfl rfl (by first | rfl | (simp; done)) (by simp [Value.oneCell']) (by decide) (by first | omega | (simp only [List.length_append, List.length_cons, List.length_nil]; omega)) (by first | decide | omega) | exact l_app 5 1 rfl rfl e_44 rfl (by decide) rfl rfl (by first | rfl | (simp; done)) (by simp [Value.oneCell']) (by decide) (by first | omega | (simp only [List.length_append, List.length_cons, List.length_nil]; omega)) (by first | decide | omega) | exact l_app 0 2 rfl rfl e_44 rfl (by decide) rfl rfl (by first | rfl | (simp; done)) (by simp [Value.oneCell']) (by decide) (by first | omega | (simp only [List.length_append, List.length_cons, List.length_nil]; omega)) (by first | decide | omega) | exact l_app 1 2 rfl rfl e_44 rfl (by decide) rfl rfl (by first | rfl | (simp; done)) (by simp [Value.oneCell']) (by decide) (by first | omega | (simp only [List.length_append, List.length_cons, List.length_nil]; omega)) (by first | decide | omega) | exact l_app 3 2 rfl rfl e_44 rfl (by decide) rfl rfl (by first | rfl | (simp; done)) (by simp [Value.oneCell']) (by decide) (by first | omega | (simp only [List.length_append, List.length_cons, List.length_nil]; omega)) (by first | decide | omega) | exact l_app 4 2 rfl rfl e_44 rfl (by decide) rfl rfl (by first | rfl | (simp; done)) (by simp [Value.oneCell']) (by decide) (by first | omega | (simp only [List.length_append, List.length_cons, List.length_nil]; omega)) (by first | decide | omega) | exact l_app 5 2 rfl rfl e_44 rfl (by decide) rfl rfl (by first | rfl | (simp; done)) (by simp [Value.oneCell']) (by decide) (by first | omega | (simp only [List.length_append, List.length_cons, List.length_nil]; omega)) (by first | decide | omega))) ?_
              rintro _ _ ⟨g58, c58, rfl, rfl⟩
              refine at_hp (by (try simp only [List.take_zero, List.take_succ_cons, List.drop_zero, List.drop_succ_cons, List.drop_nil, List.length_cons, List.length_nil, Nat.zero_add, Nat.reduceAdd, List.set_cons_zero, List.set_cons_succ, List.nil_append, List.cons_append, List.append_nil, pick, List.filterMap_cons, List.filterMap_nil, List.getElem?_cons_zero, List.getElem?_cons_succ]); exact rfl) ?_
              refine at_drop ?_
              refine st_p rfl rfl (p_assign rfl) ?_
              refine at_nil ?_
              refine at_ks [0, 2, 3, 4, 5, 13, 27, 28, 32, 36, 45] (by (try simp only [keep, lk, pd, enumE, Nat.reduceBEq, Nat.reduceAdd, cond_true, cond_false]); exact rfl) ?_
              refine at_inb ?_
              refine at_then ?_
              refine at_region ?_
              refine st_p rfl rfl (p_move rfl) ?_
              refine st_p rfl rfl (p_add rfl rfl (by first | exact nw64 (by omega) | exact nwu64 (by omega) | exact nwu8 (by omega) | exact nwu16 (by omega) | exact wu64 _ | exact wu8 _ | exact wi64 _ | rfl)) ?_
              refine st_p rfl rfl (p_assign rfl) ?_
              refine at_nil ?_
              refine at_ks [0, 2, 3, 4, 5, 13, 27, 28, 32, 36, 45] (by (try simp only [keep, lk, pd, enumE, Nat.reduceBEq, Nat.reduceAdd, cond_true, cond_false]); exact rfl) ?_
              refine at_ks [0, 3, 4] (by (try simp only [keep, lk, pd, enumE, Nat.reduceBEq, Nat.reduceAdd, cond_true, cond_false]); exact rfl) ?_
              refine at_back (k - 1) (by omega) ⟨i + 1, _, rfl, ?_, by omega, by omega, by omega⟩
              rw [take_map_next numV (by omega)]
              conv => rhs; rw [numV]
              rw [if_neg ht28, if_neg ht32, if_neg ht36, if_neg ht45]
              simp [ints]
    · (try simp only [decide_eq_true_eq, decide_eq_false_iff_not, Bool.not_eq_true', Bool.not_eq_false', Bool.not_true, Bool.not_false, Bool.or_eq_true, Bool.and_eq_true, Int.not_lt, Int.not_le] at ht13)
      refine at_exit ?_
      refine at_then_x ?_
      refine at_then_x ?_
      refine at_inb_exit ?_
      refine at_then ?_
      refine at_seq ?_
      refine at_region ?_
      refine st_p rfl rfl (p_move rfl) ?_
      refine st_p rfl rfl (p_assign rfl) ?_
      refine at_nil ?_
      refine at_ks [0, 2, 3, 4, 5, 13, 27, 28, 32, 36, 45] (by (try simp only [keep, lk, pd, enumE, Nat.reduceBEq, Nat.reduceAdd, cond_true, cond_false]); exact rfl) ?_
      refine at_then ?_
      refine at_retc ?_
      exact fin_1 rfl rfl (by
          obtain rfl : i = 60 := by omega
          rw [show min 60 n = 60 by omega]; rfl)
  · (try simp only [decide_eq_true_eq, decide_eq_false_iff_not, Bool.not_eq_true', Bool.not_eq_false', Bool.not_true, Bool.not_false, Bool.or_eq_true, Bool.and_eq_true, Int.not_lt, Int.not_le] at ht10)
    obtain rfl : n = i := by omega
    refine sg_no rfl rfl ?_
    refine sg_no rfl rfl ?_
    refine st_p rfl rfl ((by first | exact p_pick_t rfl rfl | exact p_pick_f rfl rfl)) ?_
    refine at_nil ?_
    refine at_ks [0, 2, 3, 4, 5, 13, 27, 28, 32, 36, 45] (by (try simp only [keep, lk, pd, enumE, Nat.reduceBEq, Nat.reduceAdd, cond_true, cond_false]); exact rfl) ?_
    refine at_then ?_
    refine at_cond_f rfl ?_
    refine at_exit ?_
    refine at_then_x ?_
    refine at_then_x ?_
    refine at_inb_exit ?_
    refine at_then ?_
    refine at_seq ?_
    refine at_region ?_
    refine st_p rfl rfl (p_move rfl) ?_
    refine st_p rfl rfl (p_assign rfl) ?_
    refine at_nil ?_
    refine at_ks [0, 2, 3, 4, 5, 13, 27, 28, 32, 36, 45] (by (try simp only [keep, lk, pd, enumE, Nat.reduceBEq, Nat.reduceAdd, cond_true, cond_false]); exact rfl) ?_
    refine at_then ?_
    refine at_retc ?_
    exact fin_1 rfl rfl (by
        rw [show min 60 n = n by omega]; unfold numsV; rw [List.take_of_length_le (by omega), List.take_of_length_le (by omega)])

end Go.Proofs.Ytbpbhjnkmonlbaa