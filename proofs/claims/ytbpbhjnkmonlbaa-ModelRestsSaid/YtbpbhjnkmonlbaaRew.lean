/- Rests are told as they are: the walk. No condition. -/
import Derived.Test.YtbpbhjnkmonlbaaRe
import Derived.Test.YtbpbhjnkmonlbaaNuw
namespace Go.Proofs.Ytbpbhjnkmonlbaa
open Go.RowKit Sl
set_option linter.unusedVariables false
set_option linter.unusedSimpArgs false
set_option maxRecDepth 10000
def restV (c z : Int) : Int × Int := (c, z % 2 ^ (c - 1).toNat)
theorem restV_ok {c : Int} (h0 : 2 ≤ c) (h1 : c ≤ 64) (zs : List Int) : ∀ p ∈ zs.map (restV c), mayv p.1 p.2 = true ∧ 0 ≤ p.2 ∧ p.2 < 18446744073709551616 := by
  intro p hp
  obtain ⟨z, _, rfl⟩ := List.mem_map.1 hp
  have hp := pow_in (n := (c - 1).toNat) (by omega)
  have e1 := Int.emod_nonneg z (b := 2 ^ (c - 1).toNat) (by omega)
  have e2 := Int.emod_lt_of_pos z (b := 2 ^ (c - 1).toNat) (by omega)
  refine ⟨?_, e1, ?_⟩
  · unfold mayv restV
    rw [decide_eq_true_eq]
    right
    exact ⟨by omega, h1, e2⟩
  · simp only [restV]; omega

theorem rests_calls (cl : Int) (A B : Option Addr) (n m ca cb : Nat) (xs ys : List Int) (F : Frm) (hc0 : 0 ≤ cl) (hc1 : cl ≤ 255) (hn : xs.length = n) (hm : ys.length = m) (h6 : n ≤ 1000000000000000) (h7 : m ≤ 1000000000000000) (hx0 : ∀ x ∈ xs, 0 ≤ x ∧ x ≤ 18446744073709551615) (hy0 : ∀ x ∈ ys, 0 ≤ x ∧ x ≤ 18446744073709551615) (hx : FV F A (ints .u64 xs)) (hy : FV F B (ints .u64 ys)) :
    SC Try.prog 9 #[.int .u8 cl, .slice A n ca, .slice B m cb] [] F (fun u H => u = .bool true ∧ H = []) := by
  obtain ⟨c, hc⟩ : ∃ c : Int, c = 2 + cl % 63 := ⟨_, rfl⟩
  have hcb : 2 ≤ c ∧ c ≤ 64 := by omega
  have hpw := pow_in (n := (c - 1).toNat) (by omega)
  obtain ⟨l, hl⟩ : ∃ l : Nat, l = min (min n m) 20 := ⟨_, rfl⟩
  have hmn : (if (m : Int) < n then (m : Int) else n) = ((min n m : Nat) : Int) := by split <;> omega
  have hl3 : (if (20 : Int) < (if (m : Int) < n then (m : Int) else n) then 20 else (if (m : Int) < n then (m : Int) else n)) = (l : Int) := by rw [hmn]; split <;> omega
  have hln : l ≤ n ∧ l ≤ m ∧ l ≤ 20 := by omega
  obtain ⟨bx, hbx, hgx⟩ := back (ps := (xs.take l).map (restV c)) (fun p hp => ⟨(restV_ok hcb.1 hcb.2 _ p hp).1, (restV_ok hcb.1 hcb.2 _ p hp).2.1⟩) (by simp; omega)
  obtain ⟨by_, hby, _⟩ := back (ps := (ys.take l).map (restV c)) (fun p hp => ⟨(restV_ok hcb.1 hcb.2 _ p hp).1, (restV_ok hcb.1 hcb.2 _ p hp).2.1⟩) (by simp; omega)
  have hxl : ((xs.take l).map (restV c)).length = l := by simp; omega
  have hyl : ((ys.take l).map (restV c)).length = l := by simp; omega
  have hmap : ((xs.take l).map (restV c)).map Prod.fst = ((ys.take l).map (restV c)).map Prod.fst := by
    have key : ∀ zs : List Int, l ≤ zs.length → ((zs.take l).map (restV c)).map Prod.fst = List.replicate l c := fun zs hz => by
      rw [List.map_map, List.eq_replicate_iff]
      refine ⟨by simp; omega, fun x hx => ?_⟩
      obtain ⟨y, _, rfl⟩ := List.mem_map.1 hx
      rfl
    rw [key xs (by omega), key ys (by omega)]
  have hlen := alike_put _ _ _ _ _ bx by_ hmap ⟨rfl, rfl⟩ hbx hby
  rw [hxl] at hgx
  refine sc_in (args := [.int .u8 cl, .slice A n ca, .slice B m cb]) Try.func9 rfl rfl (Nat.le_of_ble_eq_true rfl) ?_
  refine at_ks [0, 1, 2, 6, 7, 8, 9, 10, 11, 12, 13, 14, 15, 16, 17, 29] (by (try simp only [keep, lk, pd, enumE, Nat.reduceBEq, Nat.reduceAdd, cond_true, cond_false]); exact rfl) ?_
  refine at_seq ?_
  refine at_region ?_
  refine st_p rfl rfl (p_assign rfl) ?_
  refine at_nil ?_
  refine at_ks [0, 1, 2, 6, 7, 8, 9, 10, 11, 12, 13, 14, 15, 16, 17, 29] (by (try simp only [keep, lk, pd, enumE, Nat.reduceBEq, Nat.reduceAdd, cond_true, cond_false]); exact rfl) ?_
  refine at_then ?_
  refine at_seq ?_
  refine at_region ?_
  refine st_p rfl rfl (p_move rfl) ?_
  refine st_p rfl rfl (p_conv rfl Try.underlying5 Try.underlying3 (by first | exact nw64 (by omega) | exact nwu64 (by omega) | exact nwu8 (by omega) | exact nwu16 (by omega) | exact wu64 _ | exact wu8 _ | exact wi64 _ | rfl)) ?_
  refine st_p rfl rfl (p_rem (r := cl % 63) rfl rfl (by decide) (Int.tmod_eq_emod_of_nonneg hc0)) ?_
  refine st_p rfl rfl (p_add (r := c) rfl rfl ((nw64 (by omega)).trans hc.symm)) ?_
  refine st_p rfl rfl (p_assign rfl) ?_
  refine at_nil ?_
  refine at_ks [0, 1, 2, 6, 7, 8, 9, 10, 11, 12, 13, 14, 15, 16, 17, 29] (by (try simp only [keep, lk, pd, enumE, Nat.reduceBEq, Nat.reduceAdd, cond_true, cond_false]); exact rfl) ?_
  refine at_then ?_
  refine at_seq ?_
  refine at_region ?_
  refine st_p rfl rfl (p_move rfl) ?_
  refine st_p rfl rfl (p_len rfl m_57) ?_
  refine st_p rfl rfl (p_move rfl) ?_
  refine st_p rfl rfl (p_len rfl m_57) ?_
  refine st_p rfl rfl (p_min3 (r := (l : Int)) rfl rfl rfl hl3) ?_
  refine st_p rfl rfl (p_assign rfl) ?_
  refine at_nil ?_
  refine at_ks [0, 1, 2, 6, 7, 8, 9, 10, 11, 12, 13, 14, 15, 16, 17, 29] (by (try simp only [keep, lk, pd, enumE, Nat.reduceBEq, Nat.reduceAdd, cond_true, cond_false]); exact rfl) ?_
  refine at_then ?_
  refine at_seq ?_
  refine at_region ?_
  refine st_p rfl rfl (p_assign rfl) ?_
  refine st_p rfl rfl (p_assign rfl) ?_
  refine at_nil ?_
  refine at_ks [0, 1, 2, 6, 7, 8, 9, 10, 11, 12, 13, 14, 15, 16, 17, 29] (by (try simp only [keep, lk, pd, enumE, Nat.reduceBEq, Nat.reduceAdd, cond_true, cond_false]); exact rfl) ?_
  refine at_then ?_
  refine at_seq ?_
  refine at_seq ?_
  refine at_region ?_
  refine st_p rfl rfl (p_assign rfl) ?_
  refine at_nil ?_
  refine at_ks [0, 1, 2, 6, 7, 8, 9, 10, 11, 12, 13, 14, 15, 16, 17, 29] (by (try simp only [keep, lk, pd, enumE, Nat.reduceBEq, Nat.reduceAdd, cond_true, cond_false]); exact rfl) ?_
  refine at_then ?_
  refine at_block ?_
  refine at_ks [1, 2, 7, 8, 9, 10, 11] (by (try simp only [keep, lk, pd, enumE, Nat.reduceBEq, Nat.reduceAdd, cond_true, cond_false]); exact rfl) ?_
  refine at_nilsl 54 2 ?_
  refine at_nilsl 54 2 ?_
  refine at_loop (fun k E H => ∃ (i : Nat) (v w : Value), E = [(1, .slice A n ca), (2, .slice B m cb), (7, N c), (8, N (l : Int)), (9, v), (10, w), (11, N (i : Int))] ∧ H = [.sl w 54 2 i (pcells ((ys.take i).map (restV c))), .sl v 54 2 i (pcells ((xs.take i).map (restV c)))] ∧ i ≤ l ∧ k + i = l + 1) (l + 1) (⟨0, _, _, rfl, rfl, by omega, by omega⟩) ?_
  rintro k _ _ ⟨i, v, w, rfl, rfl, hi, hk⟩
  refine at_seq ?_
  refine at_seq ?_
  refine at_region ?_
  refine st_p rfl rfl (p_move rfl) ?_
  refine st_p rfl rfl (p_move rfl) ?_
  refine st_p rfl rfl (p_lss rfl rfl) ?_
  refine at_nil ?_
  refine at_ks [0, 1, 2, 6, 7, 8, 9, 10, 11, 12, 13, 14, 15, 16, 17, 29] (by (try simp only [keep, lk, pd, enumE, Nat.reduceBEq, Nat.reduceAdd, cond_true, cond_false]); exact rfl) ?_
  refine at_then ?_
  refine at_cond rfl (fun ht29 => ?_) (fun ht29 => ?_)
  · (try simp only [decide_eq_true_eq, decide_eq_false_iff_not, Bool.not_eq_true', Bool.not_eq_false', Bool.not_true, Bool.not_false, Bool.or_eq_true, Bool.and_eq_true, Int.not_lt, Int.not_le] at ht29)
    obtain ⟨ba, oa, rfl, hga⟩ := hx.int (i := (i : Int)) (by omega) (by omega)
    obtain ⟨bb, ob, rfl, hgb⟩ := hy.int (i := (i : Int)) (by omega) (by omega)
    have hgxs := hx0 _ (List.mem_of_getElem? (gi_get (xs := xs) (i := (i : Int)) (by omega) (by omega)))
    have hgys := hy0 _ (List.mem_of_getElem? (gi_get (xs := ys) (i := (i : Int)) (by omega) (by omega)))
    refine at_skip ?_
    refine at_then ?_
    refine at_seq ?_
    refine at_block ?_
    refine at_seq ?_
    refine at_drawH [0, 1, 2, 3, 4, 5, 6, 7, 8, 9, 10, 11, 12, 13] [0, 0, 0, 0, 12, 28, 0, 64, 192, 508, 1022, 2046, 4095, 8191] [5] [11, 12] mixd (by kernel_rfl) ?_
    refine rd_p rfl rfl rfl rfl rfl (p_move rfl) ?_
    refine rd_p rfl rfl rfl rfl rfl (p_move rfl) ?_
    refine rd_p rfl rfl rfl rfl rfl (p_move rfl) ?_
    refine rd_p rfl rfl rfl rfl rfl (p_move rfl) ?_
    refine rd_p rfl rfl rfl rfl rfl ((by first | exact p_ia1 rfl rfl z_57 (by first | decide | omega) (by first | decide | omega) | exact p_iaN rfl rfl z_57 (by first | decide | omega) (by first | decide | omega) | exact p_iaO1 rfl rfl z_57 (by first | decide | omega) (by first | decide | omega) | exact p_iaO rfl rfl z_57 (by first | decide | omega) (by first | decide | omega))) ?_
    refine rd_q rfl rfl rfl rfl rfl ((by first | exact q_ob 0 rfl rfl r_52 (by first | rfl | assumption) | exact q_ob 1 rfl rfl r_52 (by first | rfl | assumption) | exact q_ob 2 rfl rfl r_52 (by first | rfl | assumption) | exact q_ob 3 rfl rfl r_52 (by first | rfl | assumption) | exact q_ob 4 rfl rfl r_52 (by first | rfl | assumption) | exact q_ob 5 rfl rfl r_52 (by first | rfl | assumption) | exact q_ob 6 rfl rfl r_52 (by first | rfl | assumption) | exact q_sl 0 rfl rfl r_52 (by first | rfl | assumption) | exact q_sl 1 rfl rfl r_52 (by first | rfl | assumption) | exact q_sl 2 rfl rfl r_52 (by first | rfl | assumption) | exact q_sl 3 rfl rfl r_52 (by first | rfl | assumption) | exact q_sl 4 rfl rfl r_52 (by first | rfl | assumption) | exact q_sl 5 rfl rfl r_52 (by first | rfl | assumption) | exact q_sl 6 rfl rfl r_52 (by first | rfl | assumption) | exact q_fr rfl r_52 (by assumption))) (fun _ h => h) ?_
    refine rd_p rfl rfl rfl rfl rfl (p_move rfl) ?_
    refine rd_p rfl rfl rfl rfl rfl (p_sub rfl rfl (by first | exact nw64 (by omega) | exact nwu64 (by omega) | exact nwu8 (by omega) | exact nwu16 (by omega) | exact wu64 _ | exact wu8 _ | exact wi64 _ | rfl)) ?_
    refine rd_p rfl rfl rfl rfl rfl (p_shl (r := 2 ^ (c - 1).toNat) rfl rfl (by omega) (shlU (by omega) (by omega))) ?_
    refine rd_p rfl rfl rfl rfl rfl (p_rem (r := gi xs i % 2 ^ (c - 1).toNat) rfl rfl (by omega) (Int.tmod_eq_emod_of_nonneg hgxs.1)) ?_
    refine rd_p rfl rfl rfl rfl rfl (p_build (cs := #[N c, U (gi xs i % 2 ^ (c - 1).toNat)]) rfl (fun _ => by kernel_rfl)) ?_
    refine rd_l rfl rfl rfl rfl (l_bsV [.agg #[N c, U (gi xs i % 2 ^ (c - 1).toNat)]] [N c, U (gi xs i % 2 ^ (c - 1).toNat)] rfl e_23 (by decide) (by decide) rfl (by simp [Value.cells]) (by simp [Value.cells])) (fun h => nomatch (show false = true from h)) ?_
    rintro _ _ ⟨bs7, rfl, rfl⟩
    refine rd_hp (by (try simp only [List.take_zero, List.take_succ_cons, List.drop_zero, List.drop_succ_cons, List.drop_nil, List.length_cons, List.length_nil, Nat.zero_add, Nat.reduceAdd, List.set_cons_zero, List.set_cons_succ, List.nil_append, List.cons_append, List.append_nil, pick, List.filterMap_cons, List.filterMap_nil, List.getElem?_cons_zero, List.getElem?_cons_succ]); exact rfl) ?_
    refine rd_l rfl rfl rfl rfl ((by first | exact l_app 1 0 rfl rfl e_23 rfl (by decide) rfl rfl rfl (by simp [Value.oneCell']) (by decide) (by omega) (by decide) | exact l_app 2 0 rfl rfl e_23 rfl (by decide) rfl rfl rfl (by simp [Value.oneCell']) (by decide) (by omega) (by decide))) (fun h => nomatch (show false = true from h)) ?_
    rintro _ _ ⟨gs7, cs7, rfl, rfl⟩
    refine rd_hp (by (try simp only [List.take_zero, List.take_succ_cons, List.drop_zero, List.drop_succ_cons, List.drop_nil, List.length_cons, List.length_nil, Nat.zero_add, Nat.reduceAdd, List.set_cons_zero, List.set_cons_succ, List.nil_append, List.cons_append, List.append_nil, pick, List.filterMap_cons, List.filterMap_nil, List.getElem?_cons_zero, List.getElem?_cons_succ]); exact rfl) ?_
    refine rd_drop ?_
    refine rd_p rfl rfl rfl rfl rfl (p_assign rfl) ?_
    refine rd_nil ?_
    refine at_ks [0, 1, 2, 6, 7, 8, 9, 10, 11, 12, 13, 14, 15, 16, 17, 29] (by (try simp only [keep, lk, pd, enumE, Nat.reduceBEq, Nat.reduceAdd, cond_true, cond_false]); exact rfl) ?_
    refine at_then ?_
    refine at_drawH [0, 1, 2, 3, 4, 5, 6, 7, 8, 9, 10, 11, 12, 13] [0, 0, 0, 0, 12, 28, 0, 64, 192, 508, 1022, 2046, 4095, 8191] [5] [11, 12] mixd (by kernel_rfl) ?_
    refine rd_p rfl rfl rfl rfl rfl (p_move rfl) ?_
    refine rd_p rfl rfl rfl rfl rfl (p_move rfl) ?_
    refine rd_p rfl rfl rfl rfl rfl (p_move rfl) ?_
    refine rd_p rfl rfl rfl rfl rfl (p_move rfl) ?_
    refine rd_p rfl rfl rfl rfl rfl ((by first | exact p_ia1 rfl rfl z_57 (by first | decide | omega) (by first | decide | omega) | exact p_iaN rfl rfl z_57 (by first | decide | omega) (by first | decide | omega) | exact p_iaO1 rfl rfl z_57 (by first | decide | omega) (by first | decide | omega) | exact p_iaO rfl rfl z_57 (by first | decide | omega) (by first | decide | omega))) ?_
    refine rd_q rfl rfl rfl rfl rfl ((by first | exact q_ob 0 rfl rfl r_52 (by first | rfl | assumption) | exact q_ob 1 rfl rfl r_52 (by first | rfl | assumption) | exact q_ob 2 rfl rfl r_52 (by first | rfl | assumption) | exact q_ob 3 rfl rfl r_52 (by first | rfl | assumption) | exact q_ob 4 rfl rfl r_52 (by first | rfl | assumption) | exact q_ob 5 rfl rfl r_52 (by first | rfl | assumption) | exact q_ob 6 rfl rfl r_52 (by first | rfl | assumption) | exact q_sl 0 rfl rfl r_52 (by first | rfl | assumption) | exact q_sl 1 rfl rfl r_52 (by first | rfl | assumption) | exact q_sl 2 rfl rfl r_52 (by first | rfl | assumption) | exact q_sl 3 rfl rfl r_52 (by first | rfl | assumption) | exact q_sl 4 rfl rfl r_52 (by first | rfl | assumption) | exact q_sl 5 rfl rfl r_52 (by first | rfl | assumption) | exact q_sl 6 rfl rfl r_52 (by first | rfl | assumption) | exact q_fr rfl r_52 (by assumption))) (fun _ h => h) ?_
    refine rd_p rfl rfl rfl rfl rfl (p_move rfl) ?_
    refine rd_p rfl rfl rfl rfl rfl (p_sub rfl rfl (by first | exact nw64 (by omega) | exact nwu64 (by omega) | exact nwu8 (by omega) | exact nwu16 (by omega) | exact wu64 _ | exact wu8 _ | exact wi64 _ | rfl)) ?_
    refine rd_p rfl rfl rfl rfl rfl (p_shl (r := 2 ^ (c - 1).toNat) rfl rfl (by omega) (shlU (by omega) (by omega))) ?_
    refine rd_p rfl rfl rfl rfl rfl (p_rem (r := gi ys i % 2 ^ (c - 1).toNat) rfl rfl (by omega) (Int.tmod_eq_emod_of_nonneg hgys.1)) ?_
    refine rd_p rfl rfl rfl rfl rfl (p_build (cs := #[N c, U (gi ys i % 2 ^ (c - 1).toNat)]) rfl (fun _ => by kernel_rfl)) ?_
    refine rd_l rfl rfl rfl rfl (l_bsV [.agg #[N c, U (gi ys i % 2 ^ (c - 1).toNat)]] [N c, U (gi ys i % 2 ^ (c - 1).toNat)] rfl e_23 (by decide) (by decide) rfl (by simp [Value.cells]) (by simp [Value.cells])) (fun h => nomatch (show false = true from h)) ?_
    rintro _ _ ⟨bs8, rfl, rfl⟩
    refine rd_hp (by (try simp only [List.take_zero, List.take_succ_cons, List.drop_zero, List.drop_succ_cons, List.drop_nil, List.length_cons, List.length_nil, Nat.zero_add, Nat.reduceAdd, List.set_cons_zero, List.set_cons_succ, List.nil_append, List.cons_append, List.append_nil, pick, List.filterMap_cons, List.filterMap_nil, List.getElem?_cons_zero, List.getElem?_cons_succ]); exact rfl) ?_
    refine rd_l rfl rfl rfl rfl ((by first | exact l_app 1 0 rfl rfl e_23 rfl (by decide) rfl rfl rfl (by simp [Value.oneCell']) (by decide) (by omega) (by decide) | exact l_app 2 0 rfl rfl e_23 rfl (by decide) rfl rfl rfl (by simp [Value.oneCell']) (by decide) (by omega) (by decide))) (fun h => nomatch (show false = true from h)) ?_
    rintro _ _ ⟨gs8, cs8, rfl, rfl⟩
    refine rd_hp (by (try simp only [List.take_zero, List.take_succ_cons, List.drop_zero, List.drop_succ_cons, List.drop_nil, List.length_cons, List.length_nil, Nat.zero_add, Nat.reduceAdd, List.set_cons_zero, List.set_cons_succ, List.nil_append, List.cons_append, List.append_nil, pick, List.filterMap_cons, List.filterMap_nil, List.getElem?_cons_zero, List.getElem?_cons_succ]); exact rfl) ?_
    refine rd_drop ?_
    refine rd_p rfl rfl rfl rfl rfl (p_assign rfl) ?_
    refine rd_nil ?_
    refine at_ks [0, 1, 2, 6, 7, 8, 9, 10, 11, 12, 13, 14, 15, 16, 17, 29] (by (try simp only [keep, lk, pd, enumE, Nat.reduceBEq, Nat.reduceAdd, cond_true, cond_false]); exact rfl) ?_
    refine at_inb ?_
    refine at_then ?_
    refine at_region ?_
    refine st_p rfl rfl (p_move rfl) ?_
    refine st_p rfl rfl (p_add rfl rfl (by first | exact nw64 (by omega) | exact nwu64 (by omega) | exact nwu8 (by omega) | exact nwu16 (by omega) | exact wu64 _ | exact wu8 _ | exact wi64 _ | rfl)) ?_
    refine st_p rfl rfl (p_assign rfl) ?_
    refine at_nil ?_
    refine at_ks [0, 1, 2, 6, 7, 8, 9, 10, 11, 12, 13, 14, 15, 16, 17, 29] (by (try simp only [keep, lk, pd, enumE, Nat.reduceBEq, Nat.reduceAdd, cond_true, cond_false]); exact rfl) ?_
    refine at_ks [1, 2, 7, 8, 9, 10, 11] (by (try simp only [keep, lk, pd, enumE, Nat.reduceBEq, Nat.reduceAdd, cond_true, cond_false]); exact rfl) ?_
    refine at_back (k - 1) (by omega) ⟨i + 1, _, _, rfl, ?_, by omega, by omega⟩
    rw [take_map_next (restV c) (by omega), take_map_next (restV c) (by omega), restV, restV, pcells_snoc, pcells_snoc]
  · (try simp only [decide_eq_true_eq, decide_eq_false_iff_not, Bool.not_eq_true', Bool.not_eq_false', Bool.not_true, Bool.not_false, Bool.or_eq_true, Bool.and_eq_true, Int.not_lt, Int.not_le] at ht29)
    obtain rfl : l = i := by omega
    refine at_exit ?_
    refine at_then_x ?_
    refine at_then_x ?_
    refine at_inb_exit ?_
    refine at_then ?_
    refine at_seq ?_
    refine at_shapeM 1 rfl fun Av cv hv _ _ _ => ?_
    subst hv
    refine at_shapeM 0 rfl fun Aw cw hv _ _ _ => ?_
    subst hv
    refine at_region ?_
    refine st_p rfl rfl (p_move rfl) ?_
    refine st_l rfl rfl (l_callP (first := []) (H1 := []) (H2 := _) (List.Perm.refl _) rfl c_11 rfl (fun F1 hF1 hs1 => put_calls _ l _ ((xs.take l).map (restV c)) (bx, 0) F1 hxl (by omega) (fun p hp => (restV_ok hcb.1 hcb.2 _ p hp).2) (fv_slice (hs1 _ (List.mem_of_getElem? (i := 1) rfl))) hbx)) ?_
    rintro _ _ ⟨_, ⟨rfl, rfl⟩, rfl⟩
    refine at_hp (by (try simp only [List.take_zero, List.take_succ_cons, List.drop_zero, List.drop_succ_cons, List.drop_nil, List.length_cons, List.length_nil, Nat.zero_add, Nat.reduceAdd, List.set_cons_zero, List.set_cons_succ, List.nil_append, List.cons_append, List.append_nil, pick, List.filterMap_cons, List.filterMap_nil, List.getElem?_cons_zero, List.getElem?_cons_succ]); exact rfl) ?_
    refine st_p rfl rfl (p_move rfl) ?_
    refine st_p rfl rfl (p_ext rfl rfl) ?_
    refine st_p rfl rfl (p_ext rfl rfl) ?_
    refine st_p rfl rfl (p_assign rfl) ?_
    refine st_p rfl rfl (p_assign rfl) ?_
    refine at_nil ?_
    refine at_ks [0, 1, 2, 6, 7, 8, 9, 10, 11, 12, 13, 14, 15, 16, 17, 29] (by (try simp only [keep, lk, pd, enumE, Nat.reduceBEq, Nat.reduceAdd, cond_true, cond_false]); exact rfl) ?_
    refine at_then ?_
    refine at_seq ?_
    refine at_region ?_
    refine st_p rfl rfl (p_move rfl) ?_
    refine st_l rfl rfl (l_callP (first := []) (H1 := []) (H2 := _) (List.Perm.refl _) rfl c_11 rfl (fun F1 hF1 hs1 => put_calls _ l _ ((ys.take l).map (restV c)) (by_, 0) F1 hyl (by omega) (fun p hp => (restV_ok hcb.1 hcb.2 _ p hp).2) (fv_slice (hs1 _ (List.mem_of_getElem? (i := 0) rfl))) hby)) ?_
    rintro _ _ ⟨_, ⟨rfl, rfl⟩, rfl⟩
    refine at_hp (by (try simp only [List.take_zero, List.take_succ_cons, List.drop_zero, List.drop_succ_cons, List.drop_nil, List.length_cons, List.length_nil, Nat.zero_add, Nat.reduceAdd, List.set_cons_zero, List.set_cons_succ, List.nil_append, List.cons_append, List.append_nil, pick, List.filterMap_cons, List.filterMap_nil, List.getElem?_cons_zero, List.getElem?_cons_succ]); exact rfl) ?_
    refine st_p rfl rfl (p_move rfl) ?_
    refine st_p rfl rfl (p_ext rfl rfl) ?_
    refine st_p rfl rfl (p_ext rfl rfl) ?_
    refine st_p rfl rfl (p_assign rfl) ?_
    refine st_p rfl rfl (p_assign rfl) ?_
    refine at_nil ?_
    refine at_ks [0, 1, 2, 6, 7, 8, 9, 10, 11, 12, 13, 14, 15, 16, 17, 29] (by (try simp only [keep, lk, pd, enumE, Nat.reduceBEq, Nat.reduceAdd, cond_true, cond_false]); exact rfl) ?_
    refine at_then ?_
    refine at_seq ?_
    refine at_region ?_
    refine st_p rfl rfl (p_move rfl) ?_
    refine st_p rfl rfl (p_move rfl) ?_
    refine st_l rfl rfl (l_callP (first := []) (H1 := []) (H2 := _) (List.Perm.refl _) rfl c_13 rfl (fun F1 hF1 hs1 => get_calls _ (l : Nat) _ F1 hgx)) ?_
    rintro _ _ ⟨_, ⟨vg, rfl, rfl⟩, rfl⟩
    refine at_hp (by (try simp only [List.take_zero, List.take_succ_cons, List.drop_zero, List.drop_succ_cons, List.drop_nil, List.length_cons, List.length_nil, Nat.zero_add, Nat.reduceAdd, List.set_cons_zero, List.set_cons_succ, List.nil_append, List.cons_append, List.append_nil, pick, List.filterMap_cons, List.filterMap_nil, List.getElem?_cons_zero, List.getElem?_cons_succ]); exact rfl) ?_
    refine st_p rfl rfl (p_move rfl) ?_
    refine st_p rfl rfl (p_ext rfl rfl) ?_
    refine st_p rfl rfl (p_ext rfl rfl) ?_
    refine st_p rfl rfl (p_assign rfl) ?_
    refine st_p rfl rfl (p_assign rfl) ?_
    refine at_nil ?_
    refine at_ks [0, 1, 2, 6, 7, 8, 9, 10, 11, 12, 13, 14, 15, 16, 17, 29] (by (try simp only [keep, lk, pd, enumE, Nat.reduceBEq, Nat.reduceAdd, cond_true, cond_false]); exact rfl) ?_
    refine at_then ?_
    refine at_seq ?_
    refine at_shapeM 0 rfl fun Ag cg hv _ _ _ => ?_
    subst hv
    rw [hxl]
    refine at_region ?_
    refine st_p rfl rfl (p_move rfl) ?_
    refine st_q rfl rfl (q_call (first := []) rfl c_18 rfl (fun F1 hF1 hs1 => err_calls _ F1)) ?_
    refine st_p rfl rfl (p_move rfl) ?_
    refine st_q rfl rfl (q_call (first := []) rfl c_18 rfl (fun F1 hF1 hs1 => err_calls _ F1)) ?_
    refine st_p rfl rfl (p_add rfl rfl (by first | exact nw64 (by omega) | exact nwu64 (by omega) | exact nwu8 (by omega) | exact nwu16 (by omega) | exact wu64 _ | exact wu8 _ | exact wi64 _ | rfl)) ?_
    refine st_p rfl rfl (p_move rfl) ?_
    refine st_q rfl rfl (q_call (first := []) rfl c_18 rfl (fun F1 hF1 hs1 => err_calls _ F1)) ?_
    refine st_p rfl rfl (p_add rfl rfl (by first | exact nw64 (by omega) | exact nwu64 (by omega) | exact nwu8 (by omega) | exact nwu16 (by omega) | exact wu64 _ | exact wu8 _ | exact wi64 _ | rfl)) ?_
    refine st_p rfl rfl (p_isT (p_eql rfl rfl) (by decide)) ?_
    refine st_p rfl rfl (p_move rfl) ?_
    refine sg_p rfl rfl (p_move rfl) ?_
    refine sg_p rfl rfl (p_lens rfl Try.underlying9) ?_
    refine sg_p rfl rfl (p_move rfl) ?_
    refine sg_p rfl rfl (p_lens rfl Try.underlying9) ?_
    refine sg_p rfl rfl (p_isT (p_eql rfl rfl) (by rw [decide_eq_true_eq, strOfNums_size, strOfNums_size, hlen])) ?_
    refine st_p rfl rfl ((by first | exact p_pick_t rfl rfl | exact p_pick_f rfl rfl)) ?_
    refine st_p rfl rfl (p_move rfl) ?_
    refine sg_p rfl rfl (p_move rfl) ?_
    refine sg_p rfl rfl (p_move rfl) ?_
    refine sg_q rfl rfl (q_call (first := []) rfl c_19 rfl (fun F1 hF1 hs1 => (sameParts_calls _ _ l l _ _ ((xs.take l).map (restV c)) ((xs.take l).map (restV c)) F1 hxl hxl (by omega) (fv_slice (hs1 _ (List.mem_of_getElem? (i := 0) rfl))) (fv_slice (hs1 _ (List.mem_of_getElem? (i := 2) rfl)))).mono fun _ _ ⟨h1, h2⟩ => ⟨h1.trans (congrArg Value.bool (decide_eq_true rfl)), h2⟩)) ?_
    refine st_p rfl rfl ((by first | exact p_pick_t rfl rfl | exact p_pick_f rfl rfl)) ?_
    refine st_p rfl rfl (p_move rfl) ?_
    refine sg_l rfl rfl (l_callP (first := []) (H1 := []) (H2 := _) (List.Perm.refl _) rfl c_21 rfl (fun F1 hF1 hs1 => (numbers_calls none 0 0 [] F1 rfl (by decide) (by simp) FV.nil).shape)) ?_
    rintro _ _ ⟨_, ⟨An, cn, rfl, _, _, rfl⟩, rfl⟩
    refine at_hp (by (try simp only [List.take_zero, List.take_succ_cons, List.drop_zero, List.drop_succ_cons, List.drop_nil, List.length_cons, List.length_nil, Nat.zero_add, Nat.reduceAdd, List.set_cons_zero, List.set_cons_succ, List.nil_append, List.cons_append, List.append_nil, pick, List.filterMap_cons, List.filterMap_nil, List.getElem?_cons_zero, List.getElem?_cons_succ]); exact rfl) ?_
    refine sg_p rfl rfl (p_len rfl m_44) ?_
    refine sg_p rfl rfl (p_isT (p_eql rfl rfl) (by decide)) ?_
    refine st_p rfl rfl ((by first | exact p_pick_t rfl rfl | exact p_pick_f rfl rfl)) ?_
    refine st_p rfl rfl (p_move rfl) ?_
    refine sg_q rfl rfl (q_call (first := []) rfl c_10 rfl (fun F1 hF1 hs1 => awake_calls F1)) ?_
    refine st_p rfl rfl ((by first | exact p_pick_t rfl rfl | exact p_pick_f rfl rfl)) ?_
    refine st_p rfl rfl (p_assign rfl) ?_
    refine at_nil ?_
    refine at_ks [0, 1, 2, 6, 7, 8, 9, 10, 11, 12, 13, 14, 15, 16, 17, 29] (by (try simp only [keep, lk, pd, enumE, Nat.reduceBEq, Nat.reduceAdd, cond_true, cond_false]); exact rfl) ?_
    refine at_then ?_
    refine at_retc ?_
    refine at_re [] (by decide) ?_
    exact fin_1 rfl rfl (by
        exact ⟨rfl, rfl⟩)

end Go.Proofs.Ytbpbhjnkmonlbaa