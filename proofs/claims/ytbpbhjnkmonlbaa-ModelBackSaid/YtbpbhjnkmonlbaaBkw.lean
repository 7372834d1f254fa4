/- Parts are told again; numbers of one size take few bytes: the walk. No condition. -/
import Derived.Test.YtbpbhjnkmonlbaaLt
import Derived.Test.YtbpbhjnkmonlbaaNuw
namespace Go.Proofs.Ytbpbhjnkmonlbaa
open Go.RowKit Sl
set_option linter.unusedVariables false
set_option linter.unusedSimpArgs false
set_option maxRecDepth 10000
theorem made_parts (q : Nat) : (madeCells #[.int .i64 0, .int .u64 0] (q * 2)).toList = pcells (List.replicate q (0, 0)) := by
  have key : ∀ q i, ((List.range' (2 * i) (q * 2)).map fun k => (#[.int .i64 0, .int .u64 0] : Array Value)[k % 2]!) = pcells (List.replicate q (0, 0)) := by
    intro q
    induction q with
    | zero => intro i; rfl
    | succ q ih =>
      intro i
      rw [show (q + 1) * 2 = q * 2 + 1 + 1 by omega, List.range'_succ, List.range'_succ, List.replicate_succ]
      simp only [List.map_cons]
      rw [show 2 * i + 1 + 1 = 2 * (i + 1) by omega, ih (i + 1), show 2 * i % 2 = 0 by omega, show (2 * i + 1) % 2 = 1 by omega]
      rfl
  have := key q 0
  rw [← this]
  unfold madeCells
  rw [Array.toList_map, Array.toList_range, List.range_eq_range']
  rfl
theorem numsV_len (ns : List Int) : (numsV ns).length = min 60 ns.length := by simp [numsV]
theorem numsV_in {ns : List Int} {x : Int} (h : x ∈ numsV ns) : -9223372036854775808 ≤ x ∧ x ≤ 9223372036854775807 := by
  obtain ⟨y, _, rfl⟩ := List.mem_map.1 h
  exact numV_in y
theorem splits_ok {V : List Int} (hV : ∀ x ∈ V, -9223372036854775808 ≤ x ∧ x ≤ 9223372036854775807) : ∀ p ∈ V.map splitv, mayv p.1 p.2 = true ∧ 0 ≤ p.2 ∧ p.2 < 18446744073709551616 := by
  intro p hp
  obtain ⟨x, hx, rfl⟩ := List.mem_map.1 hp
  exact split_ok (hV x hx).1 (hV x hx).2

theorem backs_calls (A : Option Addr) (n ca : Nat) (ns : List Int) (k : Int) (F : Frm) (hn : ns.length = n) (h6 : n ≤ 1000000000000000) (h0 : ∀ x ∈ ns, 0 ≤ x ∧ x ≤ 65535) (hk0 : 0 ≤ k) (hk1 : k ≤ 255) (hx : FV F A (ints .u16 ns)) :
    SC Try.prog 5 #[.slice A n ca, .int .u8 k] [] F (fun u H => u = .bool true ∧ H = []) := by
  obtain ⟨l, hl⟩ : ∃ l, l = min 60 n := ⟨_, rfl⟩
  obtain ⟨V, hV⟩ : ∃ V, V = numsV ns := ⟨_, rfl⟩
  have hVl : V.length = l := by rw [hV, numsV_len, hn, hl]
  have hVi : ∀ x ∈ V, -9223372036854775808 ≤ x ∧ x ≤ 9223372036854775807 := fun x hx => numsV_in (hV ▸ hx)
  have hpl : (V.map splitv).length = l := by rw [List.length_map, hVl]
  have hpo := splits_ok hVi
  obtain ⟨bx, hbx, hgx⟩ := back (ps := V.map splitv) (fun p hp => ⟨(hpo p hp).1, (hpo p hp).2.1⟩) (by omega)
  rw [hpl] at hgx
  obtain ⟨q, hq⟩ : ∃ q : Nat, k % 100 = (q : Int) := ⟨(k % 100).toNat, by omega⟩
  have hq9 : q ≤ 99 := by omega
  obtain ⟨by_, hby, _⟩ := back (ps := List.replicate q (0, 0)) (fun p hp => by rw [(List.mem_replicate.1 hp).2]; decide) (by simp; omega)
  have hlen := put_zeros q 0 cd0 by_ (by omega) rfl hby
  refine sc_in (args := [.slice A n ca, .int .u8 k]) Try.func5 rfl rfl (Nat.le_of_ble_eq_true rfl) ?_
  refine at_ks [0, 1, 4, 5, 6, 7, 8, 9, 10, 11, 12] (by (try simp only [keep, lk, pd, enumE, Nat.reduceBEq, Nat.reduceAdd, cond_true, cond_false]); exact rfl) ?_
  refine at_seq ?_
  refine at_region ?_
  refine st_p rfl rfl (p_assign rfl) ?_
  refine at_nil ?_
  refine at_ks [0, 1, 4, 5, 6, 7, 8, 9, 10, 11, 12] (by (try simp only [keep, lk, pd, enumE, Nat.reduceBEq, Nat.reduceAdd, cond_true, cond_false]); exact rfl) ?_
  refine at_then ?_
  refine at_seq ?_
  refine at_region ?_
  refine st_p rfl rfl (p_move rfl) ?_
  refine st_l rfl rfl (l_callP (first := []) (H1 := []) (H2 := _) (List.Perm.refl _) rfl c_21 rfl (fun F1 hF1 hs1 => (by have := (numbers_calls A n ca ns F1 hn h6 h0 (hx.mono hF1)).shape; rw [← hV, ← hl] at this; exact this))) ?_
  rintro _ _ ⟨_, ⟨An, cn, rfl, hcn, hAn, rfl⟩, rfl⟩
  refine at_hp (by (try simp only [List.take_zero, List.take_succ_cons, List.drop_zero, List.drop_succ_cons, List.drop_nil, List.length_cons, List.length_nil, Nat.zero_add, Nat.reduceAdd, List.set_cons_zero, List.set_cons_succ, List.nil_append, List.cons_append, List.append_nil, pick, List.filterMap_cons, List.filterMap_nil, List.getElem?_cons_zero, List.getElem?_cons_succ]); exact rfl) ?_
  refine st_l rfl rfl (l_callP (first := []) (H1 := []) (H2 := _) (List.Perm.refl _) rfl c_20 rfl (fun F1 hF1 hs1 => (parts_calls An l cn V F1 hVl (by omega) hVi (fv_slice (hs1 _ (List.mem_of_getElem? (i := 0) rfl)))).shape)) ?_
  rintro _ _ ⟨_, ⟨Ap, cp, rfl, hcp, hAp, rfl⟩, rfl⟩
  refine at_hp (by (try simp only [List.take_zero, List.take_succ_cons, List.drop_zero, List.drop_succ_cons, List.drop_nil, List.length_cons, List.length_nil, Nat.zero_add, Nat.reduceAdd, List.set_cons_zero, List.set_cons_succ, List.nil_append, List.cons_append, List.append_nil, pick, List.filterMap_cons, List.filterMap_nil, List.getElem?_cons_zero, List.getElem?_cons_succ]); exact rfl) ?_
  refine st_p rfl rfl (p_assign rfl) ?_
  refine at_nil ?_
  refine at_ks [0, 1, 4, 5, 6, 7, 8, 9, 10, 11, 12] (by (try simp only [keep, lk, pd, enumE, Nat.reduceBEq, Nat.reduceAdd, cond_true, cond_false]); exact rfl) ?_
  refine at_then ?_
  refine at_seq ?_
  refine at_region ?_
  refine st_p rfl rfl (p_move rfl) ?_
  refine st_l rfl rfl (l_callP (first := []) (H1 := []) (H2 := _) (List.Perm.refl _) rfl c_11 rfl (fun F1 hF1 hs1 => put_calls _ l _ (V.map splitv) (bx, 0) F1 hpl (by omega) (fun p hp => (hpo p hp).2) (fv_slice (hs1 _ (List.mem_of_getElem? (i := 0) rfl))) hbx)) ?_
  rintro _ _ ⟨_, ⟨rfl, rfl⟩, rfl⟩
  refine at_hp (by (try simp only [List.take_zero, List.take_succ_cons, List.drop_zero, List.drop_succ_cons, List.drop_nil, List.length_cons, List.length_nil, Nat.zero_add, Nat.reduceAdd, List.set_cons_zero, List.set_cons_succ, List.nil_append, List.cons_append, List.append_nil, pick, List.filterMap_cons, List.filterMap_nil, List.getElem?_cons_zero, List.getElem?_cons_succ]); exact rfl) ?_
  refine st_p rfl rfl (p_move rfl) ?_
  refine st_p rfl rfl (p_ext rfl rfl) ?_
  refine st_p rfl rfl (p_ext rfl rfl) ?_
  refine st_p rfl rfl (p_assign rfl) ?_
  refine st_p rfl rfl (p_assign rfl) ?_
  refine at_nil ?_
  refine at_ks [0, 1, 4, 5, 6, 7, 8, 9, 10, 11, 12] (by (try simp only [keep, lk, pd, enumE, Nat.reduceBEq, Nat.reduceAdd, cond_true, cond_false]); exact rfl) ?_
  refine at_then ?_
  refine at_seq ?_
  refine at_region ?_
  refine st_p rfl rfl (p_move rfl) ?_
  refine st_p rfl rfl (p_move rfl) ?_
  refine st_p rfl rfl (p_len rfl m_23) ?_
  refine st_l rfl rfl (l_callP (first := []) (H1 := []) (H2 := _) (List.Perm.refl _) rfl c_13 rfl (fun F1 hF1 hs1 => get_calls _ (l : Nat) _ F1 hgx)) ?_
  rintro _ _ ⟨_, ⟨vg, rfl, rfl⟩, rfl⟩
  refine at_hp (by (try simp only [List.take_zero, List.take_succ_cons, List.drop_zero, List.drop_succ_cons, List.drop_nil, List.length_cons, List.length_nil, Nat.zero_add, Nat.reduceAdd, List.set_cons_zero, List.set_cons_succ, List.nil_append, List.cons_append, List.append_nil, pick, List.filterMap_cons, List.filterMap_nil, List.getElem?_cons_zero, List.getElem?_cons_succ]); exact rfl) ?_
  refine st_p rfl rfl (p_move rfl) ?_
  refine st_p rfl rfl (p_ext rfl rfl) ?_
  refine st_p rfl rfl (p_ext rfl rfl) ?_
  refine st_p rfl rfl (p_assign rfl) ?_
  refine st_p rfl rfl (p_assign rfl) ?_
  refine at_nil ?_
  refine at_ks [0, 1, 4, 5, 6, 7, 8, 9, 10, 11, 12] (by (try simp only [keep, lk, pd, enumE, Nat.reduceBEq, Nat.reduceAdd, cond_true, cond_false]); exact rfl) ?_
  refine at_then ?_
  refine at_seq ?_
  refine at_region ?_
  refine st_p rfl rfl (p_move rfl) ?_
  refine st_p rfl rfl (p_conv rfl Try.underlying5 Try.underlying3 (by first | exact nw64 (by omega) | exact nwu64 (by omega) | exact nwu8 (by omega) | exact nwu16 (by omega) | exact wu64 _ | exact wu8 _ | exact wi64 _ | rfl)) ?_
  refine st_p rfl rfl (p_rem (r := (q : Int)) rfl rfl (by decide) ((Int.tmod_eq_emod_of_nonneg hk0).trans hq)) ?_
  refine st_l rfl rfl (l_make (m := q) e_23 rfl rfl (by omega) (by simp only [maxLen]; omega)) ?_
  rintro _ _ ⟨b31, rfl, rfl⟩
  rw [made_parts]
  refine at_hp (by (try simp only [List.take_zero, List.take_succ_cons, List.drop_zero, List.drop_succ_cons, List.drop_nil, List.length_cons, List.length_nil, Nat.zero_add, Nat.reduceAdd, List.set_cons_zero, List.set_cons_succ, List.nil_append, List.cons_append, List.append_nil, pick, List.filterMap_cons, List.filterMap_nil, List.getElem?_cons_zero, List.getElem?_cons_succ]); exact rfl) ?_
  refine st_p rfl rfl (p_assign rfl) ?_
  refine at_nil ?_
  refine at_ks [0, 1, 4, 5, 6, 7, 8, 9, 10, 11, 12] (by (try simp only [keep, lk, pd, enumE, Nat.reduceBEq, Nat.reduceAdd, cond_true, cond_false]); exact rfl) ?_
  refine at_then ?_
  refine at_seq ?_
  refine at_region ?_
  refine st_p rfl rfl (p_move rfl) ?_
  refine st_l rfl rfl (l_callP (first := []) (H1 := []) (H2 := _) (List.Perm.refl _) rfl c_11 rfl (fun F1 hF1 hs1 => put_calls _ q _ (List.replicate q (0, 0)) (by_, 0) F1 (by simp) (by omega) (fun p hp => by rw [(List.mem_replicate.1 hp).2]; decide) (fv_slice (hs1 _ (List.mem_of_getElem? (i := 0) rfl))) hby)) ?_
  rintro _ _ ⟨_, ⟨rfl, rfl⟩, rfl⟩
  refine at_hp (by (try simp only [List.take_zero, List.take_succ_cons, List.drop_zero, List.drop_succ_cons, List.drop_nil, List.length_cons, List.length_nil, Nat.zero_add, Nat.reduceAdd, List.set_cons_zero, List.set_cons_succ, List.nil_append, List.cons_append, List.append_nil, pick, List.filterMap_cons, List.filterMap_nil, List.getElem?_cons_zero, List.getElem?_cons_succ]); exact rfl) ?_
  refine st_p rfl rfl (p_move rfl) ?_
  refine st_p rfl rfl (p_ext rfl rfl) ?_
  refine st_p rfl rfl (p_ext rfl rfl) ?_
  refine st_p rfl rfl (p_assign rfl) ?_
  refine st_p rfl rfl (p_assign rfl) ?_
  refine at_nil ?_
  refine at_ks [0, 1, 4, 5, 6, 7, 8, 9, 10, 11, 12] (by (try simp only [keep, lk, pd, enumE, Nat.reduceBEq, Nat.reduceAdd, cond_true, cond_false]); exact rfl) ?_
  refine at_then ?_
  refine at_seq ?_
  refine at_shapeM 1 rfl fun Ag cg hv _ _ _ => ?_
  subst hv
  rw [hpl]
  refine at_region ?_
  refine st_p rfl rfl (p_move rfl) ?_
  refine st_q rfl rfl (q_call (first := []) rfl c_18 rfl (fun F1 hF1 hs1 => err_calls _ F1)) ?_
  refine st_p rfl rfl (p_move rfl) ?_
  refine st_q rfl rfl (q_call (first := []) rfl c_18 rfl (fun F1 hF1 hs1 => err_calls _ F1)) ?_
  refine st_p rfl rfl (p_add rfl rfl (by first | exact nw64 (by omega) | exact nwu64 (by omega) | exact nwu8 (by omega) | exact nwu16 (by omega) | exact wu64 _ | exact wu8 _ | exact wi64 _ | rfl)) ?_
  refine st_p rfl rfl (p_move rfl) ?_
  refine st_q rfl rfl (q_call (first := []) rfl c_18 rfl (fun F1 hF1 hs1 => err_calls _ F1)) ?_
  refine st_p rfl rfl (p_add rfl rfl (by first | exact nw64 (by omega) | exact nwu64 (by omega) | exact nwu8 (by omega) | exact nwu16 (by omega) | exact wu64 _ | exact wu8 _ | exact wi64 _ | rfl)) ?_
  refine st_p rfl rfl (p_isT (p_eql rfl rfl) (by decide)) ?_
  refine st_p rfl rfl (p_move rfl) ?_
  refine sg_p rfl rfl (p_move rfl) ?_
  refine sg_p rfl rfl (p_move rfl) ?_
  refine sg_q rfl rfl (q_call (first := []) rfl c_19 rfl (fun F1 hF1 hs1 => (sameParts_calls _ _ l l _ _ (V.map splitv) (V.map splitv) F1 hpl hpl (by omega) (fv_slice (hs1 _ (List.mem_of_getElem? (i := 1) rfl))) (fv_slice (hs1 _ (List.mem_of_getElem? (i := 2) rfl)))).mono fun _ _ ⟨h1, h2⟩ => ⟨h1.trans (congrArg Value.bool (decide_eq_true rfl)), h2⟩)) ?_
  refine st_p rfl rfl ((by first | exact p_pick_t rfl rfl | exact p_pick_f rfl rfl)) ?_
  refine st_p rfl rfl (p_move rfl) ?_
  refine sg_p rfl rfl (p_move rfl) ?_
  refine sg_p rfl rfl (p_lens rfl Try.underlying9) ?_
  refine sg_p rfl rfl (p_move rfl) ?_
  refine sg_p rfl rfl (p_len rfl m_23) ?_
  refine sg_p rfl rfl (p_quo (r := (q : Int) / 8) rfl rfl (by decide) (by rw [Int.tdiv_eq_ediv_of_nonneg (by omega)]; exact nw64 (by omega))) ?_
  refine sg_p rfl rfl (p_add rfl rfl (by first | exact nw64 (by omega) | exact nwu64 (by omega) | exact nwu8 (by omega) | exact nwu16 (by omega) | exact wu64 _ | exact wu8 _ | exact wi64 _ | rfl)) ?_
  refine sg_p rfl rfl (p_isT (p_leq rfl rfl) (by rw [decide_eq_true_eq, strOfNums_size]; omega)) ?_
  refine st_p rfl rfl ((by first | exact p_pick_t rfl rfl | exact p_pick_f rfl rfl)) ?_
  refine st_p rfl rfl (p_move rfl) ?_
  refine sg_q rfl rfl (q_call (first := []) rfl c_10 rfl (fun F1 hF1 hs1 => awake_calls F1)) ?_
  refine st_p rfl rfl ((by first | exact p_pick_t rfl rfl | exact p_pick_f rfl rfl)) ?_
  refine st_p rfl rfl (p_assign rfl) ?_
  refine at_nil ?_
  refine at_ks [0, 1, 4, 5, 6, 7, 8, 9, 10, 11, 12] (by (try simp only [keep, lk, pd, enumE, Nat.reduceBEq, Nat.reduceAdd, cond_true, cond_false]); exact rfl) ?_
  refine at_then ?_
  refine at_retc ?_
  refine at_re [] (by decide) ?_
  exact fin_1 rfl rfl (by
      exact ⟨rfl, rfl⟩)

end Go.Proofs.Ytbpbhjnkmonlbaa