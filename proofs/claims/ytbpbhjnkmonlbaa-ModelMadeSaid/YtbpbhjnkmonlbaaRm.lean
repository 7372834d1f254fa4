/- The reference's model: its walks. No condition. -/
import Derived.Test.YtbpbhjnkmonlbaaRd
namespace Go.Proofs.Ytbpbhjnkmonlbaa
open Go.RowKit Sl
set_option linter.unusedVariables false
set_option linter.unusedSimpArgs false
set_option maxRecDepth 10000
/-- Pieces that are not handed stay. -/
theorem SC.framed {P : Program} {f : FuncId} {args : Array Value} {H1 H2 : Hp} {F : Frm} {R : Value → Hp → Prop} (h : ∀ F', F.le F' → (∀ c ∈ H2, c.sat F'.heap) → SC P f args H1 F' R) : SC P f args (H1 ++ H2) F (fun u H' => ∃ K, R u K ∧ H' = K ++ H2) := fun w hw =>
  (h _ hw.snap_le hw.snap_sat w hw.split).mono fun _ _ ⟨v, H', e, r, o⟩ => ⟨v, H' ++ H2, e, ⟨H', r, rfl⟩, hw.join o⟩
theorem rmade_i64 (q : Nat) : (madeCells #[.int .i64 0] (q * 1)).toList = ints .i64 (List.replicate q 0) := by
  rw [Nat.mul_one]
  exact (made_rep 1 q (.int .i64 0) (by decide)).trans (by simp [ints])
def rfilled (m i : Nat) (c : Int) : List Int := List.replicate i c ++ List.replicate (m - i) 0
theorem rfilled_next {m i : Nat} (h : i < m) (c : Int) : (ints .i64 (rfilled m i c)).set i (N c) = ints .i64 (rfilled m (i + 1) c) := by
  unfold rfilled
  simp only [ints, List.map_append, List.map_replicate]
  rw [List.set_append_right _ _ (by simp), List.length_replicate, Nat.sub_self, show m - i = (m - (i + 1)) + 1 by omega, List.replicate_succ, List.set_cons_zero, List.replicate_succ', List.append_assoc]
  rfl
theorem Chk.sat_mono {F F' : Frm} {c : Chk} (hl : F.le F') (h : c.sat F.heap) : c.sat F'.heap := Chk.sat_congr h fun b hb => by
  obtain ⟨o, ho⟩ := Chk.sat_some h hb
  rw [ho]; exact hl _ _ ho
/-- The reference's model in memory. -/
def rmodH (mb : Nat) (m : Ms) (H : Hp) : Prop := ∃ (v0 v1 v2 wv : Value) (ws : List Value), ws.length = 7 ∧
  H = .ob mb [v0, v1, v2, wv, N m.a, N m.b] 118 :: .sl v0 3 1 128 (ints .i64 m.l0) :: .sl v1 3 1 8320 (ints .i64 m.l1) :: .sl v2 3 1 8320 (ints .i64 m.l2) :: .sl wv 22 1 7 ws :: wch 3 ws m.w

theorem halves_calls (n : Nat) (hn : n ≤ 100000) (F : Frm) : SC Try.prog 58 #[N n] [] F (fun u H => H = [.sl u 3 1 n (ints .i64 (List.replicate n 2048))]) := by
  refine sc_in (args := [N n]) Try.func58 rfl rfl (Nat.le_of_ble_eq_true rfl) ?_
  refine at_ks [0, 2, 3, 4, 9] (by (try simp only [keep, lk, pd, enumE, Nat.reduceBEq, Nat.reduceAdd, cond_true, cond_false]); exact rfl) ?_
  refine at_seq ?_
  refine at_region ?_
  refine st_p rfl rfl (p_assign rfl) ?_
  refine at_nil ?_
  refine at_ks [0, 2, 3, 4, 9] (by (try simp only [keep, lk, pd, enumE, Nat.reduceBEq, Nat.reduceAdd, cond_true, cond_false]); exact rfl) ?_
  refine at_then ?_
  refine at_seq ?_
  refine at_region ?_
  refine st_p rfl rfl (p_move rfl) ?_
  refine st_l rfl rfl (l_make (m := n) e_22 rfl rfl (by omega) (by simp only [maxLen]; omega)) ?_
  rintro _ _ ⟨g6, rfl, rfl⟩
  rw [rmade_i64]
  refine at_hp (by (try simp only [List.take_zero, List.take_succ_cons, List.drop_zero, List.drop_succ_cons, List.drop_nil, List.length_cons, List.length_nil, Nat.zero_add, Nat.reduceAdd, List.set_cons_zero, List.set_cons_succ, List.nil_append, List.cons_append, List.append_nil, pick, List.filterMap_cons, List.filterMap_nil, List.getElem?_cons_zero, List.getElem?_cons_succ]); exact rfl) ?_
  refine st_p rfl rfl (p_assign rfl) ?_
  refine at_nil ?_
  refine at_ks [0, 2, 3, 4, 9] (by (try simp only [keep, lk, pd, enumE, Nat.reduceBEq, Nat.reduceAdd, cond_true, cond_false]); exact rfl) ?_
  refine at_then ?_
  refine at_seq ?_
  refine at_seq ?_
  refine at_region ?_
  refine st_p rfl rfl (p_assign rfl) ?_
  refine at_nil ?_
  refine at_ks [0, 2, 3, 4, 9] (by (try simp only [keep, lk, pd, enumE, Nat.reduceBEq, Nat.reduceAdd, cond_true, cond_false]); exact rfl) ?_
  refine at_then ?_
  refine at_block ?_
  refine at_ks [0, 3, 4] (by (try simp only [keep, lk, pd, enumE, Nat.reduceBEq, Nat.reduceAdd, cond_true, cond_false]); exact rfl) ?_
  refine at_loop (fun k E H => ∃ i : Nat, E = [(0, N n), (3, .slice (some ⟨g6, 0, none⟩) n n), (4, N (i : Int))] ∧ H = [.sl (.slice (some ⟨g6, 0, none⟩) n n) 3 1 n (ints .i64 (rfilled n i 2048))] ∧ i ≤ n ∧ k + i = n + 1) (n + 1) (⟨0, rfl, rfl, by omega, by omega⟩) ?_
  rintro k _ _ ⟨i, rfl, rfl, hi, hk⟩
  refine at_seq ?_
  refine at_seq ?_
  refine at_region ?_
  refine st_p rfl rfl (p_move rfl) ?_
  refine st_p rfl rfl (p_move rfl) ?_
  refine st_p rfl rfl (p_lss rfl rfl) ?_
  refine at_nil ?_
  refine at_ks [0, 2, 3, 4, 9] (by (try simp only [keep, lk, pd, enumE, Nat.reduceBEq, Nat.reduceAdd, cond_true, cond_false]); exact rfl) ?_
  refine at_then ?_
  refine at_cond rfl (fun ht9 => ?_) (fun ht9 => ?_)
  · (try simp only [decide_eq_true_eq, decide_eq_false_iff_not, Bool.not_eq_true', Bool.not_eq_false', Bool.not_true, Bool.not_false, Bool.or_eq_true, Bool.and_eq_true, Int.not_lt, Int.not_le] at ht9)
    refine at_skip ?_
    refine at_then ?_
    refine at_seq ?_
    refine at_block ?_
    refine at_region ?_
    refine st_p rfl rfl (p_move rfl) ?_
    refine st_p rfl rfl (p_move rfl) ?_
    refine st_p rfl rfl (p_ia1 rfl rfl z_22 (by omega) (by omega)) ?_
    refine st_l rfl rfl (l_sl 0 rfl rfl rfl rfl rfl s_3 (by simp [rfilled]; omega)) ?_
    rintro _ _ ⟨rfl, rfl⟩
    refine at_hp (by (try simp only [List.take_zero, List.take_succ_cons, List.drop_zero, List.drop_succ_cons, List.drop_nil, List.length_cons, List.length_nil, Nat.zero_add, Nat.reduceAdd, List.set_cons_zero, List.set_cons_succ, List.nil_append, List.cons_append, List.append_nil, pick, List.filterMap_cons, List.filterMap_nil, List.getElem?_cons_zero, List.getElem?_cons_succ]); exact rfl) ?_
    refine at_nil ?_
    refine at_ks [0, 2, 3, 4, 9] (by (try simp only [keep, lk, pd, enumE, Nat.reduceBEq, Nat.reduceAdd, cond_true, cond_false]); exact rfl) ?_
    refine at_inb ?_
    refine at_then ?_
    refine at_region ?_
    refine st_p rfl rfl (p_move rfl) ?_
    refine st_p rfl rfl (p_add rfl rfl (by first | exact nw64 (by omega) | exact nwu64 (by omega) | exact nwu8 (by omega) | exact nwu16 (by omega) | exact wu64 _ | exact wu8 _ | exact wi64 _ | rfl)) ?_
    refine st_p rfl rfl (p_assign rfl) ?_
    refine at_nil ?_
    refine at_ks [0, 2, 3, 4, 9] (by (try simp only [keep, lk, pd, enumE, Nat.reduceBEq, Nat.reduceAdd, cond_true, cond_false]); exact rfl) ?_
    refine at_ks [0, 3, 4] (by (try simp only [keep, lk, pd, enumE, Nat.reduceBEq, Nat.reduceAdd, cond_true, cond_false]); exact rfl) ?_
    refine at_back (k - 1) (by omega) ⟨i + 1, rfl, ?_, by omega, by omega⟩
    rw [Int.toNat_natCast, rfilled_next (by omega)]
  · (try simp only [decide_eq_true_eq, decide_eq_false_iff_not, Bool.not_eq_true', Bool.not_eq_false', Bool.not_true, Bool.not_false, Bool.or_eq_true, Bool.and_eq_true, Int.not_lt, Int.not_le] at ht9)
    obtain rfl : n = i := by omega
    rw [show rfilled n n 2048 = List.replicate n 2048 by simp [rfilled]]
    refine at_exit ?_
    refine at_then_x ?_
    refine at_then_x ?_
    refine at_inb_exit ?_
    refine at_then ?_
    refine at_seq ?_
    refine at_region ?_
    refine st_p rfl rfl (p_move rfl) ?_
    refine st_p rfl rfl (p_assign rfl) ?_
    refine at_nil ?_
    refine at_ks [0, 2, 3, 4, 9] (by (try simp only [keep, lk, pd, enumE, Nat.reduceBEq, Nat.reduceAdd, cond_true, cond_false]); exact rfl) ?_
    refine at_then ?_
    refine at_retc ?_
    exact fin_1 rfl rfl (by
        rfl)

theorem rnodesBad_calls (c : Int) (h : c < 0 ∨ 65 ≤ c) (F : Frm) : SC Try.prog 33 #[N c] [] F (fun u H => u = .tuple #[.slice none 0 0, .slice none 0 0] ∧ H = []) := by
  refine sc_in (args := [N c]) Try.func33 rfl rfl (Nat.le_of_ble_eq_true rfl) ?_
  refine at_ks [0, 2, 3, 4, 5, 6, 7, 13, 15] (by (try simp only [keep, lk, pd, enumE, Nat.reduceBEq, Nat.reduceAdd, cond_true, cond_false]); exact rfl) ?_
  refine at_seq ?_
  refine at_region ?_
  refine st_p rfl rfl (p_assign rfl) ?_
  refine st_p rfl rfl (p_assign rfl) ?_
  refine at_nil ?_
  refine at_ks [0, 2, 3, 4, 5, 6, 7, 13, 15] (by (try simp only [keep, lk, pd, enumE, Nat.reduceBEq, Nat.reduceAdd, cond_true, cond_false]); exact rfl) ?_
  refine at_then ?_
  refine at_seq ?_
  refine at_seq ?_
  refine at_region ?_
  refine st_p rfl rfl (p_move rfl) ?_
  refine st_p rfl rfl (p_lss rfl rfl) ?_
  refine st_p rfl rfl (p_move rfl) ?_
  refine at_split 10 rfl (fun ht10 => ?_) (fun ht10 => ?_)
  · (try simp only [decide_eq_true_eq, decide_eq_false_iff_not, Bool.not_eq_true', Bool.not_eq_false', Bool.not_true, Bool.not_false, Bool.or_eq_true, Bool.and_eq_true, Int.not_lt, Int.not_le] at ht10)
    refine sg_no rfl rfl ?_
    refine sg_no rfl rfl ?_
    refine st_p rfl rfl ((by first | exact p_pick_t rfl rfl | exact p_pick_f rfl rfl)) ?_
    refine at_nil ?_
    refine at_ks [0, 2, 3, 4, 5, 6, 7, 13, 15] (by (try simp only [keep, lk, pd, enumE, Nat.reduceBEq, Nat.reduceAdd, cond_true, cond_false]); exact rfl) ?_
    refine at_then ?_
    refine at_cond_t rfl ?_
    refine at_seq ?_
    refine at_region ?_
    refine st_p rfl rfl (p_assign rfl) ?_
    refine st_p rfl rfl (p_assign rfl) ?_
    refine at_nil ?_
    refine at_ks [0, 2, 3, 4, 5, 6, 7, 13, 15] (by (try simp only [keep, lk, pd, enumE, Nat.reduceBEq, Nat.reduceAdd, cond_true, cond_false]); exact rfl) ?_
    refine at_then ?_
    refine at_retc ?_
    refine at_then_r ?_
    exact fin_2 rfl rfl rfl (by
        exact ⟨rfl, rfl⟩)
  · (try simp only [decide_eq_true_eq, decide_eq_false_iff_not, Bool.not_eq_true', Bool.not_eq_false', Bool.not_true, Bool.not_false, Bool.or_eq_true, Bool.and_eq_true, Int.not_lt, Int.not_le] at ht10)
    refine sg_p rfl rfl (p_move rfl) ?_
    refine sg_p rfl rfl (p_isT (p_geq rfl rfl) (by rw [decide_eq_true_eq]; omega)) ?_
    refine st_p rfl rfl ((by first | exact p_pick_t rfl rfl | exact p_pick_f rfl rfl)) ?_
    refine at_nil ?_
    refine at_ks [0, 2, 3, 4, 5, 6, 7, 13, 15] (by (try simp only [keep, lk, pd, enumE, Nat.reduceBEq, Nat.reduceAdd, cond_true, cond_false]); exact rfl) ?_
    refine at_then ?_
    refine at_cond_t rfl ?_
    refine at_seq ?_
    refine at_region ?_
    refine st_p rfl rfl (p_assign rfl) ?_
    refine st_p rfl rfl (p_assign rfl) ?_
    refine at_nil ?_
    refine at_ks [0, 2, 3, 4, 5, 6, 7, 13, 15] (by (try simp only [keep, lk, pd, enumE, Nat.reduceBEq, Nat.reduceAdd, cond_true, cond_false]); exact rfl) ?_
    refine at_then ?_
    refine at_retc ?_
    refine at_then_r ?_
    exact fin_2 rfl rfl rfl (by
        exact ⟨rfl, rfl⟩)

theorem rmodel_calls (F : Frm) : SC Try.prog 30 #[] [] F (fun u H => ∃ mb, u = .pointer (some ⟨mb, 0, none⟩) ∧ rmodH mb ms0 H) := by
  refine sc_in (args := []) Try.func30 rfl rfl (Nat.le_of_ble_eq_true rfl) ?_
  refine at_ks [0, 1, 2, 9] (by (try simp only [keep, lk, pd, enumE, Nat.reduceBEq, Nat.reduceAdd, cond_true, cond_false]); exact rfl) ?_
  refine at_seq ?_
  refine at_region ?_
  refine st_p rfl rfl (p_assign rfl) ?_
  refine at_nil ?_
  refine at_ks [0, 1, 2, 9] (by (try simp only [keep, lk, pd, enumE, Nat.reduceBEq, Nat.reduceAdd, cond_true, cond_false]); exact rfl) ?_
  refine at_then ?_
  refine at_seq ?_
  refine at_region ?_
  refine st_l rfl rfl (l_callP (first := []) (H1 := []) (H2 := _) (List.Perm.refl _) rfl c_58 rfl (fun F1 hF1 hs1 => (halves_calls 128 (by decide) F1).shape)) ?_
  rintro _ _ ⟨_, ⟨A0, c0, rfl, _, _, rfl⟩, rfl⟩
  refine at_hp (by (try simp only [List.take_zero, List.take_succ_cons, List.drop_zero, List.drop_succ_cons, List.drop_nil, List.length_cons, List.length_nil, Nat.zero_add, Nat.reduceAdd, List.set_cons_zero, List.set_cons_succ, List.nil_append, List.cons_append, List.append_nil, pick, List.filterMap_cons, List.filterMap_nil, List.getElem?_cons_zero, List.getElem?_cons_succ]); exact rfl) ?_
  refine st_l rfl rfl (l_callP (first := []) (H1 := []) (H2 := _) (List.Perm.refl _) rfl c_58 rfl (fun F1 hF1 hs1 => (halves_calls 8320 (by decide) F1).shape)) ?_
  rintro _ _ ⟨_, ⟨A1, c1, rfl, _, _, rfl⟩, rfl⟩
  refine at_hp (by (try simp only [List.take_zero, List.take_succ_cons, List.drop_zero, List.drop_succ_cons, List.drop_nil, List.length_cons, List.length_nil, Nat.zero_add, Nat.reduceAdd, List.set_cons_zero, List.set_cons_succ, List.nil_append, List.cons_append, List.append_nil, pick, List.filterMap_cons, List.filterMap_nil, List.getElem?_cons_zero, List.getElem?_cons_succ]); exact rfl) ?_
  refine st_l rfl rfl (l_callP (first := []) (H1 := []) (H2 := _) (List.Perm.refl _) rfl c_58 rfl (fun F1 hF1 hs1 => (halves_calls 8320 (by decide) F1).shape)) ?_
  rintro _ _ ⟨_, ⟨A2, c2, rfl, _, _, rfl⟩, rfl⟩
  refine at_hp (by (try simp only [List.take_zero, List.take_succ_cons, List.drop_zero, List.drop_succ_cons, List.drop_nil, List.length_cons, List.length_nil, Nat.zero_add, Nat.reduceAdd, List.set_cons_zero, List.set_cons_succ, List.nil_append, List.cons_append, List.append_nil, pick, List.filterMap_cons, List.filterMap_nil, List.getElem?_cons_zero, List.getElem?_cons_succ]); exact rfl) ?_
  refine st_p rfl rfl (p_build (cs := #[.slice A0 128 c0, .slice A1 8320 c1, .slice A2 8320 c2, .slice none 0 0, N 0, N 0]) rfl (fun _ => by kernel_rfl)) ?_
  refine st_l rfl rfl (l_box [.slice A0 128 c0, .slice A1 8320 c1, .slice A2 8320 c2, .slice none 0 0, N 0, N 0] rfl rfl) ?_
  rintro _ _ ⟨mb, rfl, rfl⟩
  refine at_hp (by (try simp only [List.take_zero, List.take_succ_cons, List.drop_zero, List.drop_succ_cons, List.drop_nil, List.length_cons, List.length_nil, Nat.zero_add, Nat.reduceAdd, List.set_cons_zero, List.set_cons_succ, List.nil_append, List.cons_append, List.append_nil, pick, List.filterMap_cons, List.filterMap_nil, List.getElem?_cons_zero, List.getElem?_cons_succ]); exact rfl) ?_
  refine st_p rfl rfl (p_assign rfl) ?_
  refine at_nil ?_
  refine at_ks [0, 1, 2, 9] (by (try simp only [keep, lk, pd, enumE, Nat.reduceBEq, Nat.reduceAdd, cond_true, cond_false]); exact rfl) ?_
  refine at_then ?_
  refine at_seq ?_
  refine at_seq ?_
  refine at_region ?_
  refine st_p rfl rfl (p_assign rfl) ?_
  refine at_nil ?_
  refine at_ks [0, 1, 2, 9] (by (try simp only [keep, lk, pd, enumE, Nat.reduceBEq, Nat.reduceAdd, cond_true, cond_false]); exact rfl) ?_
  refine at_then ?_
  refine at_block ?_
  refine at_nilsl 22 1 ?_
  refine at_rounds 9 ?_
  refine at_round ?_
  refine at_seq ?_
  refine at_seq ?_
  refine at_region ?_
  refine st_p rfl rfl (p_move rfl) ?_
  refine st_p rfl rfl (p_lss rfl rfl) ?_
  refine at_nil ?_
  refine at_ks [0, 1, 2, 9] (by (try simp only [keep, lk, pd, enumE, Nat.reduceBEq, Nat.reduceAdd, cond_true, cond_false]); exact rfl) ?_
  refine at_then ?_
  refine at_cond_t rfl ?_
  refine at_skip ?_
  refine at_then ?_
  refine at_seq ?_
  refine at_block ?_
  refine at_region ?_
  refine st_p rfl rfl (p_move rfl) ?_
  refine st_p rfl rfl (p_move rfl) ?_
  refine st_p rfl rfl ((by first | exact p_nil rfl | exact p_nilf rfl)) ?_
  refine st_p rfl rfl ((by first | exact p_fa0 rfl o_118_3 | exact p_fa rfl o_118_3)) ?_
  refine st_q rfl rfl ((by first | exact q_ob 0 rfl rfl r_116 (by first | rfl | assumption) | exact q_ob 1 rfl rfl r_116 (by first | rfl | assumption) | exact q_ob 2 rfl rfl r_116 (by first | rfl | assumption) | exact q_ob 3 rfl rfl r_116 (by first | rfl | assumption) | exact q_ob 4 rfl rfl r_116 (by first | rfl | assumption) | exact q_ob 5 rfl rfl r_116 (by first | rfl | assumption) | exact q_ob 6 rfl rfl r_116 (by first | rfl | assumption) | exact q_ob 7 rfl rfl r_116 (by first | rfl | assumption) | exact q_ob 8 rfl rfl r_116 (by first | rfl | assumption) | exact q_ob 9 rfl rfl r_116 (by first | rfl | assumption) | exact q_ob 10 rfl rfl r_116 (by first | rfl | assumption) | exact q_ob 11 rfl rfl r_116 (by first | rfl | assumption) | exact q_ob 12 rfl rfl r_116 (by first | rfl | assumption) | exact q_ob 13 rfl rfl r_116 (by first | rfl | assumption) | exact q_sl 0 rfl rfl r_116 (by first | rfl | assumption) | exact q_sl 1 rfl rfl r_116 (by first | rfl | assumption) | exact q_sl 2 rfl rfl r_116 (by first | rfl | assumption) | exact q_sl 3 rfl rfl r_116 (by first | rfl | assumption) | exact q_sl 4 rfl rfl r_116 (by first | rfl | assumption) | exact q_sl 5 rfl rfl r_116 (by first | rfl | assumption) | exact q_sl 6 rfl rfl r_116 (by first | rfl | assumption) | exact q_sl 7 rfl rfl r_116 (by first | rfl | assumption) | exact q_sl 8 rfl rfl r_116 (by first | rfl | assumption) | exact q_sl 9 rfl rfl r_116 (by first | rfl | assumption) | exact q_sl 10 rfl rfl r_116 (by first | rfl | assumption) | exact q_sl 11 rfl rfl r_116 (by first | rfl | assumption) | exact q_sl 12 rfl rfl r_116 (by first | rfl | assumption) | exact q_sl 13 rfl rfl r_116 (by first | rfl | assumption) | exact q_fr rfl r_116 (by assumption))) ?_
  refine st_l rfl rfl (l_bsV [N 21845, N 21845, N 21845] [N 21845, N 21845, N 21845] rfl e_22 (by decide) (by decide) rfl (by simp [Value.cells]) rfl) ?_
  rintro _ _ ⟨w0, rfl, rfl⟩
  refine at_hp (by (try simp only [List.take_zero, List.take_succ_cons, List.drop_zero, List.drop_succ_cons, List.drop_nil, List.length_cons, List.length_nil, Nat.zero_add, Nat.reduceAdd, List.set_cons_zero, List.set_cons_succ, List.nil_append, List.cons_append, List.append_nil, pick, List.filterMap_cons, List.filterMap_nil, List.getElem?_cons_zero, List.getElem?_cons_succ]); exact rfl) ?_
  refine st_l rfl rfl (l_bsV [.slice (some ⟨w0, 0, none⟩) 3 3] [.slice (some ⟨w0, 0, none⟩) 3 3] rfl e_116 (by decide) (by decide) rfl (by simp [Value.cells]) rfl) ?_
  rintro _ _ ⟨x0, rfl, rfl⟩
  refine at_hp (by (try simp only [List.take_zero, List.take_succ_cons, List.drop_zero, List.drop_succ_cons, List.drop_nil, List.length_cons, List.length_nil, Nat.zero_add, Nat.reduceAdd, List.set_cons_zero, List.set_cons_succ, List.nil_append, List.cons_append, List.append_nil, pick, List.filterMap_cons, List.filterMap_nil, List.getElem?_cons_zero, List.getElem?_cons_succ]); exact rfl) ?_
  refine st_l rfl rfl (l_app 2 0 rfl rfl e_116 rfl (by decide) rfl rfl rfl (by simp [Value.oneCell']) (by decide) (by decide) (by decide)) ?_
  rintro _ _ ⟨y0, z0, rfl, rfl⟩
  refine at_hp (by (try simp only [List.take_zero, List.take_succ_cons, List.drop_zero, List.drop_succ_cons, List.drop_nil, List.length_cons, List.length_nil, Nat.zero_add, Nat.reduceAdd, List.set_cons_zero, List.set_cons_succ, List.nil_append, List.cons_append, List.append_nil, pick, List.filterMap_cons, List.filterMap_nil, List.getElem?_cons_zero, List.getElem?_cons_succ]); exact rfl) ?_
  refine at_drop ?_
  refine st_p rfl rfl ((by first | exact p_nil rfl | exact p_nilf rfl)) ?_
  refine st_p rfl rfl ((by first | exact p_fa0 rfl o_118_3 | exact p_fa rfl o_118_3)) ?_
  refine st_l rfl rfl (l_ob 2 rfl rfl rfl rfl rfl s_116 (by simp)) ?_
  rintro _ _ ⟨rfl, rfl⟩
  refine at_hp (by (try simp only [List.take_zero, List.take_succ_cons, List.drop_zero, List.drop_succ_cons, List.drop_nil, List.length_cons, List.length_nil, Nat.zero_add, Nat.reduceAdd, List.set_cons_zero, List.set_cons_succ, List.nil_append, List.cons_append, List.append_nil, pick, List.filterMap_cons, List.filterMap_nil, List.getElem?_cons_zero, List.getElem?_cons_succ]); exact rfl) ?_
  refine at_nil ?_
  refine at_ks [0, 1, 2, 9] (by (try simp only [keep, lk, pd, enumE, Nat.reduceBEq, Nat.reduceAdd, cond_true, cond_false]); exact rfl) ?_
  refine at_inb ?_
  refine at_then ?_
  refine at_region ?_
  refine st_p rfl rfl (p_move rfl) ?_
  refine st_p rfl rfl (p_add (r := 1) rfl rfl (by decide)) ?_
  refine st_p rfl rfl (p_assign rfl) ?_
  refine at_nil ?_
  refine at_ks [0, 1, 2, 9] (by (try simp only [keep, lk, pd, enumE, Nat.reduceBEq, Nat.reduceAdd, cond_true, cond_false]); exact rfl) ?_
  refine at_then ?_
  refine at_round ?_
  refine at_seq ?_
  refine at_seq ?_
  refine at_region ?_
  refine st_p rfl rfl (p_move rfl) ?_
  refine st_p rfl rfl (p_lss rfl rfl) ?_
  refine at_nil ?_
  refine at_ks [0, 1, 2, 9] (by (try simp only [keep, lk, pd, enumE, Nat.reduceBEq, Nat.reduceAdd, cond_true, cond_false]); exact rfl) ?_
  refine at_then ?_
  refine at_cond_t rfl ?_
  refine at_skip ?_
  refine at_then ?_
  refine at_seq ?_
  refine at_block ?_
  refine at_region ?_
  refine st_p rfl rfl (p_move rfl) ?_
  refine st_p rfl rfl (p_move rfl) ?_
  refine st_p rfl rfl ((by first | exact p_nil rfl | exact p_nilf rfl)) ?_
  refine st_p rfl rfl ((by first | exact p_fa0 rfl o_118_3 | exact p_fa rfl o_118_3)) ?_
  refine st_q rfl rfl ((by first | exact q_ob 0 rfl rfl r_116 (by first | rfl | assumption) | exact q_ob 1 rfl rfl r_116 (by first | rfl | assumption) | exact q_ob 2 rfl rfl r_116 (by first | rfl | assumption) | exact q_ob 3 rfl rfl r_116 (by first | rfl | assumption) | exact q_ob 4 rfl rfl r_116 (by first | rfl | assumption) | exact q_ob 5 rfl rfl r_116 (by first | rfl | assumption) | exact q_ob 6 rfl rfl r_116 (by first | rfl | assumption) | exact q_ob 7 rfl rfl r_116 (by first | rfl | assumption) | exact q_ob 8 rfl rfl r_116 (by first | rfl | assumption) | exact q_ob 9 rfl rfl r_116 (by first | rfl | assumption) | exact q_ob 10 rfl rfl r_116 (by first | rfl | assumption) | exact q_ob 11 rfl rfl r_116 (by first | rfl | assumption) | exact q_ob 12 rfl rfl r_116 (by first | rfl | assumption) | exact q_ob 13 rfl rfl r_116 (by first | rfl | assumption) | exact q_sl 0 rfl rfl r_116 (by first | rfl | assumption) | exact q_sl 1 rfl rfl r_116 (by first | rfl | assumption) | exact q_sl 2 rfl rfl r_116 (by first | rfl | assumption) | exact q_sl 3 rfl rfl r_116 (by first | rfl | assumption) | exact q_sl 4 rfl rfl r_116 (by first | rfl | assumption) | exact q_sl 5 rfl rfl r_116 (by first | rfl | assumption) | exact q_sl 6 rfl rfl r_116 (by first | rfl | assumption) | exact q_sl 7 rfl rfl r_116 (by first | rfl | assumption) | exact q_sl 8 rfl rfl r_116 (by first | rfl | assumption) | exact q_sl 9 rfl rfl r_116 (by first | rfl | assumption) | exact q_sl 10 rfl rfl r_116 (by first | rfl | assumption) | exact q_sl 11 rfl rfl r_116 (by first | rfl | assumption) | exact q_sl 12 rfl rfl r_116 (by first | rfl | assumption) | exact q_sl 13 rfl rfl r_116 (by first | rfl | assumption) | exact q_fr rfl r_116 (by assumption))) ?_
  refine st_l rfl rfl (l_bsV [N 21845, N 21845, N 21845] [N 21845, N 21845, N 21845] rfl e_22 (by decide) (by decide) rfl (by simp [Value.cells]) rfl) ?_
  rintro _ _ ⟨w1, rfl, rfl⟩
  refine at_hp (by (try simp only [List.take_zero, List.take_succ_cons, List.drop_zero, List.drop_succ_cons, List.drop_nil, List.length_cons, List.length_nil, Nat.zero_add, Nat.reduceAdd, List.set_cons_zero, List.set_cons_succ, List.nil_append, List.cons_append, List.append_nil, pick, List.filterMap_cons, List.filterMap_nil, List.getElem?_cons_zero, List.getElem?_cons_succ]); exact rfl) ?_
  refine st_l rfl rfl (l_bsV [.slice (some ⟨w1, 0, none⟩) 3 3] [.slice (some ⟨w1, 0, none⟩) 3 3] rfl e_116 (by decide) (by decide) rfl (by simp [Value.cells]) rfl) ?_
  rintro _ _ ⟨x1, rfl, rfl⟩
  refine at_hp (by (try simp only [List.take_zero, List.take_succ_cons, List.drop_zero, List.drop_succ_cons, List.drop_nil, List.length_cons, List.length_nil, Nat.zero_add, Nat.reduceAdd, List.set_cons_zero, List.set_cons_succ, List.nil_append, List.cons_append, List.append_nil, pick, List.filterMap_cons, List.filterMap_nil, List.getElem?_cons_zero, List.getElem?_cons_succ]); exact rfl) ?_
  refine st_l rfl rfl (l_app 3 0 rfl rfl e_116 rfl (by decide) rfl rfl rfl (by simp [Value.oneCell']) (by decide) (by decide) (by decide)) ?_
  rintro _ _ ⟨y1, z1, rfl, rfl⟩
  refine at_hp (by (try simp only [List.take_zero, List.take_succ_cons, List.drop_zero, List.drop_succ_cons, List.drop_nil, List.length_cons, List.length_nil, Nat.zero_add, Nat.reduceAdd, List.set_cons_zero, List.set_cons_succ, List.nil_append, List.cons_append, List.append_nil, pick, List.filterMap_cons, List.filterMap_nil, List.getElem?_cons_zero, List.getElem?_cons_succ]); exact rfl) ?_
  refine at_drop ?_
  refine st_p rfl rfl ((by first | exact p_nil rfl | exact p_nilf rfl)) ?_
  refine st_p rfl rfl ((by first | exact p_fa0 rfl o_118_3 | exact p_fa rfl o_118_3)) ?_
  refine st_l rfl rfl (l_ob 3 rfl rfl rfl rfl rfl s_116 (by simp)) ?_
  rintro _ _ ⟨rfl, rfl⟩
  refine at_hp (by (try simp only [List.take_zero, List.take_succ_cons, List.drop_zero, List.drop_succ_cons, List.drop_nil, List.length_cons, List.length_nil, Nat.zero_add, Nat.reduceAdd, List.set_cons_zero, List.set_cons_succ, List.nil_append, List.cons_append, List.append_nil, pick, List.filterMap_cons, List.filterMap_nil, List.getElem?_cons_zero, List.getElem?_cons_succ]); exact rfl) ?_
  refine at_nil ?_
  refine at_ks [0, 1, 2, 9] (by (try simp only [keep, lk, pd, enumE, Nat.reduceBEq, Nat.reduceAdd, cond_true, cond_false]); exact rfl) ?_
  refine at_inb ?_
  refine at_then ?_
  refine at_region ?_
  refine st_p rfl rfl (p_move rfl) ?_
  refine st_p rfl rfl (p_add (r := 2) rfl rfl (by decide)) ?_
  refine st_p rfl rfl (p_assign rfl) ?_
  refine at_nil ?_
  refine at_ks [0, 1, 2, 9] (by (try simp only [keep, lk, pd, enumE, Nat.reduceBEq, Nat.reduceAdd, cond_true, cond_false]); exact rfl) ?_
  refine at_then ?_
  refine at_round ?_
  refine at_seq ?_
  refine at_seq ?_
  refine at_region ?_
  refine st_p rfl rfl (p_move rfl) ?_
  refine st_p rfl rfl (p_lss rfl rfl) ?_
  refine at_nil ?_
  refine at_ks [0, 1, 2, 9] (by (try simp only [keep, lk, pd, enumE, Nat.reduceBEq, Nat.reduceAdd, cond_true, cond_false]); exact rfl) ?_
  refine at_then ?_
  refine at_cond_t rfl ?_
  refine at_skip ?_
  refine at_then ?_
  refine at_seq ?_
  refine at_block ?_
  refine at_region ?_
  refine st_p rfl rfl (p_move rfl) ?_
  refine st_p rfl rfl (p_move rfl) ?_
  refine st_p rfl rfl ((by first | exact p_nil rfl | exact p_nilf rfl)) ?_
  refine st_p rfl rfl ((by first | exact p_fa0 rfl o_118_3 | exact p_fa rfl o_118_3)) ?_
  refine st_q rfl rfl ((by first | exact q_ob 0 rfl rfl r_116 (by first | rfl | assumption) | exact q_ob 1 rfl rfl r_116 (by first | rfl | assumption) | exact q_ob 2 rfl rfl r_116 (by first | rfl | assumption) | exact q_ob 3 rfl rfl r_116 (by first | rfl | assumption) | exact q_ob 4 rfl rfl r_116 (by first | rfl | assumption) | exact q_ob 5 rfl rfl r_116 (by first | rfl | assumption) | exact q_ob 6 rfl rfl r_116 (by first | rfl | assumption) | exact q_ob 7 rfl rfl r_116 (by first | rfl | assumption) | exact q_ob 8 rfl rfl r_116 (by first | rfl | assumption) | exact q_ob 9 rfl rfl r_116 (by first | rfl | assumption) | exact q_ob 10 rfl rfl r_116 (by first | rfl | assumption) | exact q_ob 11 rfl rfl r_116 (by first | rfl | assumption) | exact q_ob 12 rfl rfl r_116 (by first | rfl | assumption) | exact q_ob 13 rfl rfl r_116 (by first | rfl | assumption) | exact q_sl 0 rfl rfl r_116 (by first | rfl | assumption) | exact q_sl 1 rfl rfl r_116 (by first | rfl | assumption) | exact q_sl 2 rfl rfl r_116 (by first | rfl | assumption) | exact q_sl 3 rfl rfl r_116 (by first | rfl | assumption) | exact q_sl 4 rfl rfl r_116 (by first | rfl | assumption) | exact q_sl 5 rfl rfl r_116 (by first | rfl | assumption) | exact q_sl 6 rfl rfl r_116 (by first | rfl | assumption) | exact q_sl 7 rfl rfl r_116 (by first | rfl | assumption) | exact q_sl 8 rfl rfl r_116 (by first | rfl | assumption) | exact q_sl 9 rfl rfl r_116 (by first | rfl | assumption) | exact q_sl 10 rfl rfl r_116 (by first | rfl | assumption) | exact q_sl 11 rfl rfl r_116 (by first | rfl | assumption) | exact q_sl 12 rfl rfl r_116 (by first | rfl | assumption) | exact q_sl 13 rfl rfl r_116 (by first | rfl | assumption) | exact q_fr rfl r_116 (by assumption))) ?_
  refine st_l rfl rfl (l_bsV [N 21845, N 21845, N 21845] [N 21845, N 21845, N 21845] rfl e_22 (by decide) (by decide) rfl (by simp [Value.cells]) rfl) ?_
  rintro _ _ ⟨w2, rfl, rfl⟩
  refine at_hp (by (try simp only [List.take_zero, List.take_succ_cons, List.drop_zero, List.drop_succ_cons, List.drop_nil, List.length_cons, List.length_nil, Nat.zero_add, Nat.reduceAdd, List.set_cons_zero, List.set_cons_succ, List.nil_append, List.cons_append, List.append_nil, pick, List.filterMap_cons, List.filterMap_nil, List.getElem?_cons_zero, List.getElem?_cons_succ]); exact rfl) ?_
  refine st_l rfl rfl (l_bsV [.slice (some ⟨w2, 0, none⟩) 3 3] [.slice (some ⟨w2, 0, none⟩) 3 3] rfl e_116 (by decide) (by decide) rfl (by simp [Value.cells]) rfl) ?_
  rintro _ _ ⟨x2, rfl, rfl⟩
  refine at_hp (by (try simp only [List.take_zero, List.take_succ_cons, List.drop_zero, List.drop_succ_cons, List.drop_nil, List.length_cons, List.length_nil, Nat.zero_add, Nat.reduceAdd, List.set_cons_zero, List.set_cons_succ, List.nil_append, List.cons_append, List.append_nil, pick, List.filterMap_cons, List.filterMap_nil, List.getElem?_cons_zero, List.getElem?_cons_succ]); exact rfl) ?_
  refine st_l rfl rfl (l_app 4 0 rfl rfl e_116 rfl (by decide) rfl rfl rfl (by simp [Value.oneCell']) (by decide) (by decide) (by decide)) ?_
  rintro _ _ ⟨y2, z2, rfl, rfl⟩
  refine at_hp (by (try simp only [List.take_zero, List.take_succ_cons, List.drop_zero, List.drop_succ_cons, List.drop_nil, List.length_cons, List.length_nil, Nat.zero_add, Nat.reduceAdd, List.set_cons_zero, List.set_cons_succ, List.nil_append, List.cons_append, List.append_nil, pick, List.filterMap_cons, List.filterMap_nil, List.getElem?_cons_zero, List.getElem?_cons_succ]); exact rfl) ?_
  refine at_drop ?_
  refine st_p rfl rfl ((by first | exact p_nil rfl | exact p_nilf rfl)) ?_
  refine st_p rfl rfl ((by first | exact p_fa0 rfl o_118_3 | exact p_fa rfl o_118_3)) ?_
  refine st_l rfl rfl (l_ob 4 rfl rfl rfl rfl rfl s_116 (by simp)) ?_
  rintro _ _ ⟨rfl, rfl⟩
  refine at_hp (by (try simp only [List.take_zero, List.take_succ_cons, List.drop_zero, List.drop_succ_cons, List.drop_nil, List.length_cons, List.length_nil, Nat.zero_add, Nat.reduceAdd, List.set_cons_zero, List.set_cons_succ, List.nil_append, List.cons_append, List.append_nil, pick, List.filterMap_cons, List.filterMap_nil, List.getElem?_cons_zero, List.getElem?_cons_succ]); exact rfl) ?_
  refine at_nil ?_
  refine at_ks [0, 1, 2, 9] (by (try simp only [keep, lk, pd, enumE, Nat.reduceBEq, Nat.reduceAdd, cond_true, cond_false]); exact rfl) ?_
  refine at_inb ?_
  refine at_then ?_
  refine at_region ?_
  refine st_p rfl rfl (p_move rfl) ?_
  refine st_p rfl rfl (p_add (r := 3) rfl rfl (by decide)) ?_
  refine st_p rfl rfl (p_assign rfl) ?_
  refine at_nil ?_
  refine at_ks [0, 1, 2, 9] (by (try simp only [keep, lk, pd, enumE, Nat.reduceBEq, Nat.reduceAdd, cond_true, cond_false]); exact rfl) ?_
  refine at_then ?_
  refine at_round ?_
  refine at_seq ?_
  refine at_seq ?_
  refine at_region ?_
  refine st_p rfl rfl (p_move rfl) ?_
  refine st_p rfl rfl (p_lss rfl rfl) ?_
  refine at_nil ?_
  refine at_ks [0, 1, 2, 9] (by (try simp only [keep, lk, pd, enumE, Nat.reduceBEq, Nat.reduceAdd, cond_true, cond_false]); exact rfl) ?_
  refine at_then ?_
  refine at_cond_t rfl ?_
  refine at_skip ?_
  refine at_then ?_
  refine at_seq ?_
  refine at_block ?_
  refine at_region ?_
  refine st_p rfl rfl (p_move rfl) ?_
  refine st_p rfl rfl (p_move rfl) ?_
  refine st_p rfl rfl ((by first | exact p_nil rfl | exact p_nilf rfl)) ?_
  refine st_p rfl rfl ((by first | exact p_fa0 rfl o_118_3 | exact p_fa rfl o_118_3)) ?_
  refine st_q rfl rfl ((by first | exact q_ob 0 rfl rfl r_116 (by first | rfl | assumption) | exact q_ob 1 rfl rfl r_116 (by first | rfl | assumption) | exact q_ob 2 rfl rfl r_116 (by first | rfl | assumption) | exact q_ob 3 rfl rfl r_116 (by first | rfl | assumption) | exact q_ob 4 rfl rfl r_116 (by first | rfl | assumption) | exact q_ob 5 rfl rfl r_116 (by first | rfl | assumption) | exact q_ob 6 rfl rfl r_116 (by first | rfl | assumption) | exact q_ob 7 rfl rfl r_116 (by first | rfl | assumption) | exact q_ob 8 rfl rfl r_116 (by first | rfl | assumption) | exact q_ob 9 rfl rfl r_116 (by first | rfl | assumption) | exact q_ob 10 rfl rfl r_116 (by first | rfl | assumption) | exact q_ob 11 rfl rfl r_116 (by first | rfl | assumption) | exact q_ob 12 rfl rfl r_116 (by first | rfl | assumption) | exact q_ob 13 rfl rfl r_116 (by first | rfl | assumption) | exact q_sl 0 rfl rfl r_116 (by first | rfl | assumption) | exact q_sl 1 rfl rfl r_116 (by first | rfl | assumption) | exact q_sl 2 rfl rfl r_116 (by first | rfl | assumption) | exact q_sl 3 rfl rfl r_116 (by first | rfl | assumption) | exact q_sl 4 rfl rfl r_116 (by first | rfl | assumption) | exact q_sl 5 rfl rfl r_116 (by first | rfl | assumption) | exact q_sl 6 rfl rfl r_116 (by first | rfl | assumption) | exact q_sl 7 rfl rfl r_116 (by first | rfl | assumption) | exact q_sl 8 rfl rfl r_116 (by first | rfl | assumption) | exact q_sl 9 rfl rfl r_116 (by first | rfl | assumption) | exact q_sl 10 rfl rfl r_116 (by first | rfl | assumption) | exact q_sl 11 rfl rfl r_116 (by first | rfl | assumption) | exact q_sl 12 rfl rfl r_116 (by first | rfl | assumption) | exact q_sl 13 rfl rfl r_116 (by first | rfl | assumption) | exact q_fr rfl r_116 (by assumption))) ?_
  refine st_l rfl rfl (l_bsV [N 21845, N 21845, N 21845] [N 21845, N 21845, N 21845] rfl e_22 (by decide) (by decide) rfl (by simp [Value.cells]) rfl) ?_
  rintro _ _ ⟨w3, rfl, rfl⟩
  refine at_hp (by (try simp only [List.take_zero, List.take_succ_cons, List.drop_zero, List.drop_succ_cons, List.drop_nil, List.length_cons, List.length_nil, Nat.zero_add, Nat.reduceAdd, List.set_cons_zero, List.set_cons_succ, List.nil_append, List.cons_append, List.append_nil, pick, List.filterMap_cons, List.filterMap_nil, List.getElem?_cons_zero, List.getElem?_cons_succ]); exact rfl) ?_
  refine st_l rfl rfl (l_bsV [.slice (some ⟨w3, 0, none⟩) 3 3] [.slice (some ⟨w3, 0, none⟩) 3 3] rfl e_116 (by decide) (by decide) rfl (by simp [Value.cells]) rfl) ?_
  rintro _ _ ⟨x3, rfl, rfl⟩
  refine at_hp (by (try simp only [List.take_zero, List.take_succ_cons, List.drop_zero, List.drop_succ_cons, List.drop_nil, List.length_cons, List.length_nil, Nat.zero_add, Nat.reduceAdd, List.set_cons_zero, List.set_cons_succ, List.nil_append, List.cons_append, List.append_nil, pick, List.filterMap_cons, List.filterMap_nil, List.getElem?_cons_zero, List.getElem?_cons_succ]); exact rfl) ?_
  refine st_l rfl rfl (l_app 5 0 rfl rfl e_116 rfl (by decide) rfl rfl rfl (by simp [Value.oneCell']) (by decide) (by decide) (by decide)) ?_
  rintro _ _ ⟨y3, z3, rfl, rfl⟩
  refine at_hp (by (try simp only [List.take_zero, List.take_succ_cons, List.drop_zero, List.drop_succ_cons, List.drop_nil, List.length_cons, List.length_nil, Nat.zero_add, Nat.reduceAdd, List.set_cons_zero, List.set_cons_succ, List.nil_append, List.cons_append, List.append_nil, pick, List.filterMap_cons, List.filterMap_nil, List.getElem?_cons_zero, List.getElem?_cons_succ]); exact rfl) ?_
  refine at_drop ?_
  refine st_p rfl rfl ((by first | exact p_nil rfl | exact p_nilf rfl)) ?_
  refine st_p rfl rfl ((by first | exact p_fa0 rfl o_118_3 | exact p_fa rfl o_118_3)) ?_
  refine st_l rfl rfl (l_ob 5 rfl rfl rfl rfl rfl s_116 (by simp)) ?_
  rintro _ _ ⟨rfl, rfl⟩
  refine at_hp (by (try simp only [List.take_zero, List.take_succ_cons, List.drop_zero, List.drop_succ_cons, List.drop_nil, List.length_cons, List.length_nil, Nat.zero_add, Nat.reduceAdd, List.set_cons_zero, List.set_cons_succ, List.nil_append, List.cons_append, List.append_nil, pick, List.filterMap_cons, List.filterMap_nil, List.getElem?_cons_zero, List.getElem?_cons_succ]); exact rfl) ?_
  refine at_nil ?_
  refine at_ks [0, 1, 2, 9] (by (try simp only [keep, lk, pd, enumE, Nat.reduceBEq, Nat.reduceAdd, cond_true, cond_false]); exact rfl) ?_
  refine at_inb ?_
  refine at_then ?_
  refine at_region ?_
  refine st_p rfl rfl (p_move rfl) ?_
  refine st_p rfl rfl (p_add (r := 4) rfl rfl (by decide)) ?_
  refine st_p rfl rfl (p_assign rfl) ?_
  refine at_nil ?_
  refine at_ks [0, 1, 2, 9] (by (try simp only [keep, lk, pd, enumE, Nat.reduceBEq, Nat.reduceAdd, cond_true, cond_false]); exact rfl) ?_
  refine at_then ?_
  refine at_round ?_
  refine at_seq ?_
  refine at_seq ?_
  refine at_region ?_
  refine st_p rfl rfl (p_move rfl) ?_
  refine st_p rfl rfl (p_lss rfl rfl) ?_
  refine at_nil ?_
  refine at_ks [0, 1, 2, 9] (by (try simp only [keep, lk, pd, enumE, Nat.reduceBEq, Nat.reduceAdd, cond_true, cond_false]); exact rfl) ?_
  refine at_then ?_
  refine at_cond_t rfl ?_
  refine at_skip ?_
  refine at_then ?_
  refine at_seq ?_
  refine at_block ?_
  refine at_region ?_
  refine st_p rfl rfl (p_move rfl) ?_
  refine st_p rfl rfl (p_move rfl) ?_
  refine st_p rfl rfl ((by first | exact p_nil rfl | exact p_nilf rfl)) ?_
  refine st_p rfl rfl ((by first | exact p_fa0 rfl o_118_3 | exact p_fa rfl o_118_3)) ?_
  refine st_q rfl rfl ((by first | exact q_ob 0 rfl rfl r_116 (by first | rfl | assumption) | exact q_ob 1 rfl rfl r_116 (by first | rfl | assumption) | exact q_ob 2 rfl rfl r_116 (by first | rfl | assumption) | exact q_ob 3 rfl rfl r_116 (by first | rfl | assumption) | exact q_ob 4 rfl rfl r_116 (by first | rfl | assumption) | exact q_ob 5 rfl rfl r_116 (by first | rfl | assumption) | exact q_ob 6 rfl rfl r_116 (by first | rfl | assumption) | exact q_ob 7 rfl rfl r_116 (by first | rfl | assumption) | exact q_ob 8 rfl rfl r_116 (by first | rfl | assumption) | exact q_ob 9 rfl rfl r_116 (by first | rfl | assumption) | exact q_ob 10 rfl rfl r_116 (by first | rfl | assumption) | exact q_ob 11 rfl rfl r_116 (by first | rfl | assumption) | exact q_ob 12 rfl rfl r_116 (by first | rfl | assumption) | exact q_ob 13 rfl rfl r_116 (by first | rfl | assumption) | exact q_sl 0 rfl rfl r_116 (by first | rfl | assumption) | exact q_sl 1 rfl rfl r_116 (by first | rfl | assumption) | exact q_sl 2 rfl rfl r_116 (by first | rfl | assumption) | exact q_sl 3 rfl rfl r_116 (by first | rfl | assumption) | exact q_sl 4 rfl rfl r_116 (by first | rfl | assumption) | exact q_sl 5 rfl rfl r_116 (by first | rfl | assumption) | exact q_sl 6 rfl rfl r_116 (by first | rfl | assumption) | exact q_sl 7 rfl rfl r_116 (by first | rfl | assumption) | exact q_sl 8 rfl rfl r_116 (by first | rfl | assumption) | exact q_sl 9 rfl rfl r_116 (by first | rfl | assumption) | exact q_sl 10 rfl rfl r_116 (by first | rfl | assumption) | exact q_sl 11 rfl rfl r_116 (by first | rfl | assumption) | exact q_sl 12 rfl rfl r_116 (by first | rfl | assumption) | exact q_sl 13 rfl rfl r_116 (by first | rfl | assumption) | exact q_fr rfl r_116 (by assumption))) ?_
  refine st_l rfl rfl (l_bsV [N 21845, N 21845, N 21845] [N 21845, N 21845, N 21845] rfl e_22 (by decide) (by decide) rfl (by simp [Value.cells]) rfl) ?_
  rintro _ _ ⟨w4, rfl, rfl⟩
  refine at_hp (by (try simp only [List.take_zero, List.take_succ_cons, List.drop_zero, List.drop_succ_cons, List.drop_nil, List.length_cons, List.length_nil, Nat.zero_add, Nat.reduceAdd, List.set_cons_zero, List.set_cons_succ, List.nil_append, List.cons_append, List.append_nil, pick, List.filterMap_cons, List.filterMap_nil, List.getElem?_cons_zero, List.getElem?_cons_succ]); exact rfl) ?_
  refine st_l rfl rfl (l_bsV [.slice (some ⟨w4, 0, none⟩) 3 3] [.slice (some ⟨w4, 0, none⟩) 3 3] rfl e_116 (by decide) (by decide) rfl (by simp [Value.cells]) rfl) ?_
  rintro _ _ ⟨x4, rfl, rfl⟩
  refine at_hp (by (try simp only [List.take_zero, List.take_succ_cons, List.drop_zero, List.drop_succ_cons, List.drop_nil, List.length_cons, List.length_nil, Nat.zero_add, Nat.reduceAdd, List.set_cons_zero, List.set_cons_succ, List.nil_append, List.cons_append, List.append_nil, pick, List.filterMap_cons, List.filterMap_nil, List.getElem?_cons_zero, List.getElem?_cons_succ]); exact rfl) ?_
  refine st_l rfl rfl (l_app 6 0 rfl rfl e_116 rfl (by decide) rfl rfl rfl (by simp [Value.oneCell']) (by decide) (by decide) (by decide)) ?_
  rintro _ _ ⟨y4, z4, rfl, rfl⟩
  refine at_hp (by (try simp only [List.take_zero, List.take_succ_cons, List.drop_zero, List.drop_succ_cons, List.drop_nil, List.length_cons, List.length_nil, Nat.zero_add, Nat.reduceAdd, List.set_cons_zero, List.set_cons_succ, List.nil_append, List.cons_append, List.append_nil, pick, List.filterMap_cons, List.filterMap_nil, List.getElem?_cons_zero, List.getElem?_cons_succ]); exact rfl) ?_
  refine at_drop ?_
  refine st_p rfl rfl ((by first | exact p_nil rfl | exact p_nilf rfl)) ?_
  refine st_p rfl rfl ((by first | exact p_fa0 rfl o_118_3 | exact p_fa rfl o_118_3)) ?_
  refine st_l rfl rfl (l_ob 6 rfl rfl rfl rfl rfl s_116 (by simp)) ?_
  rintro _ _ ⟨rfl, rfl⟩
  refine at_hp (by (try simp only [List.take_zero, List.take_succ_cons, List.drop_zero, List.drop_succ_cons, List.drop_nil, List.length_cons, List.length_nil, Nat.zero_add, Nat.reduceAdd, List.set_cons_zero, List.set_cons_succ, List.nil_append, List.cons_append, List.append_nil, pick, List.filterMap_cons, List.filterMap_nil, List.getElem?_cons_zero, List.getElem?_cons_succ]); exact rfl) ?_
  refine at_nil ?_
  refine at_ks [0, 1, 2, 9] (by (try simp only [keep, lk, pd, enumE, Nat.reduceBEq, Nat.reduceAdd, cond_true, cond_false]); exact rfl) ?_
  refine at_inb ?_
  refine at_then ?_
  refine at_region ?_
  refine st_p rfl rfl (p_move rfl) ?_
  refine st_p rfl rfl (p_add (r := 5) rfl rfl (by decide)) ?_
  refine st_p rfl rfl (p_assign rfl) ?_
  refine at_nil ?_
  refine at_ks [0, 1, 2, 9] (by (try simp only [keep, lk, pd, enumE, Nat.reduceBEq, Nat.reduceAdd, cond_true, cond_false]); exact rfl) ?_
  refine at_then ?_
  refine at_round ?_
  refine at_seq ?_
  refine at_seq ?_
  refine at_region ?_
  refine st_p rfl rfl (p_move rfl) ?_
  refine st_p rfl rfl (p_lss rfl rfl) ?_
  refine at_nil ?_
  refine at_ks [0, 1, 2, 9] (by (try simp only [keep, lk, pd, enumE, Nat.reduceBEq, Nat.reduceAdd, cond_true, cond_false]); exact rfl) ?_
  refine at_then ?_
  refine at_cond_t rfl ?_
  refine at_skip ?_
  refine at_then ?_
  refine at_seq ?_
  refine at_block ?_
  refine at_region ?_
  refine st_p rfl rfl (p_move rfl) ?_
  refine st_p rfl rfl (p_move rfl) ?_
  refine st_p rfl rfl ((by first | exact p_nil rfl | exact p_nilf rfl)) ?_
  refine st_p rfl rfl ((by first | exact p_fa0 rfl o_118_3 | exact p_fa rfl o_118_3)) ?_
  refine st_q rfl rfl ((by first | exact q_ob 0 rfl rfl r_116 (by first | rfl | assumption) | exact q_ob 1 rfl rfl r_116 (by first | rfl | assumption) | exact q_ob 2 rfl rfl r_116 (by first | rfl | assumption) | exact q_ob 3 rfl rfl r_116 (by first | rfl | assumption) | exact q_ob 4 rfl rfl r_116 (by first | rfl | assumption) | exact q_ob 5 rfl rfl r_116 (by first | rfl | assumption) | exact q_ob 6 rfl rfl r_116 (by first | rfl | assumption) | exact q_ob 7 rfl rfl r_116 (by first | rfl | assumption) | exact q_ob 8 rfl rfl r_116 (by first | rfl | assumption) | exact q_ob 9 rfl rfl r_116 (by first | rfl | assumption) | exact q_ob 10 rfl rfl r_116 (by first | rfl | assumption) | exact q_ob 11 rfl rfl r_116 (by first | rfl | assumption) | exact q_ob 12 rfl rfl r_116 (by first | rfl | assumption) | exact q_ob 13 rfl rfl r_116 (by first | rfl | assumption) | exact q_sl 0 rfl rfl r_116 (by first | rfl | assumption) | exact q_sl 1 rfl rfl r_116 (by first | rfl | assumption) | exact q_sl 2 rfl rfl r_116 (by first | rfl | assumption) | exact q_sl 3 rfl rfl r_116 (by first | rfl | assumption) | exact q_sl 4 rfl rfl r_116 (by first | rfl | assumption) | exact q_sl 5 rfl rfl r_116 (by first | rfl | assumption) | exact q_sl 6 rfl rfl r_116 (by first | rfl | assumption) | exact q_sl 7 rfl rfl r_116 (by first | rfl | assumption) | exact q_sl 8 rfl rfl r_116 (by first | rfl | assumption) | exact q_sl 9 rfl rfl r_116 (by first | rfl | assumption) | exact q_sl 10 rfl rfl r_116 (by first | rfl | assumption) | exact q_sl 11 rfl rfl r_116 (by first | rfl | assumption) | exact q_sl 12 rfl rfl r_116 (by first | rfl | assumption) | exact q_sl 13 rfl rfl r_116 (by first | rfl | assumption) | exact q_fr rfl r_116 (by assumption))) ?_
  refine st_l rfl rfl (l_bsV [N 21845, N 21845, N 21845] [N 21845, N 21845, N 21845] rfl e_22 (by decide) (by decide) rfl (by simp [Value.cells]) rfl) ?_
  rintro _ _ ⟨w5, rfl, rfl⟩
  refine at_hp (by (try simp only [List.take_zero, List.take_succ_cons, List.drop_zero, List.drop_succ_cons, List.drop_nil, List.length_cons, List.length_nil, Nat.zero_add, Nat.reduceAdd, List.set_cons_zero, List.set_cons_succ, List.nil_append, List.cons_append, List.append_nil, pick, List.filterMap_cons, List.filterMap_nil, List.getElem?_cons_zero, List.getElem?_cons_succ]); exact rfl) ?_
  refine st_l rfl rfl (l_bsV [.slice (some ⟨w5, 0, none⟩) 3 3] [.slice (some ⟨w5, 0, none⟩) 3 3] rfl e_116 (by decide) (by decide) rfl (by simp [Value.cells]) rfl) ?_
  rintro _ _ ⟨x5, rfl, rfl⟩
  refine at_hp (by (try simp only [List.take_zero, List.take_succ_cons, List.drop_zero, List.drop_succ_cons, List.drop_nil, List.length_cons, List.length_nil, Nat.zero_add, Nat.reduceAdd, List.set_cons_zero, List.set_cons_succ, List.nil_append, List.cons_append, List.append_nil, pick, List.filterMap_cons, List.filterMap_nil, List.getElem?_cons_zero, List.getElem?_cons_succ]); exact rfl) ?_
  refine st_l rfl rfl (l_app 7 0 rfl rfl e_116 rfl (by decide) rfl rfl rfl (by simp [Value.oneCell']) (by decide) (by decide) (by decide)) ?_
  rintro _ _ ⟨y5, z5, rfl, rfl⟩
  refine at_hp (by (try simp only [List.take_zero, List.take_succ_cons, List.drop_zero, List.drop_succ_cons, List.drop_nil, List.length_cons, List.length_nil, Nat.zero_add, Nat.reduceAdd, List.set_cons_zero, List.set_cons_succ, List.nil_append, List.cons_append, List.append_nil, pick, List.filterMap_cons, List.filterMap_nil, List.getElem?_cons_zero, List.getElem?_cons_succ]); exact rfl) ?_
  refine at_drop ?_
  refine st_p rfl rfl ((by first | exact p_nil rfl | exact p_nilf rfl)) ?_
  refine st_p rfl rfl ((by first | exact p_fa0 rfl o_118_3 | exact p_fa rfl o_118_3)) ?_
  refine st_l rfl rfl (l_ob 7 rfl rfl rfl rfl rfl s_116 (by simp)) ?_
  rintro _ _ ⟨rfl, rfl⟩
  refine at_hp (by (try simp only [List.take_zero, List.take_succ_cons, List.drop_zero, List.drop_succ_cons, List.drop_nil, List.length_cons, List.length_nil, Nat.zero_add, Nat.reduceAdd, List.set_cons_zero, List.set_cons_succ, List.nil_append, List.cons_append, List.append_nil, pick, List.filterMap_cons, List.filterMap_nil, List.getElem?_cons_zero, List.getElem?_cons_succ]); exact rfl) ?_
  refine at_nil ?_
  refine at_ks [0, 1, 2, 9] (by (try simp only [keep, lk, pd, enumE, Nat.reduceBEq, Nat.reduceAdd, cond_true, cond_false]); exact rfl) ?_
  refine at_inb ?_
  refine at_then ?_
  refine at_region ?_
  refine st_p rfl rfl (p_move rfl) ?_
  refine st_p rfl rfl (p_add (r := 6) rfl rfl (by decide)) ?_
  refine st_p rfl rfl (p_assign rfl) ?_
  refine at_nil ?_
  refine at_ks [0, 1, 2, 9] (by (try simp only [keep, lk, pd, enumE, Nat.reduceBEq, Nat.reduceAdd, cond_true, cond_false]); exact rfl) ?_
  refine at_then ?_
  refine at_round ?_
  refine at_seq ?_
  refine at_seq ?_
  refine at_region ?_
  refine st_p rfl rfl (p_move rfl) ?_
  refine st_p rfl rfl (p_lss rfl rfl) ?_
  refine at_nil ?_
  refine at_ks [0, 1, 2, 9] (by (try simp only [keep, lk, pd, enumE, Nat.reduceBEq, Nat.reduceAdd, cond_true, cond_false]); exact rfl) ?_
  refine at_then ?_
  refine at_cond_t rfl ?_
  refine at_skip ?_
  refine at_then ?_
  refine at_seq ?_
  refine at_block ?_
  refine at_region ?_
  refine st_p rfl rfl (p_move rfl) ?_
  refine st_p rfl rfl (p_move rfl) ?_
  refine st_p rfl rfl ((by first | exact p_nil rfl | exact p_nilf rfl)) ?_
  refine st_p rfl rfl ((by first | exact p_fa0 rfl o_118_3 | exact p_fa rfl o_118_3)) ?_
  refine st_q rfl rfl ((by first | exact q_ob 0 rfl rfl r_116 (by first | rfl | assumption) | exact q_ob 1 rfl rfl r_116 (by first | rfl | assumption) | exact q_ob 2 rfl rfl r_116 (by first | rfl | assumption) | exact q_ob 3 rfl rfl r_116 (by first | rfl | assumption) | exact q_ob 4 rfl rfl r_116 (by first | rfl | assumption) | exact q_ob 5 rfl rfl r_116 (by first | rfl | assumption) | exact q_ob 6 rfl rfl r_116 (by first | rfl | assumption) | exact q_ob 7 rfl rfl r_116 (by first | rfl | assumption) | exact q_ob 8 rfl rfl r_116 (by first | rfl | assumption) | exact q_ob 9 rfl rfl r_116 (by first | rfl | assumption) | exact q_ob 10 rfl rfl r_116 (by first | rfl | assumption) | exact q_ob 11 rfl rfl r_116 (by first | rfl | assumption) | exact q_ob 12 rfl rfl r_116 (by first | rfl | assumption) | exact q_ob 13 rfl rfl r_116 (by first | rfl | assumption) | exact q_sl 0 rfl rfl r_116 (by first | rfl | assumption) | exact q_sl 1 rfl rfl r_116 (by first | rfl | assumption) | exact q_sl 2 rfl rfl r_116 (by first | rfl | assumption) | exact q_sl 3 rfl rfl r_116 (by first | rfl | assumption) | exact q_sl 4 rfl rfl r_116 (by first | rfl | assumption) | exact q_sl 5 rfl rfl r_116 (by first | rfl | assumption) | exact q_sl 6 rfl rfl r_116 (by first | rfl | assumption) | exact q_sl 7 rfl rfl r_116 (by first | rfl | assumption) | exact q_sl 8 rfl rfl r_116 (by first | rfl | assumption) | exact q_sl 9 rfl rfl r_116 (by first | rfl | assumption) | exact q_sl 10 rfl rfl r_116 (by first | rfl | assumption) | exact q_sl 11 rfl rfl r_116 (by first | rfl | assumption) | exact q_sl 12 rfl rfl r_116 (by first | rfl | assumption) | exact q_sl 13 rfl rfl r_116 (by first | rfl | assumption) | exact q_fr rfl r_116 (by assumption))) ?_
  refine st_l rfl rfl (l_bsV [N 21845, N 21845, N 21845] [N 21845, N 21845, N 21845] rfl e_22 (by decide) (by decide) rfl (by simp [Value.cells]) rfl) ?_
  rintro _ _ ⟨w6, rfl, rfl⟩
  refine at_hp (by (try simp only [List.take_zero, List.take_succ_cons, List.drop_zero, List.drop_succ_cons, List.drop_nil, List.length_cons, List.length_nil, Nat.zero_add, Nat.reduceAdd, List.set_cons_zero, List.set_cons_succ, List.nil_append, List.cons_append, List.append_nil, pick, List.filterMap_cons, List.filterMap_nil, List.getElem?_cons_zero, List.getElem?_cons_succ]); exact rfl) ?_
  refine st_l rfl rfl (l_bsV [.slice (some ⟨w6, 0, none⟩) 3 3] [.slice (some ⟨w6, 0, none⟩) 3 3] rfl e_116 (by decide) (by decide) rfl (by simp [Value.cells]) rfl) ?_
  rintro _ _ ⟨x6, rfl, rfl⟩
  refine at_hp (by (try simp only [List.take_zero, List.take_succ_cons, List.drop_zero, List.drop_succ_cons, List.drop_nil, List.length_cons, List.length_nil, Nat.zero_add, Nat.reduceAdd, List.set_cons_zero, List.set_cons_succ, List.nil_append, List.cons_append, List.append_nil, pick, List.filterMap_cons, List.filterMap_nil, List.getElem?_cons_zero, List.getElem?_cons_succ]); exact rfl) ?_
  refine st_l rfl rfl (l_app 8 0 rfl rfl e_116 rfl (by decide) rfl rfl rfl (by simp [Value.oneCell']) (by decide) (by decide) (by decide)) ?_
  rintro _ _ ⟨y6, z6, rfl, rfl⟩
  refine at_hp (by (try simp only [List.take_zero, List.take_succ_cons, List.drop_zero, List.drop_succ_cons, List.drop_nil, List.length_cons, List.length_nil, Nat.zero_add, Nat.reduceAdd, List.set_cons_zero, List.set_cons_succ, List.nil_append, List.cons_append, List.append_nil, pick, List.filterMap_cons, List.filterMap_nil, List.getElem?_cons_zero, List.getElem?_cons_succ]); exact rfl) ?_
  refine at_drop ?_
  refine st_p rfl rfl ((by first | exact p_nil rfl | exact p_nilf rfl)) ?_
  refine st_p rfl rfl ((by first | exact p_fa0 rfl o_118_3 | exact p_fa rfl o_118_3)) ?_
  refine st_l rfl rfl (l_ob 8 rfl rfl rfl rfl rfl s_116 (by simp)) ?_
  rintro _ _ ⟨rfl, rfl⟩
  refine at_hp (by (try simp only [List.take_zero, List.take_succ_cons, List.drop_zero, List.drop_succ_cons, List.drop_nil, List.length_cons, List.length_nil, Nat.zero_add, Nat.reduceAdd, List.set_cons_zero, List.set_cons_succ, List.nil_append, List.cons_append, List.append_nil, pick, List.filterMap_cons, List.filterMap_nil, List.getElem?_cons_zero, List.getElem?_cons_succ]); exact rfl) ?_
  refine at_nil ?_
  refine at_ks [0, 1, 2, 9] (by (try simp only [keep, lk, pd, enumE, Nat.reduceBEq, Nat.reduceAdd, cond_true, cond_false]); exact rfl) ?_
  refine at_inb ?_
  refine at_then ?_
  refine at_region ?_
  refine st_p rfl rfl (p_move rfl) ?_
  refine st_p rfl rfl (p_add (r := 7) rfl rfl (by decide)) ?_
  refine st_p rfl rfl (p_assign rfl) ?_
  refine at_nil ?_
  refine at_ks [0, 1, 2, 9] (by (try simp only [keep, lk, pd, enumE, Nat.reduceBEq, Nat.reduceAdd, cond_true, cond_false]); exact rfl) ?_
  refine at_then ?_
  refine at_round ?_
  refine at_seq ?_
  refine at_seq ?_
  refine at_region ?_
  refine st_p rfl rfl (p_move rfl) ?_
  refine st_p rfl rfl (p_lss rfl rfl) ?_
  refine at_nil ?_
  refine at_ks [0, 1, 2, 9] (by (try simp only [keep, lk, pd, enumE, Nat.reduceBEq, Nat.reduceAdd, cond_true, cond_false]); exact rfl) ?_
  refine at_then ?_
  refine at_cond_f rfl ?_
  refine at_exit ?_
  refine at_then_x ?_
  refine at_then_x ?_
  refine at_inb_exit ?_
  refine at_then ?_
  refine at_seq ?_
  refine at_region ?_
  refine st_p rfl rfl (p_move rfl) ?_
  refine st_p rfl rfl (p_assign rfl) ?_
  refine at_nil ?_
  refine at_ks [0, 1, 2, 9] (by (try simp only [keep, lk, pd, enumE, Nat.reduceBEq, Nat.reduceAdd, cond_true, cond_false]); exact rfl) ?_
  refine at_then ?_
  refine at_retc ?_
  refine at_re [8, 11, 10, 9, 7, 6, 5, 4, 3, 2, 1, 0] (by decide) ?_
  exact fin_1 rfl rfl (by
      exact ⟨mb, rfl, _, _, _, _, [_, _, _, _, _, _, _], rfl, rfl⟩)

theorem rinputs_calls (mb : Nat) (v0 v1 v2 wv : Value) (m : Ms) (node : Nat) (F : Frm) (hm : m.ok) (hn : node < 128) (hs0 : (Chk.ob mb [v0, v1, v2, wv, N m.a, N m.b] 118).sat F.heap) (hs1 : (Chk.sl v0 3 1 128 (ints .i64 m.l0)).sat F.heap) (hs2 : (Chk.sl v1 3 1 8320 (ints .i64 m.l1)).sat F.heap) (hs3 : (Chk.sl v2 3 1 8320 (ints .i64 m.l2)).sat F.heap) :
    SC Try.prog 60 #[.pointer (some ⟨mb, 0, none⟩), N node] [] F (fun u H => H = [.sl u 3 1 3 (ints .i64 (m.ins node))]) := by
  obtain ⟨A0, c0, rfl, _, _, f0⟩ := fv_of_sl hs1
  obtain ⟨A1, c1, rfl, _, _, f1⟩ := fv_of_sl hs2
  obtain ⟨A2, c2, rfl, _, _, f2⟩ := fv_of_sl hs3
  have k0 := hc_of hs0 (j := 0) rfl
  have k1 := hc_of hs0 (j := 1) rfl
  have k2 := hc_of hs0 (j := 2) rfl
  have k4 := hc_of hs0 (j := 4) rfl
  have k5 := hc_of hs0 (j := 5) rfl
  have ha := hm.ha
  have hb := hm.hb
  have l1 : m.p1 node < 8320 := by unfold Ms.p1; omega
  have l2 : m.p2 node < 8320 := by unfold Ms.p2; omega
  obtain ⟨b0, o0, rfl, e0⟩ := f0.int (i := (node : Int)) (by omega) (by rw [hm.n0]; omega)
  obtain ⟨b1, o1, rfl, e1⟩ := f1.int (i := ((m.p1 node : Nat) : Int)) (by omega) (by rw [hm.n1]; omega)
  obtain ⟨b2, o2, rfl, e2⟩ := f2.int (i := ((m.p2 node : Nat) : Int)) (by omega) (by rw [hm.n2]; omega)
  rw [show gi m.l0 ((node : Nat) : Int) = gn m.l0 node by unfold gi gn; rw [Int.toNat_natCast]] at e0
  rw [show gi m.l1 ((m.p1 node : Nat) : Int) = gn m.l1 (m.p1 node) by unfold gi gn; rw [Int.toNat_natCast]] at e1
  rw [show gi m.l2 ((m.p2 node : Nat) : Int) = gn m.l2 (m.p2 node) by unfold gi gn; rw [Int.toNat_natCast]] at e2
  refine sc_in (args := [.pointer (some ⟨mb, 0, none⟩), N node]) Try.func60 rfl rfl (Nat.le_of_ble_eq_true rfl) ?_
  refine at_ks [0, 1, 4] (by (try simp only [keep, lk, pd, enumE, Nat.reduceBEq, Nat.reduceAdd, cond_true, cond_false]); exact rfl) ?_
  refine at_seq ?_
  refine at_region ?_
  refine st_p rfl rfl (p_assign rfl) ?_
  refine at_nil ?_
  refine at_ks [0, 1, 4] (by (try simp only [keep, lk, pd, enumE, Nat.reduceBEq, Nat.reduceAdd, cond_true, cond_false]); exact rfl) ?_
  refine at_then ?_
  refine at_seq ?_
  refine at_drawH [0, 1, 2, 3, 4, 5, 6, 7, 8, 9, 10, 11, 12, 13, 14, 15, 16, 17, 18, 19, 20, 21, 22, 23, 24, 25, 26, 27, 28, 29, 30, 31, 32, 33, 34, 35, 36, 37, 38, 39, 40, 41, 42, 43, 44] [0, 1, 3, 7, 0, 31, 63, 127, 0, 256, 768, 1792, 0, 4096, 12288, 28672, 61440, 0, 258048, 524032, 1048320, 2097151, 0, 4194304, 12582912, 29360128, 0, 67108864, 201326592, 469762048, 0, 1073741824, 3221225472, 7516192768, 16106127360, 34292629504, 68652367872, 137371844608, 0, 549688705024, 1099507433472, 2199019061248, 4398046511103, 8796093022207, 17592186044415] [3, 6, 7, 11, 15, 20, 21, 25, 29, 33, 41, 42] [43] mixd (by kernel_rfl) ?_
  refine rd_p rfl rfl rfl rfl rfl (p_move rfl) ?_
  refine rd_p rfl rfl rfl rfl rfl ((by first | exact p_nil rfl | exact p_nilf rfl)) ?_
  refine rd_p rfl rfl rfl rfl rfl ((by first | exact p_fa0 rfl o_118_0 | exact p_fa rfl o_118_0)) ?_
  refine rd_q rfl rfl rfl rfl rfl (q_fr rfl r_22 k0) (fun _ h => h) ?_
  refine rd_p rfl rfl rfl rfl rfl (p_move rfl) ?_
  refine rd_p rfl rfl rfl rfl rfl (p_iaO1 rfl rfl z_22 (by omega) (by omega)) ?_
  refine rd_q rfl rfl rfl rfl rfl (q_fr rfl r_3 e0) (fun _ h => h) ?_
  refine rd_q rfl rfl rfl rfl rfl (q_call (first := []) rfl c_77 rfl (fun F1 hF1 hs1 => rstretch_calls _ F1)) (fun _ h => h) ?_
  refine rd_p rfl rfl rfl rfl rfl (p_move rfl) ?_
  refine rd_p rfl rfl rfl rfl rfl ((by first | exact p_nil rfl | exact p_nilf rfl)) ?_
  refine rd_p rfl rfl rfl rfl rfl ((by first | exact p_fa0 rfl o_118_1 | exact p_fa rfl o_118_1)) ?_
  refine rd_q rfl rfl rfl rfl rfl (q_fr rfl r_22 k1) (fun _ h => h) ?_
  refine rd_p rfl rfl rfl rfl rfl (p_move rfl) ?_
  refine rd_p rfl rfl rfl rfl rfl ((by first | exact p_nil rfl | exact p_nilf rfl)) ?_
  refine rd_p rfl rfl rfl rfl rfl ((by first | exact p_fa0 rfl o_118_4 | exact p_fa rfl o_118_4)) ?_
  refine rd_q rfl rfl rfl rfl rfl (q_fr rfl r_3 k4) (fun _ h => h) ?_
  refine rd_p rfl rfl rfl rfl rfl (p_mul rfl rfl (by first | exact nw64 (by omega) | exact nwu64 (by omega) | exact nwu8 (by omega) | exact nwu16 (by omega) | exact wu64 _ | exact wu8 _ | exact wi64 _ | rfl)) ?_
  refine rd_p rfl rfl rfl rfl rfl (p_move rfl) ?_
  refine rd_p rfl rfl rfl rfl rfl (p_add (r := ((m.p1 node : Nat) : Int)) rfl rfl ((nw64 (by omega)).trans (by unfold Ms.p1; omega))) ?_
  refine rd_p rfl rfl rfl rfl rfl (p_iaO1 rfl rfl z_22 (by omega) (by omega)) ?_
  refine rd_q rfl rfl rfl rfl rfl (q_fr rfl r_3 e1) (fun _ h => h) ?_
  refine rd_q rfl rfl rfl rfl rfl (q_call (first := []) rfl c_77 rfl (fun F1 hF1 hs1 => rstretch_calls _ F1)) (fun _ h => h) ?_
  refine rd_p rfl rfl rfl rfl rfl (p_move rfl) ?_
  refine rd_p rfl rfl rfl rfl rfl ((by first | exact p_nil rfl | exact p_nilf rfl)) ?_
  refine rd_p rfl rfl rfl rfl rfl ((by first | exact p_fa0 rfl o_118_2 | exact p_fa rfl o_118_2)) ?_
  refine rd_q rfl rfl rfl rfl rfl (q_fr rfl r_22 k2) (fun _ h => h) ?_
  refine rd_p rfl rfl rfl rfl rfl (p_move rfl) ?_
  refine rd_p rfl rfl rfl rfl rfl ((by first | exact p_nil rfl | exact p_nilf rfl)) ?_
  refine rd_p rfl rfl rfl rfl rfl ((by first | exact p_fa0 rfl o_118_4 | exact p_fa rfl o_118_4)) ?_
  refine rd_q rfl rfl rfl rfl rfl (q_fr rfl r_3 k4) (fun _ h => h) ?_
  refine rd_p rfl rfl rfl rfl rfl (p_move rfl) ?_
  refine rd_p rfl rfl rfl rfl rfl ((by first | exact p_nil rfl | exact p_nilf rfl)) ?_
  refine rd_p rfl rfl rfl rfl rfl ((by first | exact p_fa0 rfl o_118_5 | exact p_fa rfl o_118_5)) ?_
  refine rd_q rfl rfl rfl rfl rfl (q_fr rfl r_3 k5) (fun _ h => h) ?_
  refine rd_p rfl rfl rfl rfl rfl (p_mul rfl rfl (by first | exact nw64 (by omega) | exact nwu64 (by omega) | exact nwu8 (by omega) | exact nwu16 (by omega) | exact wu64 _ | exact wu8 _ | exact wi64 _ | rfl)) ?_
  refine rd_p rfl rfl rfl rfl rfl (p_add rfl rfl (by first | exact nw64 (by omega) | exact nwu64 (by omega) | exact nwu8 (by omega) | exact nwu16 (by omega) | exact wu64 _ | exact wu8 _ | exact wi64 _ | rfl)) ?_
  refine rd_p rfl rfl rfl rfl rfl (p_quo (r := (((m.a + 2 * m.b) / 3 : Nat) : Int)) rfl rfl (by decide) (by rw [Int.tdiv_eq_ediv_of_nonneg (by omega)]; exact (nw64 (by omega)).trans (by omega))) ?_
  refine rd_p rfl rfl rfl rfl rfl (p_mul rfl rfl (by first | exact nw64 (by omega) | exact nwu64 (by omega) | exact nwu8 (by omega) | exact nwu16 (by omega) | exact wu64 _ | exact wu8 _ | exact wi64 _ | rfl)) ?_
  refine rd_p rfl rfl rfl rfl rfl (p_move rfl) ?_
  refine rd_p rfl rfl rfl rfl rfl (p_add (r := ((m.p2 node : Nat) : Int)) rfl rfl ((nw64 (by omega)).trans (by unfold Ms.p2; omega))) ?_
  refine rd_p rfl rfl rfl rfl rfl (p_iaO1 rfl rfl z_22 (by omega) (by omega)) ?_
  refine rd_q rfl rfl rfl rfl rfl (q_fr rfl r_3 e2) (fun _ h => h) ?_
  refine rd_q rfl rfl rfl rfl rfl (q_call (first := []) rfl c_77 rfl (fun F1 hF1 hs1 => rstretch_calls _ F1)) (fun _ h => h) ?_
  refine rd_l rfl rfl rfl rfl (l_bsV [N (stv (gn m.l0 node)), N (stv (gn m.l1 (m.p1 node))), N (stv (gn m.l2 (m.p2 node)))] [N (stv (gn m.l0 node)), N (stv (gn m.l1 (m.p1 node))), N (stv (gn m.l2 (m.p2 node)))] rfl e_22 (by decide) (by decide) rfl (by simp [Value.cells]) rfl) (fun h => nomatch (show false = true from h)) ?_
  rintro _ _ ⟨b48, rfl, rfl⟩
  refine rd_hp (by (try simp only [List.take_zero, List.take_succ_cons, List.drop_zero, List.drop_succ_cons, List.drop_nil, List.length_cons, List.length_nil, Nat.zero_add, Nat.reduceAdd, List.set_cons_zero, List.set_cons_succ, List.nil_append, List.cons_append, List.append_nil, pick, List.filterMap_cons, List.filterMap_nil, List.getElem?_cons_zero, List.getElem?_cons_succ]); exact rfl) ?_
  refine rd_p rfl rfl rfl rfl rfl (p_assign rfl) ?_
  refine rd_nil ?_
  refine at_ks [0, 1, 4] (by (try simp only [keep, lk, pd, enumE, Nat.reduceBEq, Nat.reduceAdd, cond_true, cond_false]); exact rfl) ?_
  refine at_then ?_
  refine at_retc ?_
  exact fin_1 rfl rfl (by
      rfl)

theorem mem_wch {t : TypeId} {ws : List Value} {W : List (List Int)} {d : Nat} {v : Value} {xs : List Int} (hv : ws[d]? = some v) (hx : W[d]? = some xs) : Chk.sl v t 1 3 (ints .i64 xs) ∈ wch t ws W := List.mem_of_getElem? (wch_get hv hx)

theorem rat_calls (mb : Nat) (m : Ms) (HM : Hp) (d node : Nat) (F : Frm) (hM : rmodH mb m HM) (hm : m.ok) (hd : d < 7) (hn : node < 128) (hs : ∀ c ∈ HM, c.sat F.heap) :
    SC Try.prog 34 #[.pointer (some ⟨mb, 0, none⟩), N d, N node] [] F (fun u H => u = N (m.chance d node) ∧ H = []) := by
  obtain ⟨v0, v1, v2, wv, ws, hw, rfl⟩ := hM
  obtain ⟨wd, hwd⟩ : ∃ v, ws[d]? = some v := ⟨_, List.getElem?_eq_getElem (by omega)⟩
  have hwt := hm.wt hd
  have g0 := hs _ (List.mem_of_getElem? (i := 0) rfl)
  have g1 := hs _ (List.mem_of_getElem? (i := 1) rfl)
  have g2 := hs _ (List.mem_of_getElem? (i := 2) rfl)
  have g3 := hs _ (List.mem_of_getElem? (i := 3) rfl)
  have g4 := hs _ (List.mem_of_getElem? (i := 4) rfl)
  have g5 := hs _ (List.mem_cons_of_mem _ (List.mem_cons_of_mem _ (List.mem_cons_of_mem _ (List.mem_cons_of_mem _ (List.mem_cons_of_mem _ (mem_wch (t := 3) hwd hwt.1))))))
  have k3 := hc_of g0 (j := 3) rfl
  obtain ⟨Aw, cw, rfl, _, _, fw⟩ := fv_of_sl g4
  obtain ⟨Ad, cd, rfl, _, _, fd⟩ := fv_of_sl g5
  obtain ⟨bw, ow, rfl, ew⟩ := fw (by omega)
  have ed := ew d _ hwd
  rw [← Int.toNat_natCast d] at ed
  refine sc_in (args := [.pointer (some ⟨mb, 0, none⟩), N d, N node]) Try.func34 rfl rfl (Nat.le_of_ble_eq_true rfl) ?_
  refine at_ks [0, 1, 2, 6] (by (try simp only [keep, lk, pd, enumE, Nat.reduceBEq, Nat.reduceAdd, cond_true, cond_false]); exact rfl) ?_
  refine at_seq ?_
  refine at_region ?_
  refine st_p rfl rfl (p_assign rfl) ?_
  refine at_nil ?_
  refine at_ks [0, 1, 2, 6] (by (try simp only [keep, lk, pd, enumE, Nat.reduceBEq, Nat.reduceAdd, cond_true, cond_false]); exact rfl) ?_
  refine at_then ?_
  refine at_seq ?_
  refine at_drawH [0, 1, 2, 3, 4, 5, 6, 7, 8, 9, 10, 11] [0, 1, 3, 7, 0, 31, 63, 0, 0, 384, 1023, 2047] [3, 6] [9, 10] mixd (by kernel_rfl) ?_
  refine rd_p rfl rfl rfl rfl rfl (p_move rfl) ?_
  refine rd_p rfl rfl rfl rfl rfl ((by first | exact p_nil rfl | exact p_nilf rfl)) ?_
  refine rd_p rfl rfl rfl rfl rfl ((by first | exact p_fa0 rfl o_118_3 | exact p_fa rfl o_118_3)) ?_
  refine rd_q rfl rfl rfl rfl rfl (q_fr rfl r_116 k3) (fun _ h => h) ?_
  refine rd_p rfl rfl rfl rfl rfl (p_move rfl) ?_
  refine rd_p rfl rfl rfl rfl rfl (p_iaO1 rfl rfl z_116 (by omega) (by omega)) ?_
  refine rd_q rfl rfl rfl rfl rfl (q_fr rfl r_22 ed) (fun _ h => h) ?_
  refine rd_p rfl rfl rfl rfl rfl (p_move rfl) ?_
  refine rd_p rfl rfl rfl rfl rfl (p_move rfl) ?_
  refine rd_l rfl rfl rfl rfl (l_callP (first := []) (H1 := []) (H2 := _) (List.Perm.refl _) rfl c_60 rfl (fun F1 hF1 hs1 => (rinputs_calls mb v0 v1 v2 _ m node F1 hm hn (Go.Proofs.Ytbpbhjnkmonlbaa.Chk.sat_mono hF1 g0) (Go.Proofs.Ytbpbhjnkmonlbaa.Chk.sat_mono hF1 g1) (Go.Proofs.Ytbpbhjnkmonlbaa.Chk.sat_mono hF1 g2) (Go.Proofs.Ytbpbhjnkmonlbaa.Chk.sat_mono hF1 g3)).shape)) (fun _ => by rintro _ _ ⟨_, ⟨Ai, ci, rfl, _, _, rfl⟩, rfl⟩; exact (sub_re [] (by decide) rfl)) ?_
  rintro _ _ ⟨_, ⟨Ai, ci, rfl, _, _, rfl⟩, rfl⟩
  refine rd_hp (by (try simp only [List.take_zero, List.take_succ_cons, List.drop_zero, List.drop_succ_cons, List.drop_nil, List.length_cons, List.length_nil, Nat.zero_add, Nat.reduceAdd, List.set_cons_zero, List.set_cons_succ, List.nil_append, List.cons_append, List.append_nil, pick, List.filterMap_cons, List.filterMap_nil, List.getElem?_cons_zero, List.getElem?_cons_succ]); exact rfl) ?_
  refine rd_l rfl rfl rfl rfl ((q_call (first := []) rfl c_59 rfl (fun F1 hF1 hs1 => rmix_calls Ad Ai 3 cd ci (m.wt d) (m.ins node) F1 hwt.2 rfl (by decide) (fd.mono hF1) (fv_slice (hs1 _ (List.mem_of_getElem? (i := 0) rfl))))).l) (fun h => nomatch (show false = true from h)) ?_
  rintro _ _ ⟨rfl, rfl⟩
  refine rd_hp (by (try simp only [List.take_zero, List.take_succ_cons, List.drop_zero, List.drop_succ_cons, List.drop_nil, List.length_cons, List.length_nil, Nat.zero_add, Nat.reduceAdd, List.set_cons_zero, List.set_cons_succ, List.nil_append, List.cons_append, List.append_nil, pick, List.filterMap_cons, List.filterMap_nil, List.getElem?_cons_zero, List.getElem?_cons_succ]); exact rfl) ?_
  refine rd_p rfl rfl rfl rfl rfl (p_assign rfl) ?_
  refine rd_nil ?_
  refine at_ks [0, 1, 2, 6] (by (try simp only [keep, lk, pd, enumE, Nat.reduceBEq, Nat.reduceAdd, cond_true, cond_false]); exact rfl) ?_
  refine at_then ?_
  refine at_retc ?_
  refine at_re [] (by decide) ?_
  exact fin_1 rfl rfl (by
      exact ⟨rfl, rfl⟩)

end Go.Proofs.Ytbpbhjnkmonlbaa