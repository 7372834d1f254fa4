/- The reference's model learns; its traces: walks. No condition. -/
import Derived.Test.YtbpbhjnkmonlbaaRm
namespace Go.Proofs.Ytbpbhjnkmonlbaa
open Go.RowKit Sl
set_option linter.unusedVariables false
set_option linter.unusedSimpArgs false
set_option maxRecDepth 10000

theorem rlearnF_calls (mb : Nat) (v0 v1 v2 wv wd : Value) (ws : List Value) (m : Ms) (d node : Nat) (p b : Int) (F : Frm) (hm : m.ok) (hd : d < 7) (hn : node < 128) (hws : ws.length = 7) (hwd : ws[d]? = some wd) :
    SC Try.prog 36 #[.pointer (some ⟨mb, 0, none⟩), N d, N node, N p, N b] [.ob mb [v0, v1, v2, wv, N m.a, N m.b] 118, .sl v0 3 1 128 (ints .i64 m.l0), .sl v1 3 1 8320 (ints .i64 m.l1), .sl v2 3 1 8320 (ints .i64 m.l2), .sl wv 22 1 7 ws, .sl wd 3 1 3 (ints .i64 (m.wt d))] F (fun u H' => u = .tuple #[] ∧ ∃ wd', H' = [.ob mb [v0, v1, v2, wv, N m.a, N m.b] 118, .sl v0 3 1 128 (ints .i64 (m.learn d node p b).l0), .sl v1 3 1 8320 (ints .i64 (m.learn d node p b).l1), .sl v2 3 1 8320 (ints .i64 (m.learn d node p b).l2), .sl wv 22 1 7 (ws.set d wd'), .sl wd' 3 1 3 (ints .i64 ((m.learn d node p b).wt d))]) := by
  have hwt := hm.wt hd
  have ha := hm.ha
  have hb := hm.hb
  have l1 : m.p1 node < 8320 := by unfold Ms.p1; omega
  have l2 : m.p2 node < 8320 := by unfold Ms.p2; omega
  have y0 : (ints .i64 m.l0).length = 128 := by simp [hm.n0]
  have y1 : (ints .i64 m.l1).length = 8320 := by simp [hm.n1]
  have y2 : (ints .i64 m.l2).length = 8320 := by simp [hm.n2]
  have x0 : (ints .i64 m.l0)[((node : Nat) : Int).toNat]? = some (N (gn m.l0 node)) := by rw [Int.toNat_natCast]; exact gn_get (by rw [hm.n0]; exact hn)
  have x1 : (ints .i64 m.l1)[((m.p1 node : Nat) : Int).toNat]? = some (N (gn m.l1 (m.p1 node))) := by rw [Int.toNat_natCast]; exact gn_get (by rw [hm.n1]; exact l1)
  have x2 : (ints .i64 m.l2)[((m.p2 node : Nat) : Int).toNat]? = some (N (gn m.l2 (m.p2 node))) := by rw [Int.toNat_natCast]; exact gn_get (by rw [hm.n2]; exact l2)
  rw [← Int.toNat_natCast d] at hwd
  refine sc_in (args := [.pointer (some ⟨mb, 0, none⟩), N d, N node, N p, N b]) Try.func36 rfl rfl (Nat.le_of_ble_eq_true rfl) ?_
  refine at_ks [0, 1, 2, 3, 4, 10, 11] (by (try simp only [keep, lk, pd, enumE, Nat.reduceBEq, Nat.reduceAdd, cond_true, cond_false]); exact rfl) ?_
  refine at_row 1 rfl (by decide) fun g1 c1 hv _ => ?_
  subst hv
  refine at_row 2 rfl (by decide) fun g2 c2 hv _ => ?_
  subst hv
  refine at_row 3 rfl (by decide) fun g3 c3 hv _ => ?_
  subst hv
  refine at_row 4 rfl (by decide) fun g4 c4 hv _ => ?_
  subst hv
  refine at_row 5 rfl (by decide) fun g5 c5 hv _ => ?_
  subst hv
  refine at_seq ?_
  refine at_drawH [0, 1, 2, 3, 4, 5, 6, 7, 8, 9, 10, 11, 12, 13, 15, 16, 14, 17, 18, 19] [0, 1, 3, 7, 0, 0, 32, 96, 224, 0, 992, 2016, 0, 0, 12288, 0, 0, 131040, 262143, 524287] [3, 8, 11] [14, 17, 19] mixd (by kernel_rfl) ?_
  refine rd_p rfl rfl rfl rfl rfl (p_move rfl) ?_
  refine rd_p rfl rfl rfl rfl rfl ((by first | exact p_nil rfl | exact p_nilf rfl)) ?_
  refine rd_p rfl rfl rfl rfl rfl ((by first | exact p_fa0 rfl o_118_3 | exact p_fa rfl o_118_3)) ?_
  refine rd_q rfl rfl rfl rfl rfl ((by first | exact q_ob 0 rfl rfl r_116 (by first | rfl | assumption) | exact q_ob 1 rfl rfl r_116 (by first | rfl | assumption) | exact q_ob 2 rfl rfl r_116 (by first | rfl | assumption) | exact q_ob 3 rfl rfl r_116 (by first | rfl | assumption) | exact q_ob 4 rfl rfl r_116 (by first | rfl | assumption) | exact q_ob 5 rfl rfl r_116 (by first | rfl | assumption) | exact q_ob 6 rfl rfl r_116 (by first | rfl | assumption) | exact q_sl 0 rfl rfl r_116 (by first | rfl | assumption) | exact q_sl 1 rfl rfl r_116 (by first | rfl | assumption) | exact q_sl 2 rfl rfl r_116 (by first | rfl | assumption) | exact q_sl 3 rfl rfl r_116 (by first | rfl | assumption) | exact q_sl 4 rfl rfl r_116 (by first | rfl | assumption) | exact q_sl 5 rfl rfl r_116 (by first | rfl | assumption) | exact q_sl 6 rfl rfl r_116 (by first | rfl | assumption) | exact q_fr rfl r_116 (by assumption))) (fun _ h => h) ?_
  refine rd_p rfl rfl rfl rfl rfl (p_move rfl) ?_
  refine rd_p rfl rfl rfl rfl rfl (p_move rfl) ?_
  refine rd_p rfl rfl rfl rfl rfl ((by first | exact p_nil rfl | exact p_nilf rfl)) ?_
  refine rd_p rfl rfl rfl rfl rfl ((by first | exact p_fa0 rfl o_118_3 | exact p_fa rfl o_118_3)) ?_
  refine rd_q rfl rfl rfl rfl rfl ((by first | exact q_ob 0 rfl rfl r_116 (by first | rfl | assumption) | exact q_ob 1 rfl rfl r_116 (by first | rfl | assumption) | exact q_ob 2 rfl rfl r_116 (by first | rfl | assumption) | exact q_ob 3 rfl rfl r_116 (by first | rfl | assumption) | exact q_ob 4 rfl rfl r_116 (by first | rfl | assumption) | exact q_ob 5 rfl rfl r_116 (by first | rfl | assumption) | exact q_ob 6 rfl rfl r_116 (by first | rfl | assumption) | exact q_sl 0 rfl rfl r_116 (by first | rfl | assumption) | exact q_sl 1 rfl rfl r_116 (by first | rfl | assumption) | exact q_sl 2 rfl rfl r_116 (by first | rfl | assumption) | exact q_sl 3 rfl rfl r_116 (by first | rfl | assumption) | exact q_sl 4 rfl rfl r_116 (by first | rfl | assumption) | exact q_sl 5 rfl rfl r_116 (by first | rfl | assumption) | exact q_sl 6 rfl rfl r_116 (by first | rfl | assumption) | exact q_fr rfl r_116 (by assumption))) (fun _ h => h) ?_
  refine rd_p rfl rfl rfl rfl rfl (p_move rfl) ?_
  refine rd_p rfl rfl rfl rfl rfl (p_ia1 rfl rfl z_116 (by omega) (by omega)) ?_
  refine rd_q rfl rfl rfl rfl rfl (q_sl 4 rfl rfl r_22 hwd) (fun _ h => h) ?_
  refine rd_p rfl rfl rfl rfl rfl (p_move rfl) ?_
  refine rd_p rfl rfl rfl rfl rfl (p_move rfl) ?_
  refine rd_p rfl rfl rfl rfl rfl (p_move rfl) ?_
  refine rd_p rfl rfl rfl rfl rfl (p_move rfl) ?_
  refine rd_l rfl rfl rfl rfl (l_callP (first := []) (H1 := []) (H2 := _) (List.Perm.refl _) rfl c_60 rfl (fun F1 hF1 hs1 => (rinputs_calls mb _ _ _ _ m node F1 hm hn (hs1 _ (List.mem_of_getElem? (i := 0) rfl)) (hs1 _ (List.mem_of_getElem? (i := 1) rfl)) (hs1 _ (List.mem_of_getElem? (i := 2) rfl)) (hs1 _ (List.mem_of_getElem? (i := 3) rfl))).shape)) (fun _ => by rintro _ _ ⟨_, ⟨Ai, ci, rfl, _, _, rfl⟩, rfl⟩; exact (sub_re [1, 2, 3, 4, 5, 6] (by decide) rfl)) ?_
  rintro _ _ ⟨_, ⟨Ai, ci, rfl, _, _, rfl⟩, rfl⟩
  refine rd_hp (by (try simp only [List.take_zero, List.take_succ_cons, List.drop_zero, List.drop_succ_cons, List.drop_nil, List.length_cons, List.length_nil, Nat.zero_add, Nat.reduceAdd, List.set_cons_zero, List.set_cons_succ, List.nil_append, List.cons_append, List.append_nil, pick, List.filterMap_cons, List.filterMap_nil, List.getElem?_cons_zero, List.getElem?_cons_succ]); exact rfl) ?_
  refine rd_l rfl rfl rfl rfl (l_callP (first := []) (H1 := []) (H2 := _) (List.Perm.refl _) rfl c_64 rfl (fun F1 hF1 hs1 => (rtrain_calls _ Ai 3 _ ci (m.wt d) (m.ins node) p b F1 hwt.2 rfl (by decide) (fv_slice (hs1 _ (List.mem_of_getElem? (i := 6) rfl))) (fv_slice (hs1 _ (List.mem_of_getElem? (i := 0) rfl)))).shape)) (fun _ => by rintro _ _ ⟨_, ⟨At, ct, rfl, _, _, rfl⟩, rfl⟩; exact (sub_re [2, 3, 4, 5, 6, 7] (by decide) rfl)) ?_
  rintro _ _ ⟨_, ⟨At, ct, rfl, _, _, rfl⟩, rfl⟩
  refine rd_hp (by (try simp only [List.take_zero, List.take_succ_cons, List.drop_zero, List.drop_succ_cons, List.drop_nil, List.length_cons, List.length_nil, Nat.zero_add, Nat.reduceAdd, List.set_cons_zero, List.set_cons_succ, List.nil_append, List.cons_append, List.append_nil, pick, List.filterMap_cons, List.filterMap_nil, List.getElem?_cons_zero, List.getElem?_cons_succ]); exact rfl) ?_
  refine rd_p rfl rfl rfl rfl rfl (p_ia1 rfl rfl z_116 (by omega) (by omega)) ?_
  refine rd_l rfl rfl rfl rfl (l_sl 6 rfl rfl rfl rfl rfl s_22 (by omega)) (fun h => nomatch (show false = true from h)) ?_
  rintro _ _ ⟨rfl, rfl⟩
  refine rd_hp (by (try simp only [List.take_zero, List.take_succ_cons, List.drop_zero, List.drop_succ_cons, List.drop_nil, List.length_cons, List.length_nil, Nat.zero_add, Nat.reduceAdd, List.set_cons_zero, List.set_cons_succ, List.nil_append, List.cons_append, List.append_nil, pick, List.filterMap_cons, List.filterMap_nil, List.getElem?_cons_zero, List.getElem?_cons_succ]); exact rfl) ?_
  refine rd_nil ?_
  refine at_ks [0, 1, 2, 3, 4, 10, 11] (by (try simp only [keep, lk, pd, enumE, Nat.reduceBEq, Nat.reduceAdd, cond_true, cond_false]); exact rfl) ?_
  refine at_then ?_
  refine at_seq ?_
  refine at_re [2, 3, 4, 5, 6, 0] (by decide) ?_
  refine at_drawH [0, 1, 2, 3, 4, 5, 6, 7, 8, 9, 10, 11, 12, 13, 14, 15, 16, 17, 18, 19, 20, 21, 22] [0, 1, 3, 7, 15, 0, 63, 0, 128, 384, 896, 0, 2048, 6144, 14336, 30720, 65408, 130944, 262016, 0, 1048448, 127, 4194303] [3, 10, 14] [] mixd (by kernel_rfl) ?_
  refine rd_p rfl rfl rfl rfl rfl (p_move rfl) ?_
  refine rd_p rfl rfl rfl rfl rfl ((by first | exact p_nil rfl | exact p_nilf rfl)) ?_
  refine rd_p rfl rfl rfl rfl rfl ((by first | exact p_fa0 rfl o_118_4 | exact p_fa rfl o_118_4)) ?_
  refine rd_q rfl rfl rfl rfl rfl ((by first | exact q_ob 0 rfl rfl r_3 (by first | rfl | assumption) | exact q_ob 1 rfl rfl r_3 (by first | rfl | assumption) | exact q_ob 2 rfl rfl r_3 (by first | rfl | assumption) | exact q_ob 3 rfl rfl r_3 (by first | rfl | assumption) | exact q_ob 4 rfl rfl r_3 (by first | rfl | assumption) | exact q_ob 5 rfl rfl r_3 (by first | rfl | assumption) | exact q_ob 6 rfl rfl r_3 (by first | rfl | assumption) | exact q_sl 0 rfl rfl r_3 (by first | rfl | assumption) | exact q_sl 1 rfl rfl r_3 (by first | rfl | assumption) | exact q_sl 2 rfl rfl r_3 (by first | rfl | assumption) | exact q_sl 3 rfl rfl r_3 (by first | rfl | assumption) | exact q_sl 4 rfl rfl r_3 (by first | rfl | assumption) | exact q_sl 5 rfl rfl r_3 (by first | rfl | assumption) | exact q_sl 6 rfl rfl r_3 (by first | rfl | assumption) | exact q_fr rfl r_3 (by assumption))) (fun _ h => h) ?_
  refine rd_p rfl rfl rfl rfl rfl (p_mul rfl rfl (by first | exact nw64 (by omega) | exact nwu64 (by omega) | exact nwu8 (by omega) | exact nwu16 (by omega) | exact wu64 _ | exact wu8 _ | exact wi64 _ | rfl)) ?_
  refine rd_p rfl rfl rfl rfl rfl (p_move rfl) ?_
  refine rd_p rfl rfl rfl rfl rfl (p_add (r := ((m.p1 node : Nat) : Int)) rfl rfl ((nw64 (by omega)).trans (by unfold Ms.p1; omega))) ?_
  refine rd_p rfl rfl rfl rfl rfl (p_move rfl) ?_
  refine rd_p rfl rfl rfl rfl rfl ((by first | exact p_nil rfl | exact p_nilf rfl)) ?_
  refine rd_p rfl rfl rfl rfl rfl ((by first | exact p_fa0 rfl o_118_4 | exact p_fa rfl o_118_4)) ?_
  refine rd_q rfl rfl rfl rfl rfl ((by first | exact q_ob 0 rfl rfl r_3 (by first | rfl | assumption) | exact q_ob 1 rfl rfl r_3 (by first | rfl | assumption) | exact q_ob 2 rfl rfl r_3 (by first | rfl | assumption) | exact q_ob 3 rfl rfl r_3 (by first | rfl | assumption) | exact q_ob 4 rfl rfl r_3 (by first | rfl | assumption) | exact q_ob 5 rfl rfl r_3 (by first | rfl | assumption) | exact q_ob 6 rfl rfl r_3 (by first | rfl | assumption) | exact q_sl 0 rfl rfl r_3 (by first | rfl | assumption) | exact q_sl 1 rfl rfl r_3 (by first | rfl | assumption) | exact q_sl 2 rfl rfl r_3 (by first | rfl | assumption) | exact q_sl 3 rfl rfl r_3 (by first | rfl | assumption) | exact q_sl 4 rfl rfl r_3 (by first | rfl | assumption) | exact q_sl 5 rfl rfl r_3 (by first | rfl | assumption) | exact q_sl 6 rfl rfl r_3 (by first | rfl | assumption) | exact q_fr rfl r_3 (by assumption))) (fun _ h => h) ?_
  refine rd_p rfl rfl rfl rfl rfl (p_move rfl) ?_
  refine rd_p rfl rfl rfl rfl rfl ((by first | exact p_nil rfl | exact p_nilf rfl)) ?_
  refine rd_p rfl rfl rfl rfl rfl ((by first | exact p_fa0 rfl o_118_5 | exact p_fa rfl o_118_5)) ?_
  refine rd_q rfl rfl rfl rfl rfl ((by first | exact q_ob 0 rfl rfl r_3 (by first | rfl | assumption) | exact q_ob 1 rfl rfl r_3 (by first | rfl | assumption) | exact q_ob 2 rfl rfl r_3 (by first | rfl | assumption) | exact q_ob 3 rfl rfl r_3 (by first | rfl | assumption) | exact q_ob 4 rfl rfl r_3 (by first | rfl | assumption) | exact q_ob 5 rfl rfl r_3 (by first | rfl | assumption) | exact q_ob 6 rfl rfl r_3 (by first | rfl | assumption) | exact q_sl 0 rfl rfl r_3 (by first | rfl | assumption) | exact q_sl 1 rfl rfl r_3 (by first | rfl | assumption) | exact q_sl 2 rfl rfl r_3 (by first | rfl | assumption) | exact q_sl 3 rfl rfl r_3 (by first | rfl | assumption) | exact q_sl 4 rfl rfl r_3 (by first | rfl | assumption) | exact q_sl 5 rfl rfl r_3 (by first | rfl | assumption) | exact q_sl 6 rfl rfl r_3 (by first | rfl | assumption) | exact q_fr rfl r_3 (by assumption))) (fun _ h => h) ?_
  refine rd_p rfl rfl rfl rfl rfl (p_mul rfl rfl (by first | exact nw64 (by omega) | exact nwu64 (by omega) | exact nwu8 (by omega) | exact nwu16 (by omega) | exact wu64 _ | exact wu8 _ | exact wi64 _ | rfl)) ?_
  refine rd_p rfl rfl rfl rfl rfl (p_add rfl rfl (by first | exact nw64 (by omega) | exact nwu64 (by omega) | exact nwu8 (by omega) | exact nwu16 (by omega) | exact wu64 _ | exact wu8 _ | exact wi64 _ | rfl)) ?_
  refine rd_p rfl rfl rfl rfl rfl (p_quo (r := (((m.a + 2 * m.b) / 3 : Nat) : Int)) rfl rfl (by decide) (by rw [Int.tdiv_eq_ediv_of_nonneg (by omega)]; exact (nw64 (by omega)).trans (by omega))) ?_
  refine rd_p rfl rfl rfl rfl rfl (p_mul rfl rfl (by first | exact nw64 (by omega) | exact nwu64 (by omega) | exact nwu8 (by omega) | exact nwu16 (by omega) | exact wu64 _ | exact wu8 _ | exact wi64 _ | rfl)) ?_
  refine rd_p rfl rfl rfl rfl rfl (p_move rfl) ?_
  refine rd_p rfl rfl rfl rfl rfl (p_add (r := ((m.p2 node : Nat) : Int)) rfl rfl ((nw64 (by omega)).trans (by unfold Ms.p2; omega))) ?_
  refine rd_p rfl rfl rfl rfl rfl (p_assign rfl) ?_
  refine rd_p rfl rfl rfl rfl rfl (p_assign rfl) ?_
  refine rd_nil ?_
  refine at_ks [0, 1, 2, 3, 4, 10, 11] (by (try simp only [keep, lk, pd, enumE, Nat.reduceBEq, Nat.reduceAdd, cond_true, cond_false]); exact rfl) ?_
  refine at_then ?_
  refine at_seq ?_
  refine at_drawH [0, 1, 2, 3, 4, 5, 6, 7, 8, 9, 10, 11, 12, 13, 14, 15] [0, 1, 3, 7, 0, 0, 32, 96, 224, 0, 992, 2016, 0, 8160, 16383, 32767] [3, 8, 11, 13] [15] mixd (by kernel_rfl) ?_
  refine rd_p rfl rfl rfl rfl rfl (p_move rfl) ?_
  refine rd_p rfl rfl rfl rfl rfl ((by first | exact p_nil rfl | exact p_nilf rfl)) ?_
  refine rd_p rfl rfl rfl rfl rfl ((by first | exact p_fa0 rfl o_118_0 | exact p_fa rfl o_118_0)) ?_
  refine rd_q rfl rfl rfl rfl rfl ((by first | exact q_ob 0 rfl rfl r_22 (by first | rfl | assumption) | exact q_ob 1 rfl rfl r_22 (by first | rfl | assumption) | exact q_ob 2 rfl rfl r_22 (by first | rfl | assumption) | exact q_ob 3 rfl rfl r_22 (by first | rfl | assumption) | exact q_ob 4 rfl rfl r_22 (by first | rfl | assumption) | exact q_ob 5 rfl rfl r_22 (by first | rfl | assumption) | exact q_ob 6 rfl rfl r_22 (by first | rfl | assumption) | exact q_sl 0 rfl rfl r_22 (by first | rfl | assumption) | exact q_sl 1 rfl rfl r_22 (by first | rfl | assumption) | exact q_sl 2 rfl rfl r_22 (by first | rfl | assumption) | exact q_sl 3 rfl rfl r_22 (by first | rfl | assumption) | exact q_sl 4 rfl rfl r_22 (by first | rfl | assumption) | exact q_sl 5 rfl rfl r_22 (by first | rfl | assumption) | exact q_sl 6 rfl rfl r_22 (by first | rfl | assumption) | exact q_fr rfl r_22 (by assumption))) (fun _ h => h) ?_
  refine rd_p rfl rfl rfl rfl rfl (p_move rfl) ?_
  refine rd_p rfl rfl rfl rfl rfl (p_move rfl) ?_
  refine rd_p rfl rfl rfl rfl rfl ((by first | exact p_nil rfl | exact p_nilf rfl)) ?_
  refine rd_p rfl rfl rfl rfl rfl ((by first | exact p_fa0 rfl o_118_0 | exact p_fa rfl o_118_0)) ?_
  refine rd_q rfl rfl rfl rfl rfl ((by first | exact q_ob 0 rfl rfl r_22 (by first | rfl | assumption) | exact q_ob 1 rfl rfl r_22 (by first | rfl | assumption) | exact q_ob 2 rfl rfl r_22 (by first | rfl | assumption) | exact q_ob 3 rfl rfl r_22 (by first | rfl | assumption) | exact q_ob 4 rfl rfl r_22 (by first | rfl | assumption) | exact q_ob 5 rfl rfl r_22 (by first | rfl | assumption) | exact q_ob 6 rfl rfl r_22 (by first | rfl | assumption) | exact q_sl 0 rfl rfl r_22 (by first | rfl | assumption) | exact q_sl 1 rfl rfl r_22 (by first | rfl | assumption) | exact q_sl 2 rfl rfl r_22 (by first | rfl | assumption) | exact q_sl 3 rfl rfl r_22 (by first | rfl | assumption) | exact q_sl 4 rfl rfl r_22 (by first | rfl | assumption) | exact q_sl 5 rfl rfl r_22 (by first | rfl | assumption) | exact q_sl 6 rfl rfl r_22 (by first | rfl | assumption) | exact q_fr rfl r_22 (by assumption))) (fun _ h => h) ?_
  refine rd_p rfl rfl rfl rfl rfl (p_move rfl) ?_
  refine rd_p rfl rfl rfl rfl rfl (p_ia1 rfl rfl z_22 (by omega) (by omega)) ?_
  refine rd_q rfl rfl rfl rfl rfl (q_sl 1 rfl rfl r_3 x0) (fun _ h => h) ?_
  refine rd_p rfl rfl rfl rfl rfl (p_move rfl) ?_
  refine rd_q rfl rfl rfl rfl rfl (q_call (first := []) rfl c_65 rfl (fun F1 hF1 hs1 => rmove_calls _ _ _ F1)) (fun _ h => h) ?_
  refine rd_p rfl rfl rfl rfl rfl (p_ia1 rfl rfl z_22 (by omega) (by omega)) ?_
  refine rd_l rfl rfl rfl rfl (l_sl 1 rfl rfl rfl rfl rfl s_3 (by omega)) (fun h => nomatch (show false = true from h)) ?_
  rintro _ _ ⟨rfl, rfl⟩
  refine rd_hp (by (try simp only [List.take_zero, List.take_succ_cons, List.drop_zero, List.drop_succ_cons, List.drop_nil, List.length_cons, List.length_nil, Nat.zero_add, Nat.reduceAdd, List.set_cons_zero, List.set_cons_succ, List.nil_append, List.cons_append, List.append_nil, pick, List.filterMap_cons, List.filterMap_nil, List.getElem?_cons_zero, List.getElem?_cons_succ]); exact rfl) ?_
  refine rd_nil ?_
  refine at_ks [0, 1, 2, 3, 4, 10, 11] (by (try simp only [keep, lk, pd, enumE, Nat.reduceBEq, Nat.reduceAdd, cond_true, cond_false]); exact rfl) ?_
  refine at_then ?_
  refine at_seq ?_
  refine at_drawH [0, 1, 2, 3, 4, 5, 6, 7, 8, 9, 10, 11, 12, 13, 14, 15] [0, 1, 3, 7, 0, 0, 32, 96, 224, 0, 992, 2016, 0, 8160, 16383, 32767] [3, 8, 11, 13] [15] mixd (by kernel_rfl) ?_
  refine rd_p rfl rfl rfl rfl rfl (p_move rfl) ?_
  refine rd_p rfl rfl rfl rfl rfl ((by first | exact p_nil rfl | exact p_nilf rfl)) ?_
  refine rd_p rfl rfl rfl rfl rfl ((by first | exact p_fa0 rfl o_118_1 | exact p_fa rfl o_118_1)) ?_
  refine rd_q rfl rfl rfl rfl rfl ((by first | exact q_ob 0 rfl rfl r_22 (by first | rfl | assumption) | exact q_ob 1 rfl rfl r_22 (by first | rfl | assumption) | exact q_ob 2 rfl rfl r_22 (by first | rfl | assumption) | exact q_ob 3 rfl rfl r_22 (by first | rfl | assumption) | exact q_ob 4 rfl rfl r_22 (by first | rfl | assumption) | exact q_ob 5 rfl rfl r_22 (by first | rfl | assumption) | exact q_ob 6 rfl rfl r_22 (by first | rfl | assumption) | exact q_sl 0 rfl rfl r_22 (by first | rfl | assumption) | exact q_sl 1 rfl rfl r_22 (by first | rfl | assumption) | exact q_sl 2 rfl rfl r_22 (by first | rfl | assumption) | exact q_sl 3 rfl rfl r_22 (by first | rfl | assumption) | exact q_sl 4 rfl rfl r_22 (by first | rfl | assumption) | exact q_sl 5 rfl rfl r_22 (by first | rfl | assumption) | exact q_sl 6 rfl rfl r_22 (by first | rfl | assumption) | exact q_fr rfl r_22 (by assumption))) (fun _ h => h) ?_
  refine rd_p rfl rfl rfl rfl rfl (p_move rfl) ?_
  refine rd_p rfl rfl rfl rfl rfl (p_move rfl) ?_
  refine rd_p rfl rfl rfl rfl rfl ((by first | exact p_nil rfl | exact p_nilf rfl)) ?_
  refine rd_p rfl rfl rfl rfl rfl ((by first | exact p_fa0 rfl o_118_1 | exact p_fa rfl o_118_1)) ?_
  refine rd_q rfl rfl rfl rfl rfl ((by first | exact q_ob 0 rfl rfl r_22 (by first | rfl | assumption) | exact q_ob 1 rfl rfl r_22 (by first | rfl | assumption) | exact q_ob 2 rfl rfl r_22 (by first | rfl | assumption) | exact q_ob 3 rfl rfl r_22 (by first | rfl | assumption) | exact q_ob 4 rfl rfl r_22 (by first | rfl | assumption) | exact q_ob 5 rfl rfl r_22 (by first | rfl | assumption) | exact q_ob 6 rfl rfl r_22 (by first | rfl | assumption) | exact q_sl 0 rfl rfl r_22 (by first | rfl | assumption) | exact q_sl 1 rfl rfl r_22 (by first | rfl | assumption) | exact q_sl 2 rfl rfl r_22 (by first | rfl | assumption) | exact q_sl 3 rfl rfl r_22 (by first | rfl | assumption) | exact q_sl 4 rfl rfl r_22 (by first | rfl | assumption) | exact q_sl 5 rfl rfl r_22 (by first | rfl | assumption) | exact q_sl 6 rfl rfl r_22 (by first | rfl | assumption) | exact q_fr rfl r_22 (by assumption))) (fun _ h => h) ?_
  refine rd_p rfl rfl rfl rfl rfl (p_move rfl) ?_
  refine rd_p rfl rfl rfl rfl rfl (p_ia1 rfl rfl z_22 (by omega) (by omega)) ?_
  refine rd_q rfl rfl rfl rfl rfl (q_sl 2 rfl rfl r_3 x1) (fun _ h => h) ?_
  refine rd_p rfl rfl rfl rfl rfl (p_move rfl) ?_
  refine rd_q rfl rfl rfl rfl rfl (q_call (first := []) rfl c_65 rfl (fun F1 hF1 hs1 => rmove_calls _ _ _ F1)) (fun _ h => h) ?_
  refine rd_p rfl rfl rfl rfl rfl (p_ia1 rfl rfl z_22 (by omega) (by omega)) ?_
  refine rd_l rfl rfl rfl rfl (l_sl 2 rfl rfl rfl rfl rfl s_3 (by omega)) (fun h => nomatch (show false = true from h)) ?_
  rintro _ _ ⟨rfl, rfl⟩
  refine rd_hp (by (try simp only [List.take_zero, List.take_succ_cons, List.drop_zero, List.drop_succ_cons, List.drop_nil, List.length_cons, List.length_nil, Nat.zero_add, Nat.reduceAdd, List.set_cons_zero, List.set_cons_succ, List.nil_append, List.cons_append, List.append_nil, pick, List.filterMap_cons, List.filterMap_nil, List.getElem?_cons_zero, List.getElem?_cons_succ]); exact rfl) ?_
  refine rd_nil ?_
  refine at_ks [0, 1, 2, 3, 4, 10, 11] (by (try simp only [keep, lk, pd, enumE, Nat.reduceBEq, Nat.reduceAdd, cond_true, cond_false]); exact rfl) ?_
  refine at_then ?_
  refine at_drawH [0, 1, 2, 3, 4, 5, 6, 7, 8, 9, 10, 11, 12, 13, 14, 15] [0, 1, 3, 7, 0, 0, 32, 96, 224, 0, 992, 2016, 0, 8160, 16383, 32767] [3, 8, 11, 13] [15] mixd (by kernel_rfl) ?_
  refine rd_p rfl rfl rfl rfl rfl (p_move rfl) ?_
  refine rd_p rfl rfl rfl rfl rfl ((by first | exact p_nil rfl | exact p_nilf rfl)) ?_
  refine rd_p rfl rfl rfl rfl rfl ((by first | exact p_fa0 rfl o_118_2 | exact p_fa rfl o_118_2)) ?_
  refine rd_q rfl rfl rfl rfl rfl ((by first | exact q_ob 0 rfl rfl r_22 (by first | rfl | assumption) | exact q_ob 1 rfl rfl r_22 (by first | rfl | assumption) | exact q_ob 2 rfl rfl r_22 (by first | rfl | assumption) | exact q_ob 3 rfl rfl r_22 (by first | rfl | assumption) | exact q_ob 4 rfl rfl r_22 (by first | rfl | assumption) | exact q_ob 5 rfl rfl r_22 (by first | rfl | assumption) | exact q_ob 6 rfl rfl r_22 (by first | rfl | assumption) | exact q_sl 0 rfl rfl r_22 (by first | rfl | assumption) | exact q_sl 1 rfl rfl r_22 (by first | rfl | assumption) | exact q_sl 2 rfl rfl r_22 (by first | rfl | assumption) | exact q_sl 3 rfl rfl r_22 (by first | rfl | assumption) | exact q_sl 4 rfl rfl r_22 (by first | rfl | assumption) | exact q_sl 5 rfl rfl r_22 (by first | rfl | assumption) | exact q_sl 6 rfl rfl r_22 (by first | rfl | assumption) | exact q_fr rfl r_22 (by assumption))) (fun _ h => h) ?_
  refine rd_p rfl rfl rfl rfl rfl (p_move rfl) ?_
  refine rd_p rfl rfl rfl rfl rfl (p_move rfl) ?_
  refine rd_p rfl rfl rfl rfl rfl ((by first | exact p_nil rfl | exact p_nilf rfl)) ?_
  refine rd_p rfl rfl rfl rfl rfl ((by first | exact p_fa0 rfl o_118_2 | exact p_fa rfl o_118_2)) ?_
  refine rd_q rfl rfl rfl rfl rfl ((by first | exact q_ob 0 rfl rfl r_22 (by first | rfl | assumption) | exact q_ob 1 rfl rfl r_22 (by first | rfl | assumption) | exact q_ob 2 rfl rfl r_22 (by first | rfl | assumption) | exact q_ob 3 rfl rfl r_22 (by first | rfl | assumption) | exact q_ob 4 rfl rfl r_22 (by first | rfl | assumption) | exact q_ob 5 rfl rfl r_22 (by first | rfl | assumption) | exact q_ob 6 rfl rfl r_22 (by first | rfl | assumption) | exact q_sl 0 rfl rfl r_22 (by first | rfl | assumption) | exact q_sl 1 rfl rfl r_22 (by first | rfl | assumption) | exact q_sl 2 rfl rfl r_22 (by first | rfl | assumption) | exact q_sl 3 rfl rfl r_22 (by first | rfl | assumption) | exact q_sl 4 rfl rfl r_22 (by first | rfl | assumption) | exact q_sl 5 rfl rfl r_22 (by first | rfl | assumption) | exact q_sl 6 rfl rfl r_22 (by first | rfl | assumption) | exact q_fr rfl r_22 (by assumption))) (fun _ h => h) ?_
  refine rd_p rfl rfl rfl rfl rfl (p_move rfl) ?_
  refine rd_p rfl rfl rfl rfl rfl (p_ia1 rfl rfl z_22 (by omega) (by omega)) ?_
  refine rd_q rfl rfl rfl rfl rfl (q_sl 3 rfl rfl r_3 x2) (fun _ h => h) ?_
  refine rd_p rfl rfl rfl rfl rfl (p_move rfl) ?_
  refine rd_q rfl rfl rfl rfl rfl (q_call (first := []) rfl c_65 rfl (fun F1 hF1 hs1 => rmove_calls _ _ _ F1)) (fun _ h => h) ?_
  refine rd_p rfl rfl rfl rfl rfl (p_ia1 rfl rfl z_22 (by omega) (by omega)) ?_
  refine rd_l rfl rfl rfl rfl (l_sl 3 rfl rfl rfl rfl rfl s_3 (by omega)) (fun h => nomatch (show false = true from h)) ?_
  rintro _ _ ⟨rfl, rfl⟩
  refine rd_hp (by (try simp only [List.take_zero, List.take_succ_cons, List.drop_zero, List.drop_succ_cons, List.drop_nil, List.length_cons, List.length_nil, Nat.zero_add, Nat.reduceAdd, List.set_cons_zero, List.set_cons_succ, List.nil_append, List.cons_append, List.append_nil, pick, List.filterMap_cons, List.filterMap_nil, List.getElem?_cons_zero, List.getElem?_cons_succ]); exact rfl) ?_
  refine rd_nil ?_
  refine at_ks [0, 1, 2, 3, 4, 10, 11] (by (try simp only [keep, lk, pd, enumE, Nat.reduceBEq, Nat.reduceAdd, cond_true, cond_false]); exact rfl) ?_
  exact fin_n rfl (by
      refine ⟨rfl, .slice At 3 ct, ?_⟩
      have q0 : (ints .i64 m.l0).set ((node : Nat) : Int).toNat (N (mvv (gn m.l0 node) b 4)) = ints .i64 (m.learn d node p b).l0 := by rw [Int.toNat_natCast]; exact List.map_set.symm
      have q1 : (ints .i64 m.l1).set ((m.p1 node : Nat) : Int).toNat (N (mvv (gn m.l1 (m.p1 node)) b 5)) = ints .i64 (m.learn d node p b).l1 := by rw [Int.toNat_natCast]; exact List.map_set.symm
      have q2 : (ints .i64 m.l2).set ((m.p2 node : Nat) : Int).toNat (N (mvv (gn m.l2 (m.p2 node)) b 6)) = ints .i64 (m.learn d node p b).l2 := by rw [Int.toNat_natCast]; exact List.map_set.symm
      rw [← q0, ← q1, ← q2, learn_wt hm hd, Int.toNat_natCast d])

theorem rlearn_calls (mb : Nat) (m : Ms) (HM : Hp) (d node : Nat) (p b : Int) (F : Frm) (hM : rmodH mb m HM) (hm : m.ok) (hd : d < 7) (hn : node < 128) :
    SC Try.prog 36 #[.pointer (some ⟨mb, 0, none⟩), N d, N node, N p, N b] HM F (fun u H' => u = .tuple #[] ∧ rmodH mb (m.learn d node p b) H') := by
  obtain ⟨v0, v1, v2, wv, ws, hw, rfl⟩ := hM
  obtain ⟨wd, hwd⟩ : ∃ v, ws[d]? = some v := ⟨_, List.getElem?_eq_getElem (by omega)⟩
  have hwt := hm.wt hd
  have hp := perm_focus _ d _ (wch_get (t := 3) hwd hwt.1)
  refine SC.perm (((((hp.cons _).cons _).cons _).cons _).cons _) ?_
  refine SC.postPerm (Go.Proofs.Ytbpbhjnkmonlbaa.SC.framed (H1 := [_, _, _, _, _, _]) (H2 := (wch 3 ws m.w).eraseIdx d) (fun F1 _ _ => rlearnF_calls mb v0 v1 v2 wv wd ws m d node p b F1 hm hd hn hw hwd)) ?_
  rintro u H' ⟨K, ⟨rfl, wd', rfl⟩, rfl⟩
  have hl := wch_len (t := 3) hw hm.nw
  have hp2 := perm_set (wch 3 ws m.w) d (.sl wd' 3 1 3 (ints .i64 ((m.learn d node p b).wt d))) (by omega)
  refine ⟨_, (((((hp2.symm.cons _).cons _).cons _).cons _).cons _), rfl, v0, v1, v2, wv, ws.set d wd', by simp [hw], ?_⟩
  rw [← wch_set, learn_wt hm hd]; rfl

theorem rcame_calls (mb : Nat) (m : Ms) (HM : Hp) (c : Nat) (F : Frm) (hM : rmodH mb m HM) : SC Try.prog 37 #[.pointer (some ⟨mb, 0, none⟩), N c] HM F (fun u H' => u = .tuple #[] ∧ rmodH mb (m.came c) H') := by
  obtain ⟨v0, v1, v2, wv, ws, hw, rfl⟩ := hM
  refine sc_in (args := [.pointer (some ⟨mb, 0, none⟩), N c]) Try.func37 rfl rfl (Nat.le_of_ble_eq_true rfl) ?_
  refine at_ks [0, 1] (by (try simp only [keep, lk, pd, enumE, Nat.reduceBEq, Nat.reduceAdd, cond_true, cond_false]); exact rfl) ?_
  refine at_seq ?_
  refine at_region ?_
  refine st_p rfl rfl (p_move rfl) ?_
  refine st_p rfl rfl (p_move rfl) ?_
  refine st_p rfl rfl ((by first | exact p_nil rfl | exact p_nilf rfl)) ?_
  refine st_p rfl rfl ((by first | exact p_fa0 rfl o_118_4 | exact p_fa rfl o_118_4)) ?_
  refine st_q rfl rfl ((by first | exact q_ob 0 rfl rfl r_3 (by first | rfl | assumption) | exact q_sl 0 rfl rfl r_3 (by first | rfl | assumption) | exact q_fr rfl r_3 (by assumption))) ?_
  refine st_p rfl rfl ((by first | exact p_nil rfl | exact p_nilf rfl)) ?_
  refine st_p rfl rfl ((by first | exact p_fa0 rfl o_118_5 | exact p_fa rfl o_118_5)) ?_
  refine st_l rfl rfl ((by first | exact l_ob 0 rfl rfl rfl (by first | rfl | assumption) (by first | rfl | assumption) s_3 (by first | decide | omega | (simp only [List.length_cons, List.length_nil]; omega) | (simp; omega) | (simp; done)) | exact l_sl 0 rfl rfl rfl (by first | rfl | assumption) (by first | rfl | assumption) s_3 (by first | decide | omega | (simp only [List.length_cons, List.length_nil]; omega) | (simp; omega) | (simp; done)))) ?_
  rintro _ _ ⟨rfl, rfl⟩
  refine at_hp (by (try simp only [List.take_zero, List.take_succ_cons, List.drop_zero, List.drop_succ_cons, List.drop_nil, List.length_cons, List.length_nil, Nat.zero_add, Nat.reduceAdd, List.set_cons_zero, List.set_cons_succ, List.nil_append, List.cons_append, List.append_nil, pick, List.filterMap_cons, List.filterMap_nil, List.getElem?_cons_zero, List.getElem?_cons_succ]); exact rfl) ?_
  refine at_nil ?_
  refine at_ks [0, 1] (by (try simp only [keep, lk, pd, enumE, Nat.reduceBEq, Nat.reduceAdd, cond_true, cond_false]); exact rfl) ?_
  refine at_then ?_
  refine at_region ?_
  refine st_p rfl rfl (p_move rfl) ?_
  refine st_p rfl rfl (p_move rfl) ?_
  refine st_p rfl rfl ((by first | exact p_nil rfl | exact p_nilf rfl)) ?_
  refine st_p rfl rfl ((by first | exact p_fa0 rfl o_118_4 | exact p_fa rfl o_118_4)) ?_
  refine st_l rfl rfl ((by first | exact l_ob 0 rfl rfl rfl (by first | rfl | assumption) (by first | rfl | assumption) s_3 (by first | decide | omega | (simp only [List.length_cons, List.length_nil]; omega) | (simp; omega) | (simp; done)) | exact l_sl 0 rfl rfl rfl (by first | rfl | assumption) (by first | rfl | assumption) s_3 (by first | decide | omega | (simp only [List.length_cons, List.length_nil]; omega) | (simp; omega) | (simp; done)))) ?_
  rintro _ _ ⟨rfl, rfl⟩
  refine at_hp (by (try simp only [List.take_zero, List.take_succ_cons, List.drop_zero, List.drop_succ_cons, List.drop_nil, List.length_cons, List.length_nil, Nat.zero_add, Nat.reduceAdd, List.set_cons_zero, List.set_cons_succ, List.nil_append, List.cons_append, List.append_nil, pick, List.filterMap_cons, List.filterMap_nil, List.getElem?_cons_zero, List.getElem?_cons_succ]); exact rfl) ?_
  refine at_nil ?_
  refine at_ks [0, 1] (by (try simp only [keep, lk, pd, enumE, Nat.reduceBEq, Nat.reduceAdd, cond_true, cond_false]); exact rfl) ?_
  exact fin_n rfl (by
      exact ⟨rfl, v0, v1, v2, wv, ws, hw, rfl⟩)

/-- A class' nodes and bits; of what is no class none. -/
def nodesA (c : Int) : List Int := if 0 ≤ c ∧ c < 65 then nodesv c 7 else []
def bitsA (c : Int) : List Int := if 0 ≤ c ∧ c < 65 then bitsv c 7 else []
theorem rnodesA_calls (c : Int) (F : Frm) : SC Try.prog 33 #[N c] [] F (fun u H => ∃ v1 v2, u = .tuple #[v1, v2] ∧ H = [.sl v1 3 1 (nodesA c).length (ints .i64 (nodesA c)), .sl v2 3 1 (bitsA c).length (ints .i64 (bitsA c))]) := by
  by_cases h : 0 ≤ c ∧ c < 65
  · unfold nodesA bitsA
    rw [if_pos h, if_pos h, nodesv_len, bitsv_len]
    exact rnodes_calls c h.1 h.2 F
  · unfold nodesA bitsA
    rw [if_neg h, if_neg h]
    intro w hw
    refine (rnodesBad_calls c (by omega) F w hw).mono ?_
    rintro e w' ⟨v, H', rfl, ⟨rfl, rfl⟩, ho⟩
    exact ⟨_, _, rfl, ⟨_, _, rfl, rfl⟩, (ho.nilsl 3 1).nilsl 3 1⟩
def ndn (c j : Nat) : Nat := 2 ^ j + c / 2 ^ (7 - j)
theorem ndn_all : ∀ c < 65, ∀ j < 7, ndn c j < 128 ∧ 2 * ndn c j + (btv c j).toNat = ndn c (j + 1) := by decide +kernel
theorem ndn_zero {c : Nat} (h : c < 65) : ndn c 0 = 1 := by unfold ndn; omega
theorem ndn_eq (c j : Nat) : ndv c j = ((ndn c j : Nat) : Int) := by unfold ndv ndn; push_cast; rfl
theorem node_get {c j : Nat} (hj : j < 7) : (ints .i64 (nodesv c 7))[((j : Nat) : Int).toNat]? = some (N ((ndn c j : Nat) : Int)) := by
  unfold nodesv
  rw [Int.toNat_natCast, List.getElem?_map, List.getElem?_map, List.getElem?_range hj, ← ndn_eq]; rfl
theorem bit_get {c j : Nat} (hj : j < 7) : (ints .i64 (bitsv c 7))[((j : Nat) : Int).toNat]? = some (N (btv c j)) := by
  unfold bitsv
  rw [Int.toNat_natCast, List.getElem?_map, List.getElem?_map, List.getElem?_range hj]; rfl
theorem bits_drop {c j : Nat} (hj : j < 7) : (bitsv c 7).drop j = btv c j :: (bitsv c 7).drop (j + 1) := by
  have hl : j < (bitsv (c : Int) 7).length := by rw [bitsv_len]; exact hj
  have hg : (bitsv (c : Int) 7)[j]? = some (btv c j) := by
    unfold bitsv
    rw [List.getElem?_map, List.getElem?_range hj]; rfl
  rw [List.drop_eq_getElem_cons hl, (List.getElem?_eq_some_iff.1 hg).2]
theorem perm3 {α : Type} (a b c : α) (X : List α) : (a :: b :: c :: X).Perm (c :: a :: b :: X) :=
  ((List.Perm.swap c b X).cons a).trans (List.Perm.swap c a (b :: X))
/-- A class, bit by bit: the state ahead of bit j, and at the end. -/
structure Mid {σ : Type} (put : Put σ) (c j : Nat) (m : Ms) (s : σ) (m' : Ms) (s' : σ) : Prop where
  go : forthGo put ((bitsv c 7).drop j) j (ndn c j) m s = some (m', s')
  ok : m.ok
theorem Mid.start {σ : Type} {put : Put σ} {c : Nat} {m m' : Ms} {s s' : σ} (hc : c < 65) (hm : m.ok) (h : forthS put m c s = some (m', s')) : ∃ m1, Mid put c 0 m s m1 s' ∧ m' = m1.came c := by
  unfold forthS at h
  split at h
  · cases h
  · rename_i m1 s1 hg
    simp only [Option.some.injEq, Prod.mk.injEq] at h
    obtain ⟨rfl, rfl⟩ := h
    exact ⟨m1, ⟨by rw [ndn_zero hc, List.drop_zero]; exact hg, hm⟩, rfl⟩
theorem Mid.step {σ : Type} {put : Put σ} {c j : Nat} {m m' : Ms} {s s' : σ} (h : Mid put c j m s m' s') (hc : c < 65) (hj : j < 7) : ∃ s1, put s (m.chance j (ndn c j)) (btv c j) = some s1 ∧ Mid put c (j + 1) (m.learn j (ndn c j) (m.chance j (ndn c j)) (btv c j)) s1 m' s' := by
  obtain ⟨hg, hm⟩ := h
  rw [bits_drop hj, forthGo] at hg
  split at hg
  · cases hg
  · rename_i s1 hp
    rw [(ndn_all c hc j hj).2] at hg
    exact ⟨s1, hp, hg, hm.learn hj _ _ _⟩
theorem Mid.fin {σ : Type} {put : Put σ} {c : Nat} {m m' : Ms} {s s' : σ} (h : Mid put c 7 m s m' s') : m' = m ∧ s' = s := by
  obtain ⟨hg, _⟩ := h
  rw [List.drop_eq_nil_of_le (by rw [bitsv_len]; exact Nat.le_refl _), forthGo] at hg
  simp only [Option.some.injEq, Prod.mk.injEq] at hg
  exact ⟨hg.1.symm, hg.2.symm⟩

theorem rtrace_calls (A : Option Addr) (n ca : Nat) (cs : List Int) (r : List Int) (F : Frm) (hn : cs.length = n) (h6 : n ≤ 1000000000) (hx : FV F A (ints .i64 cs)) (h : traceGo cs ms0 [] = some r) :
    SC Try.prog 17 #[.slice A n ca] [] F (fun u H => H = [.sl u 3 1 r.length (ints .i64 r)]) := by
  refine sc_in (args := [.slice A n ca]) Try.func17 rfl rfl (Nat.le_of_ble_eq_true rfl) ?_
  refine at_ks [0, 2, 3, 4, 5, 6, 7, 8, 9, 14, 27, 29] (by (try simp only [keep, lk, pd, enumE, Nat.reduceBEq, Nat.reduceAdd, cond_true, cond_false]); exact rfl) ?_
  refine at_seq ?_
  refine at_region ?_
  refine st_p rfl rfl (p_assign rfl) ?_
  refine at_nil ?_
  refine at_ks [0, 2, 3, 4, 5, 6, 7, 8, 9, 14, 27, 29] (by (try simp only [keep, lk, pd, enumE, Nat.reduceBEq, Nat.reduceAdd, cond_true, cond_false]); exact rfl) ?_
  refine at_then ?_
  refine at_seq ?_
  refine at_region ?_
  refine st_l rfl rfl (l_callP (first := []) (H1 := []) (H2 := _) (List.Perm.refl _) rfl c_30 rfl (fun F1 hF1 hs1 => rmodel_calls F1)) ?_
  rintro _ _ ⟨HM, ⟨mb, rfl, hM⟩, rfl⟩
  refine at_hp (by (try simp only [List.take_zero, List.take_succ_cons, List.drop_zero, List.drop_succ_cons, List.drop_nil, List.length_cons, List.length_nil, Nat.zero_add, Nat.reduceAdd, List.set_cons_zero, List.set_cons_succ, List.nil_append, List.cons_append, List.append_nil, pick, List.filterMap_cons, List.filterMap_nil, List.getElem?_cons_zero, List.getElem?_cons_succ]); exact rfl) ?_
  refine st_p rfl rfl (p_assign rfl) ?_
  refine at_nil ?_
  refine at_ks [0, 2, 3, 4, 5, 6, 7, 8, 9, 14, 27, 29] (by (try simp only [keep, lk, pd, enumE, Nat.reduceBEq, Nat.reduceAdd, cond_true, cond_false]); exact rfl) ?_
  refine at_then ?_
  refine at_seq ?_
  refine at_region ?_
  refine st_p rfl rfl (p_assign rfl) ?_
  refine at_nil ?_
  refine at_ks [0, 2, 3, 4, 5, 6, 7, 8, 9, 14, 27, 29] (by (try simp only [keep, lk, pd, enumE, Nat.reduceBEq, Nat.reduceAdd, cond_true, cond_false]); exact rfl) ?_
  refine at_then ?_
  refine at_seq ?_
  refine at_seq ?_
  refine at_region ?_
  refine st_p rfl rfl (p_assign rfl) ?_
  refine at_nil ?_
  refine at_ks [0, 2, 3, 4, 5, 6, 7, 8, 9, 14, 27, 29] (by (try simp only [keep, lk, pd, enumE, Nat.reduceBEq, Nat.reduceAdd, cond_true, cond_false]); exact rfl) ?_
  refine at_then ?_
  refine at_block ?_
  refine at_ks [0, 3, 4, 5] (by (try simp only [keep, lk, pd, enumE, Nat.reduceBEq, Nat.reduceAdd, cond_true, cond_false]); exact rfl) ?_
  refine at_nilsl 3 1 ?_
  refine at_loop (fun k E H => ∃ (i : Nat) (m1 : Ms) (l1 : List Int) (v : Value) (HM1 : Hp), E = [(0, .slice A n ca), (3, .pointer (some ⟨mb, 0, none⟩)), (4, v), (5, N (i : Int))] ∧ H = .sl v 3 1 l1.length (ints .i64 l1) :: HM1 ∧ rmodH mb m1 HM1 ∧ m1.ok ∧ i ≤ n ∧ k + i = n + 1 ∧ traceGo (cs.drop i) m1 l1 = some r) (n + 1) (⟨0, ms0, [], _, HM, rfl, rfl, hM, ms0_ok, by omega, by omega, by rw [List.drop_zero]; exact h⟩) ?_
  rintro k _ _ ⟨i, m1, l1, v, HM1, rfl, rfl, hM1, hm1, hi, hk, he⟩
  refine at_seq ?_
  refine at_seq ?_
  refine at_region ?_
  refine st_p rfl rfl (p_move rfl) ?_
  refine st_p rfl rfl (p_move rfl) ?_
  refine st_p rfl rfl (p_len rfl m_22) ?_
  refine st_p rfl rfl (p_lss rfl rfl) ?_
  refine at_nil ?_
  refine at_ks [0, 2, 3, 4, 5, 6, 7, 8, 9, 14, 27, 29] (by (try simp only [keep, lk, pd, enumE, Nat.reduceBEq, Nat.reduceAdd, cond_true, cond_false]); exact rfl) ?_
  refine at_then ?_
  refine at_cond rfl (fun ht14 => ?_) (fun ht14 => ?_)
  · (try simp only [decide_eq_true_eq, decide_eq_false_iff_not, Bool.not_eq_true', Bool.not_eq_false', Bool.not_true, Bool.not_false, Bool.or_eq_true, Bool.and_eq_true, Int.not_lt, Int.not_le] at ht14)
    obtain ⟨ba, oa, rfl, hga⟩ := hx.int (i := (i : Int)) (by omega) (by omega)
    rw [drop_gi (by omega), traceGo] at he
    refine at_skip ?_
    refine at_then ?_
    refine at_seq ?_
    refine at_block ?_
    refine at_seq ?_
    refine at_region ?_
    refine st_p rfl rfl (p_move rfl) ?_
    refine st_p rfl rfl (p_move rfl) ?_
    refine st_p rfl rfl (p_iaO1 rfl rfl z_22 (by omega) (by omega)) ?_
    refine st_q rfl rfl (q_fr rfl r_3 hga) ?_
    refine st_l rfl rfl (l_callP (first := []) (H1 := []) (H2 := _) (List.Perm.refl _) rfl c_33 rfl (fun F1 hF1 hs1 => rnodesA_calls (gi cs i) F1)) ?_
    rintro _ _ ⟨_, ⟨vn, vb, rfl, rfl⟩, rfl⟩
    refine at_hp (by (try simp only [List.take_zero, List.take_succ_cons, List.drop_zero, List.drop_succ_cons, List.drop_nil, List.length_cons, List.length_nil, Nat.zero_add, Nat.reduceAdd, List.set_cons_zero, List.set_cons_succ, List.nil_append, List.cons_append, List.append_nil, pick, List.filterMap_cons, List.filterMap_nil, List.getElem?_cons_zero, List.getElem?_cons_succ]); exact rfl) ?_
    refine st_p rfl rfl (p_move rfl) ?_
    refine st_p rfl rfl (p_ext rfl rfl) ?_
    refine st_p rfl rfl (p_ext rfl rfl) ?_
    refine st_p rfl rfl (p_assign rfl) ?_
    refine st_p rfl rfl (p_assign rfl) ?_
    refine at_nil ?_
    refine at_ks [0, 2, 3, 4, 5, 6, 7, 8, 9, 14, 27, 29] (by (try simp only [keep, lk, pd, enumE, Nat.reduceBEq, Nat.reduceAdd, cond_true, cond_false]); exact rfl) ?_
    refine at_then ?_
    refine at_seq ?_
    refine at_seq ?_
    refine at_shapeM 0 rfl fun An cn hv _ _ hAn => ?_
    subst hv
    refine at_shapeM 1 rfl fun Ab cb hv _ _ hAb => ?_
    subst hv
    refine at_region ?_
    refine st_p rfl rfl (p_move rfl) ?_
    refine st_p rfl rfl (p_len rfl m_22) ?_
    refine st_p rfl rfl (p_eql rfl rfl) ?_
    refine at_nil ?_
    refine at_ks [0, 2, 3, 4, 5, 6, 7, 8, 9, 14, 27, 29] (by (try simp only [keep, lk, pd, enumE, Nat.reduceBEq, Nat.reduceAdd, cond_true, cond_false]); exact rfl) ?_
    refine at_then ?_
    refine at_cond rfl (fun ht27 => ?_) (fun ht27 => ?_)
    · (try simp only [decide_eq_true_eq, decide_eq_false_iff_not, Bool.not_eq_true', Bool.not_eq_false', Bool.not_true, Bool.not_false, Bool.or_eq_true, Bool.and_eq_true, Int.not_lt, Int.not_le] at ht27)
      have hbad : ¬ (0 ≤ gi cs i ∧ gi cs i < 65) := fun hh => by
        unfold nodesA at ht27
        rw [if_pos hh, nodesv_len] at ht27
        omega
      rw [if_neg hbad] at he
      simp only [Option.some.injEq] at he
      subst he
      refine at_seq ?_
      refine at_region ?_
      refine st_p rfl rfl (p_assign rfl) ?_
      refine at_nil ?_
      refine at_ks [0, 2, 3, 4, 5, 6, 7, 8, 9, 14, 27, 29] (by (try simp only [keep, lk, pd, enumE, Nat.reduceBEq, Nat.reduceAdd, cond_true, cond_false]); exact rfl) ?_
      refine at_then ?_
      refine at_retc ?_
      refine at_then_r ?_
      refine at_inb_r ?_
      refine at_then_r ?_
      refine at_then_r ?_
      refine at_inb_r ?_
      refine at_then_r ?_
      refine at_re [] (by decide) ?_
      refine at_nilsl 3 1 ?_
      exact fin_1 rfl rfl (by
          rfl)
    · (try simp only [decide_eq_true_eq, decide_eq_false_iff_not, Bool.not_eq_true', Bool.not_eq_false', Bool.not_true, Bool.not_false, Bool.or_eq_true, Bool.and_eq_true, Int.not_lt, Int.not_le] at ht27)
      have hgood : 0 ≤ gi cs i ∧ gi cs i < 65 := by
        rcases Decidable.em (0 ≤ gi cs i ∧ gi cs i < 65) with hh | hh
        · exact hh
        · exfalso
          unfold nodesA at ht27
          rw [if_neg hh] at ht27
          exact ht27 rfl
      rw [if_pos hgood] at he
      obtain ⟨c, hcn⟩ : ∃ c : Nat, gi cs i = (c : Int) := ⟨(gi cs i).toNat, by omega⟩
      have hc : c < 65 := by omega
      rw [hcn, Int.toNat_natCast] at he
      rw [hcn] at hga hAn hAb
      rw [hcn]
      have en : nodesA (c : Int) = nodesv c 7 := if_pos (by omega)
      have eb : bitsA (c : Int) = bitsv c 7 := if_pos (by omega)
      rw [en, nodesv_len] at hAn
      rw [eb, bitsv_len] at hAb
      rw [en, eb, nodesv_len, bitsv_len]
      obtain ⟨gn_, rfl⟩ := hAn (by decide)
      obtain ⟨gb_, rfl⟩ := hAb (by decide)
      obtain ⟨⟨m', lF⟩, hf⟩ : ∃ r, forthS tracP m1 c l1 = some r := by
        cases h : forthS tracP m1 c l1 with
        | none => rw [h] at he; cases he
        | some r => exact ⟨r, rfl⟩
      rw [hf] at he
      simp only at he
      obtain ⟨mF, hmid0, rfl⟩ := Mid.start hc hm1 hf
      refine at_skip ?_
      refine at_then ?_
      refine at_seq ?_
      refine at_seq ?_
      refine at_region ?_
      refine st_p rfl rfl (p_assign rfl) ?_
      refine at_nil ?_
      refine at_ks [0, 2, 3, 4, 5, 6, 7, 8, 9, 14, 27, 29] (by (try simp only [keep, lk, pd, enumE, Nat.reduceBEq, Nat.reduceAdd, cond_true, cond_false]); exact rfl) ?_
      refine at_then ?_
      refine at_block ?_
      refine at_ks [0, 3, 4, 5, 6, 7, 8] (by (try simp only [keep, lk, pd, enumE, Nat.reduceBEq, Nat.reduceAdd, cond_true, cond_false]); exact rfl) ?_
      refine at_perm (perm3 _ _ _ _) ?_
      refine at_loop (fun k2 E H => ∃ (j : Nat) (m2 : Ms) (l2 : List Int) (v : Value) (HM2 : Hp), E = [(0, .slice (some ⟨ba, oa, none⟩) n ca), (3, .pointer (some ⟨mb, 0, none⟩)), (4, v), (5, N (i : Int)), (6, .slice (some ⟨gn_, 0, none⟩) 7 cn), (7, .slice (some ⟨gb_, 0, none⟩) 7 cb), (8, N (j : Int))] ∧ H = .sl v 3 1 l2.length (ints .i64 l2) :: .sl (.slice (some ⟨gn_, 0, none⟩) 7 cn) 3 1 7 (ints .i64 (nodesv c 7)) :: .sl (.slice (some ⟨gb_, 0, none⟩) 7 cb) 3 1 7 (ints .i64 (bitsv c 7)) :: HM2 ∧ rmodH mb m2 HM2 ∧ Mid tracP c j m2 l2 mF lF ∧ j ≤ 7 ∧ k2 + j = 8) (8) (⟨0, m1, l1, v, HM1, rfl, rfl, hM1, hmid0, by omega, by omega⟩) ?_
      rintro k2 _ _ ⟨j, m2, l2, v, HM2, rfl, rfl, hM2, hmid, hj, hk2⟩
      refine at_seq ?_
      refine at_seq ?_
      refine at_region ?_
      refine st_p rfl rfl (p_move rfl) ?_
      refine st_p rfl rfl (p_lss rfl rfl) ?_
      refine at_nil ?_
      refine at_ks [0, 2, 3, 4, 5, 6, 7, 8, 9, 14, 27, 29] (by (try simp only [keep, lk, pd, enumE, Nat.reduceBEq, Nat.reduceAdd, cond_true, cond_false]); exact rfl) ?_
      refine at_then ?_
      refine at_cond rfl (fun ht29 => ?_) (fun ht29 => ?_)
      · (try simp only [decide_eq_true_eq, decide_eq_false_iff_not, Bool.not_eq_true', Bool.not_eq_false', Bool.not_true, Bool.not_false, Bool.or_eq_true, Bool.and_eq_true, Int.not_lt, Int.not_le] at ht29)
        have hj7 : j < 7 := by omega
        obtain ⟨l3, hput, hmid2⟩ := hmid.step hc hj7
        unfold tracP at hput
        obtain ⟨hl9, hput⟩ := (Option.ite_none_right_eq_some).1 hput
        simp only [Option.some.injEq] at hput
        subst hput
        refine at_skip ?_
        refine at_then ?_
        refine at_seq ?_
        refine at_block ?_
        refine at_seq ?_
        refine at_region ?_
        refine st_p rfl rfl (p_move rfl) ?_
        refine st_p rfl rfl (p_move rfl) ?_
        refine st_p rfl rfl (p_move rfl) ?_
        refine st_p rfl rfl (p_move rfl) ?_
        refine st_p rfl rfl (p_ia1 rfl rfl z_22 (by omega) (by omega)) ?_
        refine st_q rfl rfl (q_sl 1 rfl rfl r_3 (node_get hj7)) ?_
        refine st_q rfl rfl (q_call (first := []) rfl c_34 rfl (fun F1 hF1 hs1 => rat_calls mb m2 HM2 j (ndn c j) F1 hM2 hmid.ok hj7 (ndn_all c hc j hj7).1 (fun x hx => hs1 x (List.mem_cons_of_mem _ (List.mem_cons_of_mem _ (List.mem_cons_of_mem _ hx)))))) ?_
        refine st_p rfl rfl (p_assign rfl) ?_
        refine at_nil ?_
        refine at_ks [0, 2, 3, 4, 5, 6, 7, 8, 9, 14, 27, 29] (by (try simp only [keep, lk, pd, enumE, Nat.reduceBEq, Nat.reduceAdd, cond_true, cond_false]); exact rfl) ?_
        refine at_then ?_
        refine at_seq ?_
        refine at_region ?_
        refine st_p rfl rfl (p_move rfl) ?_
        refine st_p rfl rfl (p_move rfl) ?_
        refine st_l rfl rfl (l_bsV [N (m2.chance j (ndn c j))] [N (m2.chance j (ndn c j))] rfl e_22 (by decide) (by decide) rfl (by simp [Value.cells]) rfl) ?_
        rintro _ _ ⟨b41, rfl, rfl⟩
        refine at_hp (by (try simp only [List.take_zero, List.take_succ_cons, List.drop_zero, List.drop_succ_cons, List.drop_nil, List.length_cons, List.length_nil, Nat.zero_add, Nat.reduceAdd, List.set_cons_zero, List.set_cons_succ, List.nil_append, List.cons_append, List.append_nil, pick, List.filterMap_cons, List.filterMap_nil, List.getElem?_cons_zero, List.getElem?_cons_succ]); exact rfl) ?_
        refine st_l rfl rfl (l_app 1 0 rfl rfl e_22 rfl (by decide) rfl rfl rfl (by simp [Value.oneCell']) (by decide) (by omega) (by decide)) ?_
        rintro _ _ ⟨g42, c42, rfl, rfl⟩
        refine at_hp (by (try simp only [List.take_zero, List.take_succ_cons, List.drop_zero, List.drop_succ_cons, List.drop_nil, List.length_cons, List.length_nil, Nat.zero_add, Nat.reduceAdd, List.set_cons_zero, List.set_cons_succ, List.nil_append, List.cons_append, List.append_nil, pick, List.filterMap_cons, List.filterMap_nil, List.getElem?_cons_zero, List.getElem?_cons_succ]); exact rfl) ?_
        refine at_drop ?_
        refine st_p rfl rfl (p_assign rfl) ?_
        refine at_nil ?_
        refine at_ks [0, 2, 3, 4, 5, 6, 7, 8, 9, 14, 27, 29] (by (try simp only [keep, lk, pd, enumE, Nat.reduceBEq, Nat.reduceAdd, cond_true, cond_false]); exact rfl) ?_
        refine at_then ?_
        refine at_drawH [0, 1, 2, 3, 4, 5, 6, 7, 8, 9, 10, 11] [0, 0, 0, 0, 12, 28, 0, 0, 0, 384, 896, 2047] [5, 10] [11] mixd (by kernel_rfl) ?_
        refine rd_p rfl rfl rfl rfl rfl (p_move rfl) ?_
        refine rd_p rfl rfl rfl rfl rfl (p_move rfl) ?_
        refine rd_p rfl rfl rfl rfl rfl (p_move rfl) ?_
        refine rd_p rfl rfl rfl rfl rfl (p_move rfl) ?_
        refine rd_p rfl rfl rfl rfl rfl (p_ia1 rfl rfl z_22 (by omega) (by omega)) ?_
        refine rd_q rfl rfl rfl rfl rfl (q_sl 1 rfl rfl r_3 (node_get hj7)) (fun _ h => h) ?_
        refine rd_p rfl rfl rfl rfl rfl (p_move rfl) ?_
        refine rd_p rfl rfl rfl rfl rfl (p_move rfl) ?_
        refine rd_p rfl rfl rfl rfl rfl (p_move rfl) ?_
        refine rd_p rfl rfl rfl rfl rfl (p_ia1 rfl rfl z_22 (by omega) (by omega)) ?_
        refine rd_q rfl rfl rfl rfl rfl (q_sl 2 rfl rfl r_3 (bit_get hj7)) (fun _ h => h) ?_
        refine rd_l rfl rfl rfl rfl (l_callP (first := []) (H1 := HM2) (H2 := [_, _, _]) (List.perm_append_comm (l₁ := [_, _, _])) rfl c_36 rfl (fun F1 hF1 hs1 => rlearn_calls mb m2 HM2 j (ndn c j) (m2.chance j (ndn c j)) (btv c j) F1 hM2 hmid.ok hj7 (ndn_all c hc j hj7).1)) (fun h => nomatch (show false = true from h)) ?_
        rintro _ _ ⟨HM3, ⟨rfl, hM3⟩, rfl⟩
        refine rd_hp (by (try simp only [List.take_zero, List.take_succ_cons, List.drop_zero, List.drop_succ_cons, List.drop_nil, List.length_cons, List.length_nil, Nat.zero_add, Nat.reduceAdd, List.set_cons_zero, List.set_cons_succ, List.nil_append, List.cons_append, List.append_nil, pick, List.filterMap_cons, List.filterMap_nil, List.getElem?_cons_zero, List.getElem?_cons_succ]); exact rfl) ?_
        refine rd_nil ?_
        refine at_ks [0, 2, 3, 4, 5, 6, 7, 8, 9, 14, 27, 29] (by (try simp only [keep, lk, pd, enumE, Nat.reduceBEq, Nat.reduceAdd, cond_true, cond_false]); exact rfl) ?_
        refine at_inb ?_
        refine at_then ?_
        refine at_region ?_
        refine st_p rfl rfl (p_move rfl) ?_
        refine st_p rfl rfl (p_add rfl rfl (by first | exact nw64 (by omega) | exact nwu64 (by omega) | exact nwu8 (by omega) | exact nwu16 (by omega) | exact wu64 _ | exact wu8 _ | exact wi64 _ | rfl)) ?_
        refine st_p rfl rfl (p_assign rfl) ?_
        refine at_nil ?_
        refine at_ks [0, 2, 3, 4, 5, 6, 7, 8, 9, 14, 27, 29] (by (try simp only [keep, lk, pd, enumE, Nat.reduceBEq, Nat.reduceAdd, cond_true, cond_false]); exact rfl) ?_
        refine at_ks [0, 3, 4, 5, 6, 7, 8] (by (try simp only [keep, lk, pd, enumE, Nat.reduceBEq, Nat.reduceAdd, cond_true, cond_false]); exact rfl) ?_
        refine at_perm List.perm_append_comm ?_
        refine at_back (k2 - 1) (by omega) ⟨j + 1, _, l2 ++ [m2.chance j (ndn c j)], .slice (some ⟨g42, 0, none⟩) (l2.length + 1) c42, HM3, rfl, by simp [ints], hM3, hmid2, by omega, by omega⟩
      · (try simp only [decide_eq_true_eq, decide_eq_false_iff_not, Bool.not_eq_true', Bool.not_eq_false', Bool.not_true, Bool.not_false, Bool.or_eq_true, Bool.and_eq_true, Int.not_lt, Int.not_le] at ht29)
        obtain rfl : j = 7 := by omega
        obtain ⟨rfl, rfl⟩ := hmid.fin
        refine at_exit ?_
        refine at_then_x ?_
        refine at_then_x ?_
        refine at_inb_exit ?_
        refine at_then ?_
        refine at_region ?_
        refine st_p rfl rfl (p_move rfl) ?_
        refine st_p rfl rfl (p_move rfl) ?_
        refine st_p rfl rfl (p_move rfl) ?_
        refine st_p rfl rfl (p_iaO1 rfl rfl z_22 (by omega) (by omega)) ?_
        refine st_q rfl rfl (q_fr rfl r_3 hga) ?_
        refine st_l rfl rfl (l_callP (first := []) (H1 := HM2) (H2 := [_, _, _]) (List.perm_append_comm (l₁ := [_, _, _])) rfl c_37 rfl (fun F1 hF1 hs1 => rcame_calls mb mF HM2 c F1 hM2)) ?_
        rintro _ _ ⟨HM3, ⟨rfl, hM3⟩, rfl⟩
        refine at_hp (by (try simp only [List.take_zero, List.take_succ_cons, List.drop_zero, List.drop_succ_cons, List.drop_nil, List.length_cons, List.length_nil, Nat.zero_add, Nat.reduceAdd, List.set_cons_zero, List.set_cons_succ, List.nil_append, List.cons_append, List.append_nil, pick, List.filterMap_cons, List.filterMap_nil, List.getElem?_cons_zero, List.getElem?_cons_succ]); exact rfl) ?_
        refine at_nil ?_
        refine at_ks [0, 2, 3, 4, 5, 6, 7, 8, 9, 14, 27, 29] (by (try simp only [keep, lk, pd, enumE, Nat.reduceBEq, Nat.reduceAdd, cond_true, cond_false]); exact rfl) ?_
        refine at_inb ?_
        refine at_then ?_
        refine at_region ?_
        refine st_p rfl rfl (p_move rfl) ?_
        refine st_p rfl rfl (p_add rfl rfl (by first | exact nw64 (by omega) | exact nwu64 (by omega) | exact nwu8 (by omega) | exact nwu16 (by omega) | exact wu64 _ | exact wu8 _ | exact wi64 _ | rfl)) ?_
        refine st_p rfl rfl (p_assign rfl) ?_
        refine at_nil ?_
        refine at_ks [0, 2, 3, 4, 5, 6, 7, 8, 9, 14, 27, 29] (by (try simp only [keep, lk, pd, enumE, Nat.reduceBEq, Nat.reduceAdd, cond_true, cond_false]); exact rfl) ?_
        refine at_ks [0, 3, 4, 5] (by (try simp only [keep, lk, pd, enumE, Nat.reduceBEq, Nat.reduceAdd, cond_true, cond_false]); exact rfl) ?_
        refine at_perm List.perm_append_comm ?_
        refine at_dropAt 1 rfl rfl ?_
        refine at_dropAt 1 rfl rfl ?_
        refine at_back (k - 1) (by omega) ⟨i + 1, mF.came c, lF, v, HM3, rfl, rfl, hM3, hmid.ok.came (by omega), by omega, by omega, he⟩
  · (try simp only [decide_eq_true_eq, decide_eq_false_iff_not, Bool.not_eq_true', Bool.not_eq_false', Bool.not_true, Bool.not_false, Bool.or_eq_true, Bool.and_eq_true, Int.not_lt, Int.not_le] at ht14)
    obtain rfl : n = i := by omega
    rw [List.drop_eq_nil_of_le (by omega), traceGo] at he
    simp only [Option.some.injEq] at he
    subst he
    refine at_exit ?_
    refine at_then_x ?_
    refine at_then_x ?_
    refine at_inb_exit ?_
    refine at_then ?_
    refine at_seq ?_
    refine at_region ?_
    refine st_p rfl rfl (p_move rfl) ?_
    refine st_p rfl rfl (p_assign rfl) ?_
    refine at_nil ?_
    refine at_ks [0, 2, 3, 4, 5, 6, 7, 8, 9, 14, 27, 29] (by (try simp only [keep, lk, pd, enumE, Nat.reduceBEq, Nat.reduceAdd, cond_true, cond_false]); exact rfl) ?_
    refine at_then ?_
    refine at_retc ?_
    refine at_re [0] (by decide) ?_
    exact fin_1 rfl rfl (by
        rfl)

end Go.Proofs.Ytbpbhjnkmonlbaa