/- The model: the walk of a bit. No condition. -/
import Derived.Test.YtbpbhjnkmonlbaaDec
import Derived.Test.YtbpbhjnkmonlbaaMw
namespace Go.Proofs.Ytbpbhjnkmonlbaa
open Go.RowKit Sl
set_option linter.unusedVariables false
set_option linter.unusedSimpArgs false
set_option maxRecDepth 10000
theorem hc_of {F : Frm} {b : Nat} {cs : List Value} {e : TypeId} (h : (Chk.ob b cs e).sat F.heap) {j : Nat} {u : Value} (hu : cs[j]? = some u) : F.cell? ⟨b, j, none⟩ = some u := by
  simp only [Chk.sat] at h
  unfold Frm.cell?
  simp [h, hu]

theorem rows_calls (mb g0 g1 g2 c0 c1 c2 a b : Nat) (cs : List Value) (F : Frm) (hs : (Chk.ob mb cs 101).sat F.heap) (h0 : cs[0]? = some (.slice (some ⟨g0, 0, none⟩) 1 c0)) (h1 : cs[1]? = some (.slice (some ⟨g1, 0, none⟩) 65 c1)) (h2 : cs[2]? = some (.slice (some ⟨g2, 0, none⟩) 65 c2)) (h10 : cs[10]? = some (N a)) (h11 : cs[11]? = some (N b)) (ha : a ≤ 64) (hb : b ≤ 64) :
    SC Try.prog 78 #[.pointer (some ⟨mb, 0, none⟩)] [] F (fun u H => u = .agg #[.pointer (some ⟨g0, 0, none⟩), .pointer (some ⟨g1, 128 * a, none⟩), .pointer (some ⟨g2, 128 * ((a + 2 * b) / 3), none⟩)] ∧ H = []) := by
  have k0 := hc_of hs h0
  have k1 := hc_of hs h1
  have k2 := hc_of hs h2
  have k10 := hc_of hs h10
  have k11 := hc_of hs h11
  refine sc_in (args := [.pointer (some ⟨mb, 0, none⟩)]) Try.func78 rfl rfl (Nat.le_of_ble_eq_true rfl) ?_
  refine at_ks [0, 2] (by (try simp only [keep, lk, pd, enumE, Nat.reduceBEq, Nat.reduceAdd, cond_true, cond_false]); exact rfl) ?_
  refine at_seq ?_
  refine at_region ?_
  refine st_l rfl rfl (l_alloc _ y_136) ?_
  rintro _ _ ⟨b2, rfl, rfl⟩
  refine at_hp (by (try simp only [List.take_zero, List.take_succ_cons, List.drop_zero, List.drop_succ_cons, List.drop_nil, List.length_cons, List.length_nil, Nat.zero_add, Nat.reduceAdd, List.set_cons_zero, List.set_cons_succ, List.nil_append, List.cons_append, List.append_nil, pick, List.filterMap_cons, List.filterMap_nil, List.getElem?_cons_zero, List.getElem?_cons_succ]); exact rfl) ?_
  refine at_nil ?_
  refine at_ks [0, 2] (by (try simp only [keep, lk, pd, enumE, Nat.reduceBEq, Nat.reduceAdd, cond_true, cond_false]); exact rfl) ?_
  refine at_then ?_
  refine at_seq ?_
  refine at_drawH [0, 1, 2, 3, 4, 5, 6, 7, 8, 9, 10, 11, 12, 13, 14, 15, 16, 17, 18, 19, 20, 21, 22, 23, 24, 25, 26, 27, 28, 29, 30, 31, 32, 33, 34] [0, 1, 3, 7, 15, 31, 0, 64, 192, 448, 960, 0, 2048, 6144, 14336, 32704, 0, 65536, 196608, 458752, 983040, 0, 2097152, 6291456, 14680064, 0, 33554432, 100663296, 234881024, 503316480, 1071644672, 2145386496, 4294901760, 8589934591, 17179869183] [4, 10, 14, 20, 24, 28] [34] mixd (by kernel_rfl) ?_
  refine rd_p rfl rfl rfl rfl rfl (p_move rfl) ?_
  refine rd_p rfl rfl rfl rfl rfl ((by first | exact p_nil rfl | exact p_nilf rfl)) ?_
  refine rd_p rfl rfl rfl rfl rfl ((by first | exact p_fa0 rfl o_101_0 | exact p_fa rfl o_101_0)) ?_
  refine rd_p rfl rfl rfl rfl rfl (p_iar rfl rfl a_98 (by first | decide | omega) (by first | decide | omega)) ?_
  refine rd_q rfl rfl rfl rfl rfl (q_fr rfl r_97 k0) (fun _ h => h) ?_
  refine rd_p rfl rfl rfl rfl rfl ((by first | exact p_ia1 rfl rfl z_97 (by first | decide | omega) (by first | decide | omega) | exact p_iaN rfl rfl z_97 (by first | decide | omega) (by first | decide | omega) | exact p_iaO1 rfl rfl z_97 (by first | decide | omega) (by first | decide | omega) | exact p_iaO rfl rfl z_97 (by first | decide | omega) (by first | decide | omega))) ?_
  refine rd_p rfl rfl rfl rfl rfl (p_move rfl) ?_
  refine rd_p rfl rfl rfl rfl rfl ((by first | exact p_nil rfl | exact p_nilf rfl)) ?_
  refine rd_p rfl rfl rfl rfl rfl ((by first | exact p_fa0 rfl o_101_0 | exact p_fa rfl o_101_0)) ?_
  refine rd_p rfl rfl rfl rfl rfl (p_iar rfl rfl a_98 (by first | decide | omega) (by first | decide | omega)) ?_
  refine rd_q rfl rfl rfl rfl rfl (q_fr rfl r_97 k1) (fun _ h => h) ?_
  refine rd_p rfl rfl rfl rfl rfl (p_move rfl) ?_
  refine rd_p rfl rfl rfl rfl rfl ((by first | exact p_nil rfl | exact p_nilf rfl)) ?_
  refine rd_p rfl rfl rfl rfl rfl ((by first | exact p_fa0 rfl o_101_2 | exact p_fa rfl o_101_2)) ?_
  refine rd_q rfl rfl rfl rfl rfl (q_fr rfl r_3 k10) (fun _ h => h) ?_
  refine rd_p rfl rfl rfl rfl rfl ((by first | exact p_ia1 rfl rfl z_97 (by first | decide | omega) (by first | decide | omega) | exact p_iaN rfl rfl z_97 (by first | decide | omega) (by first | decide | omega) | exact p_iaO1 rfl rfl z_97 (by first | decide | omega) (by first | decide | omega) | exact p_iaO rfl rfl z_97 (by first | decide | omega) (by first | decide | omega))) ?_
  rw [show ((a : Nat) : Int).toNat * 128 = 128 * a by rw [Int.toNat_natCast, Nat.mul_comm]]
  refine rd_p rfl rfl rfl rfl rfl (p_move rfl) ?_
  refine rd_p rfl rfl rfl rfl rfl ((by first | exact p_nil rfl | exact p_nilf rfl)) ?_
  refine rd_p rfl rfl rfl rfl rfl ((by first | exact p_fa0 rfl o_101_0 | exact p_fa rfl o_101_0)) ?_
  refine rd_p rfl rfl rfl rfl rfl (p_iar rfl rfl a_98 (by first | decide | omega) (by first | decide | omega)) ?_
  refine rd_q rfl rfl rfl rfl rfl (q_fr rfl r_97 k2) (fun _ h => h) ?_
  refine rd_p rfl rfl rfl rfl rfl (p_move rfl) ?_
  refine rd_p rfl rfl rfl rfl rfl ((by first | exact p_nil rfl | exact p_nilf rfl)) ?_
  refine rd_p rfl rfl rfl rfl rfl ((by first | exact p_fa0 rfl o_101_2 | exact p_fa rfl o_101_2)) ?_
  refine rd_q rfl rfl rfl rfl rfl (q_fr rfl r_3 k10) (fun _ h => h) ?_
  refine rd_p rfl rfl rfl rfl rfl (p_move rfl) ?_
  refine rd_p rfl rfl rfl rfl rfl ((by first | exact p_nil rfl | exact p_nilf rfl)) ?_
  refine rd_p rfl rfl rfl rfl rfl ((by first | exact p_fa0 rfl o_101_3 | exact p_fa rfl o_101_3)) ?_
  refine rd_q rfl rfl rfl rfl rfl (q_fr rfl r_3 k11) (fun _ h => h) ?_
  refine rd_p rfl rfl rfl rfl rfl (p_mul rfl rfl (by first | exact nw64 (by omega) | exact nwu64 (by omega) | exact nwu8 (by omega) | exact nwu16 (by omega) | exact wu64 _ | exact wu8 _ | exact wi64 _ | rfl)) ?_
  refine rd_p rfl rfl rfl rfl rfl (p_add rfl rfl (by first | exact nw64 (by omega) | exact nwu64 (by omega) | exact nwu8 (by omega) | exact nwu16 (by omega) | exact wu64 _ | exact wu8 _ | exact wi64 _ | rfl)) ?_
  refine rd_p rfl rfl rfl rfl rfl (p_quo (r := (((a + 2 * b) / 3 : Nat) : Int)) rfl rfl (by decide) (by rw [Int.tdiv_eq_ediv_of_nonneg (by omega)]; exact (nw64 (by omega)).trans (by omega))) ?_
  refine rd_p rfl rfl rfl rfl rfl ((by first | exact p_ia1 rfl rfl z_97 (by first | decide | omega) (by first | decide | omega) | exact p_iaN rfl rfl z_97 (by first | decide | omega) (by first | decide | omega) | exact p_iaO1 rfl rfl z_97 (by first | decide | omega) (by first | decide | omega) | exact p_iaO rfl rfl z_97 (by first | decide | omega) (by first | decide | omega))) ?_
  rw [show (((a + 2 * b) / 3 : Nat) : Int).toNat * 128 = 128 * ((a + 2 * b) / 3) by rw [Int.toNat_natCast, Nat.mul_comm]]
  refine rd_p rfl rfl rfl rfl rfl (p_build (cs := #[.pointer (some ⟨g0, 0, none⟩), .pointer (some ⟨g1, 128 * a, none⟩), .pointer (some ⟨g2, 128 * ((a + 2 * b) / 3), none⟩)]) rfl (fun _ => by kernel_rfl)) ?_
  refine rd_l rfl rfl rfl rfl ((by first | exact l_obN 0 rfl rfl rfl (by simp [Value.oneCell']) s_136 (by first | decide | omega | (simp only [List.length_cons, List.length_nil]; omega) | (simp; omega) | (simp; done)) | exact l_obN 1 rfl rfl rfl (by simp [Value.oneCell']) s_136 (by first | decide | omega | (simp only [List.length_cons, List.length_nil]; omega) | (simp; omega) | (simp; done)) | exact l_obN 2 rfl rfl rfl (by simp [Value.oneCell']) s_136 (by first | decide | omega | (simp only [List.length_cons, List.length_nil]; omega) | (simp; omega) | (simp; done)) | exact l_slN 0 rfl rfl rfl rfl (by simp [Value.oneCell']) s_136 (by first | decide | omega | (simp only [List.length_cons, List.length_nil]; omega) | (simp; omega) | (simp; done)) | exact l_slN 1 rfl rfl rfl rfl (by simp [Value.oneCell']) s_136 (by first | decide | omega | (simp only [List.length_cons, List.length_nil]; omega) | (simp; omega) | (simp; done)) | exact l_slN 2 rfl rfl rfl rfl (by simp [Value.oneCell']) s_136 (by first | decide | omega | (simp only [List.length_cons, List.length_nil]; omega) | (simp; omega) | (simp; done)))) (fun h => nomatch (show false = true from h)) ?_
  rintro _ _ ⟨rfl, rfl⟩
  refine rd_hp (by (try simp only [List.take_zero, List.take_succ_cons, List.drop_zero, List.drop_succ_cons, List.drop_nil, List.length_cons, List.length_nil, Nat.zero_add, Nat.reduceAdd, List.set_cons_zero, List.set_cons_succ, List.nil_append, List.cons_append, List.append_nil, pick, List.filterMap_cons, List.filterMap_nil, List.getElem?_cons_zero, List.getElem?_cons_succ]); exact rfl) ?_
  refine rd_nil ?_
  refine at_ks [0, 2] (by (try simp only [keep, lk, pd, enumE, Nat.reduceBEq, Nat.reduceAdd, cond_true, cond_false]); exact rfl) ?_
  refine at_then ?_
  refine at_retc ?_
  exact fin_cd 0 [] (by decide) rfl rfl rfl r_136 s_136 ⟨rfl, rfl⟩

theorem bitF_calls {σ : Type} (HBp : σ → Hp → Prop) (step : Step σ) (f : FuncId) (first : List Value) (hf : callB Try.prog f = true) (hhow : ∀ s p H F b e s', HBp s H → 1 ≤ p → p ≤ 4095 → step s p = some (b, e, s') → SC Try.prog f (first ++ [N p]).toArray H F (fun v H' => v = .tuple #[N b, N e] ∧ HBp s' H'))
    (mb g0 g1 g2 c0 c1 c2 : Nat) (cs : List Value) (wv : Value) (rest HB : Hp) (m m' : Ms) (d node : Nat) (s s' : σ) (b e : Int) (F : Frm) (hm : m.ok) (hd : d < 7) (hn : node < 128) (hs : HBp s HB) (hstep : bitS step m d node s = some (b, e, m', s'))
    (h0 : cs[0]? = some (.slice (some ⟨g0, 0, none⟩) 1 c0)) (h1 : cs[1]? = some (.slice (some ⟨g1, 0, none⟩) 65 c1)) (h2 : cs[2]? = some (.slice (some ⟨g2, 0, none⟩) 65 c2)) (hw : cs[3 + d]? = some wv) (h10 : cs[10]? = some (N m.a)) (h11 : cs[11]? = some (N m.b)) (hl : cs.length = 12) :
    SC Try.prog 69 #[.pointer (some ⟨mb, 0, none⟩), N d, N node, .func (.func f) first.toArray #[]] ([.ob mb cs 101, .sl (.slice (some ⟨g0, 0, none⟩) 1 c0) 104 128 1 (ints .i64 m.l0), .sl (.slice (some ⟨g1, 0, none⟩) 65 c1) 104 128 65 (ints .i64 m.l1), .sl (.slice (some ⟨g2, 0, none⟩) 65 c2) 104 128 65 (ints .i64 m.l2), .sl wv 3 1 3 (ints .i64 (m.wt d))] ++ (rest ++ HB)) F
      (fun u H' => u = .tuple #[N b, N e] ∧ ∃ wv' HB', H' = [.ob mb (cs.set (3 + d) wv') 101, .sl (.slice (some ⟨g0, 0, none⟩) 1 c0) 104 128 1 (ints .i64 m'.l0), .sl (.slice (some ⟨g1, 0, none⟩) 65 c1) 104 128 65 (ints .i64 m'.l1), .sl (.slice (some ⟨g2, 0, none⟩) 65 c2) 104 128 65 (ints .i64 m'.l2), .sl wv' 3 1 3 (ints .i64 (m'.wt d))] ++ (rest ++ HB') ∧ HBp s' HB' ∧ m'.w = m.w.set d (m'.wt d) ∧ m'.a = m.a ∧ m'.b = m.b) := by
  have hwt := hm.wt hd
  have ha := hm.ha
  have hb := hm.hb
  have e0 : (0 : Nat) + ((node : Nat) : Int).toNat * 1 = node := by omega
  have e1 : 128 * m.a + ((node : Nat) : Int).toNat * 1 = m.p1 node := by unfold Ms.p1; omega
  have e2 : 128 * ((m.a + 2 * m.b) / 3) + ((node : Nat) : Int).toNat * 1 = m.p2 node := by unfold Ms.p2; omega
  have l1 : m.p1 node < 8320 := by unfold Ms.p1; omega
  have l2 : m.p2 node < 8320 := by unfold Ms.p2; omega
  have x0 : (ints .i64 m.l0)[0 + ((node : Nat) : Int).toNat * 1]? = some (N (gn m.l0 node)) := by rw [e0]; exact gn_get (by rw [hm.n0]; exact hn)
  have x1 : (ints .i64 m.l1)[128 * m.a + ((node : Nat) : Int).toNat * 1]? = some (N (gn m.l1 (m.p1 node))) := by rw [e1]; exact gn_get (by rw [hm.n1]; exact l1)
  have x2 : (ints .i64 m.l2)[128 * ((m.a + 2 * m.b) / 3) + ((node : Nat) : Int).toNat * 1]? = some (N (gn m.l2 (m.p2 node))) := by rw [e2]; exact gn_get (by rw [hm.n2]; exact l2)
  have hw' : cs[3 + ((d : Nat) : Int).toNat * 1]? = some wv := by rw [show 3 + ((d : Nat) : Int).toNat * 1 = 3 + d by omega]; exact hw
  have y0 : (ints .i64 m.l0).length = 128 := by simp [hm.n0]
  have y1 : (ints .i64 m.l1).length = 8320 := by simp [hm.n1]
  have y2 : (ints .i64 m.l2).length = 8320 := by simp [hm.n2]
  unfold bitS at hstep
  split at hstep
  · cases hstep
  rename_i b0 e0' s0 hst
  have hch := sqv_in (mxs (m.wt d) (m.ins node) (min (m.wt d).length (m.ins node).length) / 65536)
  refine sc_in (args := [.pointer (some ⟨mb, 0, none⟩), N d, N node, .func (.func f) first.toArray #[]]) Try.func69 rfl rfl (Nat.le_of_ble_eq_true rfl) ?_
  refine at_ks [0, 1, 2, 3, 8, 9, 10, 11, 13, 14, 15, 16, 17, 18, 21, 22, 23, 50, 67, 68, 69] (by (try simp only [keep, lk, pd, enumE, Nat.reduceBEq, Nat.reduceAdd, cond_true, cond_false]); exact rfl) ?_
  refine at_shape 4 rfl fun A cA hv _ _ hA => ?_
  subst hv
  refine at_seq ?_
  refine at_region ?_
  refine st_p rfl rfl (p_assign rfl) ?_
  refine st_p rfl rfl (p_assign rfl) ?_
  refine at_nil ?_
  refine at_ks [0, 1, 2, 3, 8, 9, 10, 11, 13, 14, 15, 16, 17, 18, 21, 22, 23, 50, 67, 68, 69] (by (try simp only [keep, lk, pd, enumE, Nat.reduceBEq, Nat.reduceAdd, cond_true, cond_false]); exact rfl) ?_
  refine at_then ?_
  refine at_seq ?_
  refine at_region ?_
  refine st_p rfl rfl (p_move rfl) ?_
  refine st_q rfl rfl (q_call (first := []) rfl c_78 rfl (fun F1 hF1 hs1 => rows_calls mb g0 g1 g2 c0 c1 c2 m.a m.b cs F1 (hs1 _ (List.mem_of_getElem? (i := 0) rfl)) h0 h1 h2 h10 h11 ha hb)) ?_
  refine st_l rfl rfl (l_alloc _ y_136) ?_
  rintro _ _ ⟨b10, rfl, rfl⟩
  refine at_hp (by (try simp only [List.take_zero, List.take_succ_cons, List.drop_zero, List.drop_succ_cons, List.drop_nil, List.length_cons, List.length_nil, Nat.zero_add, Nat.reduceAdd, List.set_cons_zero, List.set_cons_succ, List.nil_append, List.cons_append, List.append_nil, pick, List.filterMap_cons, List.filterMap_nil, List.getElem?_cons_zero, List.getElem?_cons_succ]); exact rfl) ?_
  refine st_l rfl rfl ((by first | exact l_obN 0 rfl rfl rfl (by simp [Value.oneCell']) s_136 (by first | decide | omega | (simp only [List.length_cons, List.length_nil]; omega) | (simp; omega) | (simp; done)) | exact l_obN 1 rfl rfl rfl (by simp [Value.oneCell']) s_136 (by first | decide | omega | (simp only [List.length_cons, List.length_nil]; omega) | (simp; omega) | (simp; done)) | exact l_obN 2 rfl rfl rfl (by simp [Value.oneCell']) s_136 (by first | decide | omega | (simp only [List.length_cons, List.length_nil]; omega) | (simp; omega) | (simp; done)) | exact l_obN 3 rfl rfl rfl (by simp [Value.oneCell']) s_136 (by first | decide | omega | (simp only [List.length_cons, List.length_nil]; omega) | (simp; omega) | (simp; done)) | exact l_obN 4 rfl rfl rfl (by simp [Value.oneCell']) s_136 (by first | decide | omega | (simp only [List.length_cons, List.length_nil]; omega) | (simp; omega) | (simp; done)) | exact l_obN 5 rfl rfl rfl (by simp [Value.oneCell']) s_136 (by first | decide | omega | (simp only [List.length_cons, List.length_nil]; omega) | (simp; omega) | (simp; done)) | exact l_obN 6 rfl rfl rfl (by simp [Value.oneCell']) s_136 (by first | decide | omega | (simp only [List.length_cons, List.length_nil]; omega) | (simp; omega) | (simp; done)) | exact l_obN 7 rfl rfl rfl (by simp [Value.oneCell']) s_136 (by first | decide | omega | (simp only [List.length_cons, List.length_nil]; omega) | (simp; omega) | (simp; done)) | exact l_obN 8 rfl rfl rfl (by simp [Value.oneCell']) s_136 (by first | decide | omega | (simp only [List.length_cons, List.length_nil]; omega) | (simp; omega) | (simp; done)) | exact l_slN 0 rfl rfl rfl rfl (by simp [Value.oneCell']) s_136 (by first | decide | omega | (simp only [List.length_cons, List.length_nil]; omega) | (simp; omega) | (simp; done)) | exact l_slN 1 rfl rfl rfl rfl (by simp [Value.oneCell']) s_136 (by first | decide | omega | (simp only [List.length_cons, List.length_nil]; omega) | (simp; omega) | (simp; done)) | exact l_slN 2 rfl rfl rfl rfl (by simp [Value.oneCell']) s_136 (by first | decide | omega | (simp only [List.length_cons, List.length_nil]; omega) | (simp; omega) | (simp; done)) | exact l_slN 3 rfl rfl rfl rfl (by simp [Value.oneCell']) s_136 (by first | decide | omega | (simp only [List.length_cons, List.length_nil]; omega) | (simp; omega) | (simp; done)) | exact l_slN 4 rfl rfl rfl rfl (by simp [Value.oneCell']) s_136 (by first | decide | omega | (simp only [List.length_cons, List.length_nil]; omega) | (simp; omega) | (simp; done)) | exact l_slN 5 rfl rfl rfl rfl (by simp [Value.oneCell']) s_136 (by first | decide | omega | (simp only [List.length_cons, List.length_nil]; omega) | (simp; omega) | (simp; done)) | exact l_slN 6 rfl rfl rfl rfl (by simp [Value.oneCell']) s_136 (by first | decide | omega | (simp only [List.length_cons, List.length_nil]; omega) | (simp; omega) | (simp; done)) | exact l_slN 7 rfl rfl rfl rfl (by simp [Value.oneCell']) s_136 (by first | decide | omega | (simp only [List.length_cons, List.length_nil]; omega) | (simp; omega) | (simp; done)) | exact l_slN 8 rfl rfl rfl rfl (by simp [Value.oneCell']) s_136 (by first | decide | omega | (simp only [List.length_cons, List.length_nil]; omega) | (simp; omega) | (simp; done)))) ?_
  rintro _ _ ⟨rfl, rfl⟩
  refine at_hp (by (try simp only [List.take_zero, List.take_succ_cons, List.drop_zero, List.drop_succ_cons, List.drop_nil, List.length_cons, List.length_nil, Nat.zero_add, Nat.reduceAdd, List.set_cons_zero, List.set_cons_succ, List.nil_append, List.cons_append, List.append_nil, pick, List.filterMap_cons, List.filterMap_nil, List.getElem?_cons_zero, List.getElem?_cons_succ]); exact rfl) ?_
  refine at_nil ?_
  refine at_ks [0, 1, 2, 3, 8, 9, 10, 11, 13, 14, 15, 16, 17, 18, 21, 22, 23, 50, 67, 68, 69] (by (try simp only [keep, lk, pd, enumE, Nat.reduceBEq, Nat.reduceAdd, cond_true, cond_false]); exact rfl) ?_
  refine at_then ?_
  refine at_seq ?_
  refine at_region ?_
  refine st_p rfl rfl (p_assign rfl) ?_
  refine at_nil ?_
  refine at_ks [0, 1, 2, 3, 8, 9, 10, 11, 13, 14, 15, 16, 17, 18, 21, 22, 23, 50, 67, 68, 69] (by (try simp only [keep, lk, pd, enumE, Nat.reduceBEq, Nat.reduceAdd, cond_true, cond_false]); exact rfl) ?_
  refine at_then ?_
  refine at_seq ?_
  refine at_seq ?_
  refine at_region ?_
  refine st_q rfl rfl ((by first | exact q_obN 0 rfl rfl r_136 s_136 rfl rfl | exact q_obN 1 rfl rfl r_136 s_136 rfl rfl | exact q_obN 2 rfl rfl r_136 s_136 rfl rfl | exact q_obN 3 rfl rfl r_136 s_136 rfl rfl | exact q_obN 4 rfl rfl r_136 s_136 rfl rfl | exact q_obN 5 rfl rfl r_136 s_136 rfl rfl | exact q_obN 6 rfl rfl r_136 s_136 rfl rfl | exact q_obN 7 rfl rfl r_136 s_136 rfl rfl | exact q_obN 8 rfl rfl r_136 s_136 rfl rfl | exact q_slN 0 rfl rfl r_136 s_136 (by first | rfl | assumption) (by first | rfl | assumption) | exact q_slN 1 rfl rfl r_136 s_136 (by first | rfl | assumption) (by first | rfl | assumption) | exact q_slN 2 rfl rfl r_136 s_136 (by first | rfl | assumption) (by first | rfl | assumption) | exact q_slN 3 rfl rfl r_136 s_136 (by first | rfl | assumption) (by first | rfl | assumption) | exact q_slN 4 rfl rfl r_136 s_136 (by first | rfl | assumption) (by first | rfl | assumption) | exact q_slN 5 rfl rfl r_136 s_136 (by first | rfl | assumption) (by first | rfl | assumption) | exact q_slN 6 rfl rfl r_136 s_136 (by first | rfl | assumption) (by first | rfl | assumption) | exact q_slN 7 rfl rfl r_136 s_136 (by first | rfl | assumption) (by first | rfl | assumption) | exact q_slN 8 rfl rfl r_136 s_136 (by first | rfl | assumption) (by first | rfl | assumption) | exact q_frN rfl r_136 s_136 (by first | rfl | assumption) (by assumption))) ?_
  refine st_p rfl rfl (p_move rfl) ?_
  refine at_nil ?_
  refine at_ks [0, 1, 2, 3, 8, 9, 10, 11, 13, 14, 15, 16, 17, 18, 21, 22, 23, 50, 67, 68, 69] (by (try simp only [keep, lk, pd, enumE, Nat.reduceBEq, Nat.reduceAdd, cond_true, cond_false]); exact rfl) ?_
  refine at_then ?_
  refine at_block ?_
  refine at_nilsl 3 1 ?_
  refine at_rounds 4 ?_
  refine at_round ?_
  refine at_seq ?_
  refine at_region ?_
  refine st_p rfl rfl (p_lss rfl rfl) ?_
  refine at_nil ?_
  refine at_ks [0, 1, 2, 3, 8, 9, 10, 11, 13, 14, 15, 16, 17, 18, 21, 22, 23, 50, 67, 68, 69] (by (try simp only [keep, lk, pd, enumE, Nat.reduceBEq, Nat.reduceAdd, cond_true, cond_false]); exact rfl) ?_
  refine at_then ?_
  refine at_seq ?_
  refine at_cond_t rfl ?_
  refine at_skip ?_
  refine at_then ?_
  refine at_seq ?_
  refine at_block ?_
  refine at_seq ?_
  refine at_region ?_
  refine st_p rfl rfl (p_idxA rfl rfl Try.underlying136 r_135 s_135 (by first | decide | omega) (by first | decide | omega) (by first | rfl | assumption)) ?_
  refine st_p rfl rfl (p_assign rfl) ?_
  refine at_nil ?_
  refine at_ks [0, 1, 2, 3, 8, 9, 10, 11, 13, 14, 15, 16, 17, 18, 21, 22, 23, 50, 67, 68, 69] (by (try simp only [keep, lk, pd, enumE, Nat.reduceBEq, Nat.reduceAdd, cond_true, cond_false]); exact rfl) ?_
  refine at_then ?_
  refine at_region ?_
  refine st_p rfl rfl (p_move rfl) ?_
  refine st_p rfl rfl (p_move rfl) ?_
  refine st_p rfl rfl (p_move rfl) ?_
  refine st_p rfl rfl ((by first | exact p_nil rfl | exact p_nilf rfl)) ?_
  refine st_p rfl rfl (p_iar rfl rfl a_104 (by first | decide | omega) (by first | decide | omega)) ?_
  refine st_q rfl rfl ((by first | exact q_ob 0 rfl rfl r_3 (by first | rfl | assumption) | exact q_ob 1 rfl rfl r_3 (by first | rfl | assumption) | exact q_ob 2 rfl rfl r_3 (by first | rfl | assumption) | exact q_ob 3 rfl rfl r_3 (by first | rfl | assumption) | exact q_ob 4 rfl rfl r_3 (by first | rfl | assumption) | exact q_ob 5 rfl rfl r_3 (by first | rfl | assumption) | exact q_ob 6 rfl rfl r_3 (by first | rfl | assumption) | exact q_ob 7 rfl rfl r_3 (by first | rfl | assumption) | exact q_ob 8 rfl rfl r_3 (by first | rfl | assumption) | exact q_sl 0 rfl rfl r_3 (by first | rfl | assumption) | exact q_sl 1 rfl rfl r_3 (by first | rfl | assumption) | exact q_sl 2 rfl rfl r_3 (by first | rfl | assumption) | exact q_sl 3 rfl rfl r_3 (by first | rfl | assumption) | exact q_sl 4 rfl rfl r_3 (by first | rfl | assumption) | exact q_sl 5 rfl rfl r_3 (by first | rfl | assumption) | exact q_sl 6 rfl rfl r_3 (by first | rfl | assumption) | exact q_sl 7 rfl rfl r_3 (by first | rfl | assumption) | exact q_sl 8 rfl rfl r_3 (by first | rfl | assumption) | exact q_fr rfl r_3 (by assumption))) ?_
  refine st_q rfl rfl (q_call (first := []) rfl c_79 rfl (fun F1 hF1 hs1 => stretch_calls _ F1)) ?_
  refine st_l rfl rfl (l_bsV [_] _ rfl e_22 (by decide) (by decide) rfl (by simp [Value.cells]) (by simp only [List.flatMap_cons, List.flatMap_nil, Value.cells, List.nil_append, List.cons_append, List.append_nil]; exact rfl)) ?_
  rintro _ _ ⟨b32, rfl, rfl⟩
  refine at_hp (by (try simp only [List.take_zero, List.take_succ_cons, List.drop_zero, List.drop_succ_cons, List.drop_nil, List.length_cons, List.length_nil, Nat.zero_add, Nat.reduceAdd, List.set_cons_zero, List.set_cons_succ, List.nil_append, List.cons_append, List.append_nil, pick, List.filterMap_cons, List.filterMap_nil, List.getElem?_cons_zero, List.getElem?_cons_succ]); exact rfl) ?_
  refine st_l rfl rfl ((by first | exact l_app 1 0 rfl rfl e_22 rfl (by decide) rfl rfl (by first | rfl | (simp; done)) (by simp [Value.oneCell']) (by decide) (by first | omega | (simp only [List.length_append, List.length_cons, List.length_nil]; omega)) (by first | decide | omega) | exact l_app 2 0 rfl rfl e_22 rfl (by decide) rfl rfl (by first | rfl | (simp; done)) (by simp [Value.oneCell']) (by decide) (by first | omega | (simp only [List.length_append, List.length_cons, List.length_nil]; omega)) (by first | decide | omega) | exact l_app 3 0 rfl rfl e_22 rfl (by decide) rfl rfl (by first | rfl | (simp; done)) (by simp [Value.oneCell']) (by decide) (by first | omega | (simp only [List.length_append, List.length_cons, List.length_nil]; omega)) (by first | decide | omega) | exact l_app 4 0 rfl rfl e_22 rfl (by decide) rfl rfl (by first | rfl | (simp; done)) (by simp [Value.oneCell']) (by decide) (by first | omega | (simp only [List.length_append, List.length_cons, List.length_nil]; omega)) (by first | decide | omega) | exact l_app 5 0 rfl rfl e_22 rfl (by decide) rfl rfl (by first | rfl | (simp; done)) (by simp [Value.oneCell']) (by decide) (by first | omega | (simp only [List.length_append, List.length_cons, List.length_nil]; omega)) (by first | decide | omega) | exact l_app 6 0 rfl rfl e_22 rfl (by decide) rfl rfl (by first | rfl | (simp; done)) (by simp [Value.oneCell']) (by decide) (by first | omega | (simp only [List.length_append, List.length_cons, List.length_nil]; omega)) (by first | decide | omega) | exact l_app 7 0 rfl rfl e_22 rfl (by decide) rfl rfl (by first | rfl | (simp; done)) (by simp [Value.oneCell']) (by decide) (by first | omega | (simp only [List.length_append, List.length_cons, List.length_nil]; omega)) (by first | decide | omega) | exact l_app 8 0 rfl rfl e_22 rfl (by decide) rfl rfl (by first | rfl | (simp; done)) (by simp [Value.oneCell']) (by decide) (by first | omega | (simp only [List.length_append, List.length_cons, List.length_nil]; omega)) (by first | decide | omega) | exact l_app 0 1 rfl rfl e_22 rfl (by decide) rfl rfl (by first | rfl | (simp; done)) (by simp [Value.oneCell']) (by decide) (by first | omega | (simp only [List.length_append, List.length_cons, List.length_nil]; omega)) (by first | decide | omega) | exact l_app 2 1 rfl rfl e_22 rfl (by decide) rfl rfl (by first | rfl | (simp; done)) (by simp [Value.oneCell']) (by decide) (by first | omega | (simp only [List.length_append, List.length_cons, List.length_nil]; omega)) (by first | decide | omega) | exact l_app 3 1 rfl rfl e_22 rfl (by decide) rfl rfl (by first | rfl | (simp; done)) (by simp [Value.oneCell']) (by decide) (by first | omega | (simp only [List.length_append, List.length_cons, List.length_nil]; omega)) (by first | decide | omega) | exact l_app 4 1 rfl rfl e_22 rfl (by decide) rfl rfl (by first | rfl | (simp; done)) (by simp [Value.oneCell']) (by decide) (by first | omega | (simp only [List.length_append, List.length_cons, List.length_nil]; omega)) (by first | decide | omega) | exact l_app 5 1 rfl rfl e_22 rfl (by decide) rfl rfl (by first | rfl | (simp; done)) (by simp [Value.oneCell']) (by decide) (by first | omega | (simp only [List.length_append, List.length_cons, List.length_nil]; omega)) (by first | decide | omega) | exact l_app 6 1 rfl rfl e_22 rfl (by decide) rfl rfl (by first | rfl | (simp; done)) (by simp [Value.oneCell']) (by decide) (by first | omega | (simp only [List.length_append, List.length_cons, List.length_nil]; omega)) (by first | decide | omega) | exact l_app 7 1 rfl rfl e_22 rfl (by decide) rfl rfl (by first | rfl | (simp; done)) (by simp [Value.oneCell']) (by decide) (by first | omega | (simp only [List.length_append, List.length_cons, List.length_nil]; omega)) (by first | decide | omega) | exact l_app 8 1 rfl rfl e_22 rfl (by decide) rfl rfl (by first | rfl | (simp; done)) (by simp [Value.oneCell']) (by decide) (by first | omega | (simp only [List.length_append, List.length_cons, List.length_nil]; omega)) (by first | decide | omega) | exact l_app 0 2 rfl rfl e_22 rfl (by decide) rfl rfl (by first | rfl | (simp; done)) (by simp [Value.oneCell']) (by decide) (by first | omega | (simp only [List.length_append, List.length_cons, List.length_nil]; omega)) (by first | decide | omega) | exact l_app 1 2 rfl rfl e_22 rfl (by decide) rfl rfl (by first | rfl | (simp; done)) (by simp [Value.oneCell']) (by decide) (by first | omega | (simp only [List.length_append, List.length_cons, List.length_nil]; omega)) (by first | decide | omega) | exact l_app 3 2 rfl rfl e_22 rfl (by decide) rfl rfl (by first | rfl | (simp; done)) (by simp [Value.oneCell']) (by decide) (by first | omega | (simp only [List.length_append, List.length_cons, List.length_nil]; omega)) (by first | decide | omega) | exact l_app 4 2 rfl rfl e_22 rfl (by decide) rfl rfl (by first | rfl | (simp; done)) (by simp [Value.oneCell']) (by decide) (by first | omega | (simp only [List.length_append, List.length_cons, List.length_nil]; omega)) (by first | decide | omega) | exact l_app 5 2 rfl rfl e_22 rfl (by decide) rfl rfl (by first | rfl | (simp; done)) (by simp [Value.oneCell']) (by decide) (by first | omega | (simp only [List.length_append, List.length_cons, List.length_nil]; omega)) (by first | decide | omega) | exact l_app 6 2 rfl rfl e_22 rfl (by decide) rfl rfl (by first | rfl | (simp; done)) (by simp [Value.oneCell']) (by decide) (by first | omega | (simp only [List.length_append, List.length_cons, List.length_nil]; omega)) (by first | decide | omega) | exact l_app 7 2 rfl rfl e_22 rfl (by decide) rfl rfl (by first | rfl | (simp; done)) (by simp [Value.oneCell']) (by decide) (by first | omega | (simp only [List.length_append, List.length_cons, List.length_nil]; omega)) (by first | decide | omega) | exact l_app 8 2 rfl rfl e_22 rfl (by decide) rfl rfl (by first | rfl | (simp; done)) (by simp [Value.oneCell']) (by decide) (by first | omega | (simp only [List.length_append, List.length_cons, List.length_nil]; omega)) (by first | decide | omega))) ?_
  rintro _ _ ⟨g33, c33, rfl, rfl⟩
  refine at_hp (by (try simp only [List.take_zero, List.take_succ_cons, List.drop_zero, List.drop_succ_cons, List.drop_nil, List.length_cons, List.length_nil, Nat.zero_add, Nat.reduceAdd, List.set_cons_zero, List.set_cons_succ, List.nil_append, List.cons_append, List.append_nil, pick, List.filterMap_cons, List.filterMap_nil, List.getElem?_cons_zero, List.getElem?_cons_succ]); exact rfl) ?_
  refine at_drop ?_
  refine st_p rfl rfl (p_assign rfl) ?_
  refine at_nil ?_
  refine at_ks [0, 1, 2, 3, 8, 9, 10, 11, 13, 14, 15, 16, 17, 18, 21, 22, 23, 50, 67, 68, 69] (by (try simp only [keep, lk, pd, enumE, Nat.reduceBEq, Nat.reduceAdd, cond_true, cond_false]); exact rfl) ?_
  refine at_inb ?_
  refine at_then ?_
  refine at_region ?_
  refine st_p rfl rfl (p_add (r := 1) rfl rfl (by decide)) ?_
  refine st_p rfl rfl (p_move rfl) ?_
  refine at_nil ?_
  refine at_ks [0, 1, 2, 3, 8, 9, 10, 11, 13, 14, 15, 16, 17, 18, 21, 22, 23, 50, 67, 68, 69] (by (try simp only [keep, lk, pd, enumE, Nat.reduceBEq, Nat.reduceAdd, cond_true, cond_false]); exact rfl) ?_
  refine at_then ?_
  refine at_round ?_
  refine at_seq ?_
  refine at_region ?_
  refine st_p rfl rfl (p_lss rfl rfl) ?_
  refine at_nil ?_
  refine at_ks [0, 1, 2, 3, 8, 9, 10, 11, 13, 14, 15, 16, 17, 18, 21, 22, 23, 50, 67, 68, 69] (by (try simp only [keep, lk, pd, enumE, Nat.reduceBEq, Nat.reduceAdd, cond_true, cond_false]); exact rfl) ?_
  refine at_then ?_
  refine at_seq ?_
  refine at_cond_t rfl ?_
  refine at_skip ?_
  refine at_then ?_
  refine at_seq ?_
  refine at_block ?_
  refine at_seq ?_
  refine at_region ?_
  refine st_p rfl rfl (p_idxA rfl rfl Try.underlying136 r_135 s_135 (by first | decide | omega) (by first | decide | omega) (by first | rfl | assumption)) ?_
  refine st_p rfl rfl (p_assign rfl) ?_
  refine at_nil ?_
  refine at_ks [0, 1, 2, 3, 8, 9, 10, 11, 13, 14, 15, 16, 17, 18, 21, 22, 23, 50, 67, 68, 69] (by (try simp only [keep, lk, pd, enumE, Nat.reduceBEq, Nat.reduceAdd, cond_true, cond_false]); exact rfl) ?_
  refine at_then ?_
  refine at_region ?_
  refine st_p rfl rfl (p_move rfl) ?_
  refine st_p rfl rfl (p_move rfl) ?_
  refine st_p rfl rfl (p_move rfl) ?_
  refine st_p rfl rfl ((by first | exact p_nil rfl | exact p_nilf rfl)) ?_
  refine st_p rfl rfl (p_iar rfl rfl a_104 (by first | decide | omega) (by first | decide | omega)) ?_
  refine st_q rfl rfl ((by first | exact q_ob 0 rfl rfl r_3 (by first | rfl | assumption) | exact q_ob 1 rfl rfl r_3 (by first | rfl | assumption) | exact q_ob 2 rfl rfl r_3 (by first | rfl | assumption) | exact q_ob 3 rfl rfl r_3 (by first | rfl | assumption) | exact q_ob 4 rfl rfl r_3 (by first | rfl | assumption) | exact q_ob 5 rfl rfl r_3 (by first | rfl | assumption) | exact q_ob 6 rfl rfl r_3 (by first | rfl | assumption) | exact q_ob 7 rfl rfl r_3 (by first | rfl | assumption) | exact q_ob 8 rfl rfl r_3 (by first | rfl | assumption) | exact q_sl 0 rfl rfl r_3 (by first | rfl | assumption) | exact q_sl 1 rfl rfl r_3 (by first | rfl | assumption) | exact q_sl 2 rfl rfl r_3 (by first | rfl | assumption) | exact q_sl 3 rfl rfl r_3 (by first | rfl | assumption) | exact q_sl 4 rfl rfl r_3 (by first | rfl | assumption) | exact q_sl 5 rfl rfl r_3 (by first | rfl | assumption) | exact q_sl 6 rfl rfl r_3 (by first | rfl | assumption) | exact q_sl 7 rfl rfl r_3 (by first | rfl | assumption) | exact q_sl 8 rfl rfl r_3 (by first | rfl | assumption) | exact q_fr rfl r_3 (by assumption))) ?_
  refine st_q rfl rfl (q_call (first := []) rfl c_79 rfl (fun F1 hF1 hs1 => stretch_calls _ F1)) ?_
  refine st_l rfl rfl (l_bsV [_] _ rfl e_22 (by decide) (by decide) rfl (by simp [Value.cells]) (by simp only [List.flatMap_cons, List.flatMap_nil, Value.cells, List.nil_append, List.cons_append, List.append_nil]; exact rfl)) ?_
  rintro _ _ ⟨b32, rfl, rfl⟩
  refine at_hp (by (try simp only [List.take_zero, List.take_succ_cons, List.drop_zero, List.drop_succ_cons, List.drop_nil, List.length_cons, List.length_nil, Nat.zero_add, Nat.reduceAdd, List.set_cons_zero, List.set_cons_succ, List.nil_append, List.cons_append, List.append_nil, pick, List.filterMap_cons, List.filterMap_nil, List.getElem?_cons_zero, List.getElem?_cons_succ]); exact rfl) ?_
  refine st_l rfl rfl ((by first | exact l_app 1 0 rfl rfl e_22 rfl (by decide) rfl rfl (by first | rfl | (simp; done)) (by simp [Value.oneCell']) (by decide) (by first | omega | (simp only [List.length_append, List.length_cons, List.length_nil]; omega)) (by first | decide | omega) | exact l_app 2 0 rfl rfl e_22 rfl (by decide) rfl rfl (by first | rfl | (simp; done)) (by simp [Value.oneCell']) (by decide) (by first | omega | (simp only [List.length_append, List.length_cons, List.length_nil]; omega)) (by first | decide | omega) | exact l_app 3 0 rfl rfl e_22 rfl (by decide) rfl rfl (by first | rfl | (simp; done)) (by simp [Value.oneCell']) (by decide) (by first | omega | (simp only [List.length_append, List.length_cons, List.length_nil]; omega)) (by first | decide | omega) | exact l_app 4 0 rfl rfl e_22 rfl (by decide) rfl rfl (by first | rfl | (simp; done)) (by simp [Value.oneCell']) (by decide) (by first | omega | (simp only [List.length_append, List.length_cons, List.length_nil]; omega)) (by first | decide | omega) | exact l_app 5 0 rfl rfl e_22 rfl (by decide) rfl rfl (by first | rfl | (simp; done)) (by simp [Value.oneCell']) (by decide) (by first | omega | (simp only [List.length_append, List.length_cons, List.length_nil]; omega)) (by first | decide | omega) | exact l_app 6 0 rfl rfl e_22 rfl (by decide) rfl rfl (by first | rfl | (simp; done)) (by simp [Value.oneCell']) (by decide) (by first | omega | (simp only [List.length_append, List.length_cons, List.length_nil]; omega)) (by first | decide | omega) | exact l_app 7 0 rfl rfl e_22 rfl (by decide) rfl rfl (by first | rfl | (simp; done)) (by simp [Value.oneCell']) (by decide) (by first | omega | (simp only [List.length_append, List.length_cons, List.length_nil]; omega)) (by first | decide | omega) | exact l_app 8 0 rfl rfl e_22 rfl (by decide) rfl rfl (by first | rfl | (simp; done)) (by simp [Value.oneCell']) (by decide) (by first | omega | (simp only [List.length_append, List.length_cons, List.length_nil]; omega)) (by first | decide | omega) | exact l_app 0 1 rfl rfl e_22 rfl (by decide) rfl rfl (by first | rfl | (simp; done)) (by simp [Value.oneCell']) (by decide) (by first | omega | (simp only [List.length_append, List.length_cons, List.length_nil]; omega)) (by first | decide | omega) | exact l_app 2 1 rfl rfl e_22 rfl (by decide) rfl rfl (by first | rfl | (simp; done)) (by simp [Value.oneCell']) (by decide) (by first | omega | (simp only [List.length_append, List.length_cons, List.length_nil]; omega)) (by first | decide | omega) | exact l_app 3 1 rfl rfl e_22 rfl (by decide) rfl rfl (by first | rfl | (simp; done)) (by simp [Value.oneCell']) (by decide) (by first | omega | (simp only [List.length_append, List.length_cons, List.length_nil]; omega)) (by first | decide | omega) | exact l_app 4 1 rfl rfl e_22 rfl (by decide) rfl rfl (by first | rfl | (simp; done)) (by simp [Value.oneCell']) (by decide) (by first | omega | (simp only [List.length_append, List.length_cons, List.length_nil]; omega)) (by first | decide | omega) | exact l_app 5 1 rfl rfl e_22 rfl (by decide) rfl rfl (by first | rfl | (simp; done)) (by simp [Value.oneCell']) (by decide) (by first | omega | (simp only [List.length_append, List.length_cons, List.length_nil]; omega)) (by first | decide | omega) | exact l_app 6 1 rfl rfl e_22 rfl (by decide) rfl rfl (by first | rfl | (simp; done)) (by simp [Value.oneCell']) (by decide) (by first | omega | (simp only [List.length_append, List.length_cons, List.length_nil]; omega)) (by first | decide | omega) | exact l_app 7 1 rfl rfl e_22 rfl (by decide) rfl rfl (by first | rfl | (simp; done)) (by simp [Value.oneCell']) (by decide) (by first | omega | (simp only [List.length_append, List.length_cons, List.length_nil]; omega)) (by first | decide | omega) | exact l_app 8 1 rfl rfl e_22 rfl (by decide) rfl rfl (by first | rfl | (simp; done)) (by simp [Value.oneCell']) (by decide) (by first | omega | (simp only [List.length_append, List.length_cons, List.length_nil]; omega)) (by first | decide | omega) | exact l_app 0 2 rfl rfl e_22 rfl (by decide) rfl rfl (by first | rfl | (simp; done)) (by simp [Value.oneCell']) (by decide) (by first | omega | (simp only [List.length_append, List.length_cons, List.length_nil]; omega)) (by first | decide | omega) | exact l_app 1 2 rfl rfl e_22 rfl (by decide) rfl rfl (by first | rfl | (simp; done)) (by simp [Value.oneCell']) (by decide) (by first | omega | (simp only [List.length_append, List.length_cons, List.length_nil]; omega)) (by first | decide | omega) | exact l_app 3 2 rfl rfl e_22 rfl (by decide) rfl rfl (by first | rfl | (simp; done)) (by simp [Value.oneCell']) (by decide) (by first | omega | (simp only [List.length_append, List.length_cons, List.length_nil]; omega)) (by first | decide | omega) | exact l_app 4 2 rfl rfl e_22 rfl (by decide) rfl rfl (by first | rfl | (simp; done)) (by simp [Value.oneCell']) (by decide) (by first | omega | (simp only [List.length_append, List.length_cons, List.length_nil]; omega)) (by first | decide | omega) | exact l_app 5 2 rfl rfl e_22 rfl (by decide) rfl rfl (by first | rfl | (simp; done)) (by simp [Value.oneCell']) (by decide) (by first | omega | (simp only [List.length_append, List.length_cons, List.length_nil]; omega)) (by first | decide | omega) | exact l_app 6 2 rfl rfl e_22 rfl (by decide) rfl rfl (by first | rfl | (simp; done)) (by simp [Value.oneCell']) (by decide) (by first | omega | (simp only [List.length_append, List.length_cons, List.length_nil]; omega)) (by first | decide | omega) | exact l_app 7 2 rfl rfl e_22 rfl (by decide) rfl rfl (by first | rfl | (simp; done)) (by simp [Value.oneCell']) (by decide) (by first | omega | (simp only [List.length_append, List.length_cons, List.length_nil]; omega)) (by first | decide | omega) | exact l_app 8 2 rfl rfl e_22 rfl (by decide) rfl rfl (by first | rfl | (simp; done)) (by simp [Value.oneCell']) (by decide) (by first | omega | (simp only [List.length_append, List.length_cons, List.length_nil]; omega)) (by first | decide | omega))) ?_
  rintro _ _ ⟨g33, c33, rfl, rfl⟩
  refine at_hp (by (try simp only [List.take_zero, List.take_succ_cons, List.drop_zero, List.drop_succ_cons, List.drop_nil, List.length_cons, List.length_nil, Nat.zero_add, Nat.reduceAdd, List.set_cons_zero, List.set_cons_succ, List.nil_append, List.cons_append, List.append_nil, pick, List.filterMap_cons, List.filterMap_nil, List.getElem?_cons_zero, List.getElem?_cons_succ]); exact rfl) ?_
  refine at_drop ?_
  refine st_p rfl rfl (p_assign rfl) ?_
  refine at_nil ?_
  refine at_ks [0, 1, 2, 3, 8, 9, 10, 11, 13, 14, 15, 16, 17, 18, 21, 22, 23, 50, 67, 68, 69] (by (try simp only [keep, lk, pd, enumE, Nat.reduceBEq, Nat.reduceAdd, cond_true, cond_false]); exact rfl) ?_
  refine at_inb ?_
  refine at_then ?_
  refine at_region ?_
  refine st_p rfl rfl (p_add (r := 2) rfl rfl (by decide)) ?_
  refine st_p rfl rfl (p_move rfl) ?_
  refine at_nil ?_
  refine at_ks [0, 1, 2, 3, 8, 9, 10, 11, 13, 14, 15, 16, 17, 18, 21, 22, 23, 50, 67, 68, 69] (by (try simp only [keep, lk, pd, enumE, Nat.reduceBEq, Nat.reduceAdd, cond_true, cond_false]); exact rfl) ?_
  refine at_then ?_
  refine at_round ?_
  refine at_seq ?_
  refine at_region ?_
  refine st_p rfl rfl (p_lss rfl rfl) ?_
  refine at_nil ?_
  refine at_ks [0, 1, 2, 3, 8, 9, 10, 11, 13, 14, 15, 16, 17, 18, 21, 22, 23, 50, 67, 68, 69] (by (try simp only [keep, lk, pd, enumE, Nat.reduceBEq, Nat.reduceAdd, cond_true, cond_false]); exact rfl) ?_
  refine at_then ?_
  refine at_seq ?_
  refine at_cond_t rfl ?_
  refine at_skip ?_
  refine at_then ?_
  refine at_seq ?_
  refine at_block ?_
  refine at_seq ?_
  refine at_region ?_
  refine st_p rfl rfl (p_idxA rfl rfl Try.underlying136 r_135 s_135 (by first | decide | omega) (by first | decide | omega) (by first | rfl | assumption)) ?_
  refine st_p rfl rfl (p_assign rfl) ?_
  refine at_nil ?_
  refine at_ks [0, 1, 2, 3, 8, 9, 10, 11, 13, 14, 15, 16, 17, 18, 21, 22, 23, 50, 67, 68, 69] (by (try simp only [keep, lk, pd, enumE, Nat.reduceBEq, Nat.reduceAdd, cond_true, cond_false]); exact rfl) ?_
  refine at_then ?_
  refine at_region ?_
  refine st_p rfl rfl (p_move rfl) ?_
  refine st_p rfl rfl (p_move rfl) ?_
  refine st_p rfl rfl (p_move rfl) ?_
  refine st_p rfl rfl ((by first | exact p_nil rfl | exact p_nilf rfl)) ?_
  refine st_p rfl rfl (p_iar rfl rfl a_104 (by first | decide | omega) (by first | decide | omega)) ?_
  refine st_q rfl rfl ((by first | exact q_ob 0 rfl rfl r_3 (by first | rfl | assumption) | exact q_ob 1 rfl rfl r_3 (by first | rfl | assumption) | exact q_ob 2 rfl rfl r_3 (by first | rfl | assumption) | exact q_ob 3 rfl rfl r_3 (by first | rfl | assumption) | exact q_ob 4 rfl rfl r_3 (by first | rfl | assumption) | exact q_ob 5 rfl rfl r_3 (by first | rfl | assumption) | exact q_ob 6 rfl rfl r_3 (by first | rfl | assumption) | exact q_ob 7 rfl rfl r_3 (by first | rfl | assumption) | exact q_ob 8 rfl rfl r_3 (by first | rfl | assumption) | exact q_sl 0 rfl rfl r_3 (by first | rfl | assumption) | exact q_sl 1 rfl rfl r_3 (by first | rfl | assumption) | exact q_sl 2 rfl rfl r_3 (by first | rfl | assumption) | exact q_sl 3 rfl rfl r_3 (by first | rfl | assumption) | exact q_sl 4 rfl rfl r_3 (by first | rfl | assumption) | exact q_sl 5 rfl rfl r_3 (by first | rfl | assumption) | exact q_sl 6 rfl rfl r_3 (by first | rfl | assumption) | exact q_sl 7 rfl rfl r_3 (by first | rfl | assumption) | exact q_sl 8 rfl rfl r_3 (by first | rfl | assumption) | exact q_fr rfl r_3 (by assumption))) ?_
  refine st_q rfl rfl (q_call (first := []) rfl c_79 rfl (fun F1 hF1 hs1 => stretch_calls _ F1)) ?_
  refine st_l rfl rfl (l_bsV [_] _ rfl e_22 (by decide) (by decide) rfl (by simp [Value.cells]) (by simp only [List.flatMap_cons, List.flatMap_nil, Value.cells, List.nil_append, List.cons_append, List.append_nil]; exact rfl)) ?_
  rintro _ _ ⟨b32, rfl, rfl⟩
  refine at_hp (by (try simp only [List.take_zero, List.take_succ_cons, List.drop_zero, List.drop_succ_cons, List.drop_nil, List.length_cons, List.length_nil, Nat.zero_add, Nat.reduceAdd, List.set_cons_zero, List.set_cons_succ, List.nil_append, List.cons_append, List.append_nil, pick, List.filterMap_cons, List.filterMap_nil, List.getElem?_cons_zero, List.getElem?_cons_succ]); exact rfl) ?_
  refine st_l rfl rfl ((by first | exact l_app 1 0 rfl rfl e_22 rfl (by decide) rfl rfl (by first | rfl | (simp; done)) (by simp [Value.oneCell']) (by decide) (by first | omega | (simp only [List.length_append, List.length_cons, List.length_nil]; omega)) (by first | decide | omega) | exact l_app 2 0 rfl rfl e_22 rfl (by decide) rfl rfl (by first | rfl | (simp; done)) (by simp [Value.oneCell']) (by decide) (by first | omega | (simp only [List.length_append, List.length_cons, List.length_nil]; omega)) (by first | decide | omega) | exact l_app 3 0 rfl rfl e_22 rfl (by decide) rfl rfl (by first | rfl | (simp; done)) (by simp [Value.oneCell']) (by decide) (by first | omega | (simp only [List.length_append, List.length_cons, List.length_nil]; omega)) (by first | decide | omega) | exact l_app 4 0 rfl rfl e_22 rfl (by decide) rfl rfl (by first | rfl | (simp; done)) (by simp [Value.oneCell']) (by decide) (by first | omega | (simp only [List.length_append, List.length_cons, List.length_nil]; omega)) (by first | decide | omega) | exact l_app 5 0 rfl rfl e_22 rfl (by decide) rfl rfl (by first | rfl | (simp; done)) (by simp [Value.oneCell']) (by decide) (by first | omega | (simp only [List.length_append, List.length_cons, List.length_nil]; omega)) (by first | decide | omega) | exact l_app 6 0 rfl rfl e_22 rfl (by decide) rfl rfl (by first | rfl | (simp; done)) (by simp [Value.oneCell']) (by decide) (by first | omega | (simp only [List.length_append, List.length_cons, List.length_nil]; omega)) (by first | decide | omega) | exact l_app 7 0 rfl rfl e_22 rfl (by decide) rfl rfl (by first | rfl | (simp; done)) (by simp [Value.oneCell']) (by decide) (by first | omega | (simp only [List.length_append, List.length_cons, List.length_nil]; omega)) (by first | decide | omega) | exact l_app 8 0 rfl rfl e_22 rfl (by decide) rfl rfl (by first | rfl | (simp; done)) (by simp [Value.oneCell']) (by decide) (by first | omega | (simp only [List.length_append, List.length_cons, List.length_nil]; omega)) (by first | decide | omega) | exact l_app 0 1 rfl rfl e_22 rfl (by decide) rfl rfl (by first | rfl | (simp; done)) (by simp [Value.oneCell']) (by decide) (by first | omega | (simp only [List.length_append, List.length_cons, List.length_nil]; omega)) (by first | decide | omega) | exact l_app 2 1 rfl rfl e_22 rfl (by decide) rfl rfl (by first | rfl | (simp; done)) (by simp [Value.oneCell']) (by decide) (by first | omega | (simp only [List.length_append, List.length_cons, List.length_nil]; omega)) (by first | decide | omega) | exact l_app 3 1 rfl rfl e_22 rfl (by decide) rfl rfl (by first | rfl | (simp; done)) (by simp [Value.oneCell']) (by decide) (by first | omega | (simp only [List.length_append, List.length_cons, List.length_nil]; omega)) (by first | decide | omega) | exact l_app 4 1 rfl rfl e_22 rfl (by decide) rfl rfl (by first | rfl | (simp; done)) (by simp [Value.oneCell']) (by decide) (by first | omega | (simp only [List.length_append, List.length_cons, List.length_nil]; omega)) (by first | decide | omega) | exact l_app 5 1 rfl rfl e_22 rfl (by decide) rfl rfl (by first | rfl | (simp; done)) (by simp [Value.oneCell']) (by decide) (by first | omega | (simp only [List.length_append, List.length_cons, List.length_nil]; omega)) (by first | decide | omega) | exact l_app 6 1 rfl rfl e_22 rfl (by decide) rfl rfl (by first | rfl | (simp; done)) (by simp [Value.oneCell']) (by decide) (by first | omega | (simp only [List.length_append, List.length_cons, List.length_nil]; omega)) (by first | decide | omega) | exact l_app 7 1 rfl rfl e_22 rfl (by decide) rfl rfl (by first | rfl | (simp; done)) (by simp [Value.oneCell']) (by decide) (by first | omega | (simp only [List.length_append, List.length_cons, List.length_nil]; omega)) (by first | decide | omega) | exact l_app 8 1 rfl rfl e_22 rfl (by decide) rfl rfl (by first | rfl | (simp; done)) (by simp [Value.oneCell']) (by decide) (by first | omega | (simp only [List.length_append, List.length_cons, List.length_nil]; omega)) (by first | decide | omega) | exact l_app 0 2 rfl rfl e_22 rfl (by decide) rfl rfl (by first | rfl | (simp; done)) (by simp [Value.oneCell']) (by decide) (by first | omega | (simp only [List.length_append, List.length_cons, List.length_nil]; omega)) (by first | decide | omega) | exact l_app 1 2 rfl rfl e_22 rfl (by decide) rfl rfl (by first | rfl | (simp; done)) (by simp [Value.oneCell']) (by decide) (by first | omega | (simp only [List.length_append, List.length_cons, List.length_nil]; omega)) (by first | decide | omega) | exact l_app 3 2 rfl rfl e_22 rfl (by decide) rfl rfl (by first | rfl | (simp; done)) (by simp [Value.oneCell']) (by decide) (by first | omega | (simp only [List.length_append, List.length_cons, List.length_nil]; omega)) (by first | decide | omega) | exact l_app 4 2 rfl rfl e_22 rfl (by decide) rfl rfl (by first | rfl | (simp; done)) (by simp [Value.oneCell']) (by decide) (by first | omega | (simp only [List.length_append, List.length_cons, List.length_nil]; omega)) (by first | decide | omega) | exact l_app 5 2 rfl rfl e_22 rfl (by decide) rfl rfl (by first | rfl | (simp; done)) (by simp [Value.oneCell']) (by decide) (by first | omega | (simp only [List.length_append, List.length_cons, List.length_nil]; omega)) (by first | decide | omega) | exact l_app 6 2 rfl rfl e_22 rfl (by decide) rfl rfl (by first | rfl | (simp; done)) (by simp [Value.oneCell']) (by decide) (by first | omega | (simp only [List.length_append, List.length_cons, List.length_nil]; omega)) (by first | decide | omega) | exact l_app 7 2 rfl rfl e_22 rfl (by decide) rfl rfl (by first | rfl | (simp; done)) (by simp [Value.oneCell']) (by decide) (by first | omega | (simp only [List.length_append, List.length_cons, List.length_nil]; omega)) (by first | decide | omega) | exact l_app 8 2 rfl rfl e_22 rfl (by decide) rfl rfl (by first | rfl | (simp; done)) (by simp [Value.oneCell']) (by decide) (by first | omega | (simp only [List.length_append, List.length_cons, List.length_nil]; omega)) (by first | decide | omega))) ?_
  rintro _ _ ⟨g33, c33, rfl, rfl⟩
  refine at_hp (by (try simp only [List.take_zero, List.take_succ_cons, List.drop_zero, List.drop_succ_cons, List.drop_nil, List.length_cons, List.length_nil, Nat.zero_add, Nat.reduceAdd, List.set_cons_zero, List.set_cons_succ, List.nil_append, List.cons_append, List.append_nil, pick, List.filterMap_cons, List.filterMap_nil, List.getElem?_cons_zero, List.getElem?_cons_succ]); exact rfl) ?_
  refine at_drop ?_
  refine st_p rfl rfl (p_assign rfl) ?_
  refine at_nil ?_
  refine at_ks [0, 1, 2, 3, 8, 9, 10, 11, 13, 14, 15, 16, 17, 18, 21, 22, 23, 50, 67, 68, 69] (by (try simp only [keep, lk, pd, enumE, Nat.reduceBEq, Nat.reduceAdd, cond_true, cond_false]); exact rfl) ?_
  refine at_inb ?_
  refine at_then ?_
  refine at_region ?_
  refine st_p rfl rfl (p_add (r := 3) rfl rfl (by decide)) ?_
  refine st_p rfl rfl (p_move rfl) ?_
  refine at_nil ?_
  refine at_ks [0, 1, 2, 3, 8, 9, 10, 11, 13, 14, 15, 16, 17, 18, 21, 22, 23, 50, 67, 68, 69] (by (try simp only [keep, lk, pd, enumE, Nat.reduceBEq, Nat.reduceAdd, cond_true, cond_false]); exact rfl) ?_
  refine at_then ?_
  refine at_round ?_
  refine at_seq ?_
  refine at_region ?_
  refine st_p rfl rfl (p_lss rfl rfl) ?_
  refine at_nil ?_
  refine at_ks [0, 1, 2, 3, 8, 9, 10, 11, 13, 14, 15, 16, 17, 18, 21, 22, 23, 50, 67, 68, 69] (by (try simp only [keep, lk, pd, enumE, Nat.reduceBEq, Nat.reduceAdd, cond_true, cond_false]); exact rfl) ?_
  refine at_then ?_
  refine at_seq ?_
  refine at_cond_f rfl ?_
  refine at_exit ?_
  refine at_then_x ?_
  refine at_then_x ?_
  refine at_inb_exit ?_
  refine at_then ?_
  refine at_seq ?_
  refine at_region ?_
  refine st_p rfl rfl (p_move rfl) ?_
  refine st_p rfl rfl (p_move rfl) ?_
  refine st_p rfl rfl ((by first | exact p_nil rfl | exact p_nilf rfl)) ?_
  refine st_p rfl rfl ((by first | exact p_fa0 rfl o_101_1 | exact p_fa rfl o_101_1)) ?_
  refine st_p rfl rfl (p_iar rfl rfl a_99 (by first | decide | omega) (by first | decide | omega)) ?_
  refine st_q rfl rfl (q_ob 2 rfl rfl r_22 hw') ?_
  refine st_p rfl rfl (p_move rfl) ?_
  refine st_q rfl rfl (q_call (first := []) rfl c_80 rfl (fun F1 hF1 hs1 => mix_calls A _ 3 cA _ (m.wt d) (m.ins node) F1 hwt.2 rfl (by decide) (fv_slice (hs1 _ (List.mem_of_getElem? (i := 6) rfl))) (fv_slice (hs1 _ (List.mem_of_getElem? (i := 0) rfl))))) ?_
  refine st_p rfl rfl (p_assign rfl) ?_
  refine at_nil ?_
  refine at_ks [0, 1, 2, 3, 8, 9, 10, 11, 13, 14, 15, 16, 17, 18, 21, 22, 23, 50, 67, 68, 69] (by (try simp only [keep, lk, pd, enumE, Nat.reduceBEq, Nat.reduceAdd, cond_true, cond_false]); exact rfl) ?_
  refine at_then ?_
  refine at_seq ?_
  refine at_region ?_
  refine st_p rfl rfl (p_move rfl) ?_
  refine st_p rfl rfl (p_move rfl) ?_
  refine st_l rfl rfl (l_callP (first := first) (H1 := HB) (H2 := _ :: _ :: _ :: _ :: _ :: _ :: _ :: rest) (List.perm_append_comm (l₁ := _ :: _ :: _ :: _ :: _ :: _ :: _ :: rest)) rfl hf rfl (fun F1 hF1 hs1 => hhow s (m.chance d node) HB F1 b0 e0' s0 hs hch.1 hch.2 hst)) ?_
  rintro _ _ ⟨HB1, ⟨rfl, hs2⟩, rfl⟩
  refine at_hp (by (try simp only [List.take_zero, List.take_succ_cons, List.drop_zero, List.drop_succ_cons, List.drop_nil, List.length_cons, List.length_nil, Nat.zero_add, Nat.reduceAdd, List.set_cons_zero, List.set_cons_succ, List.nil_append, List.cons_append, List.append_nil, pick, List.filterMap_cons, List.filterMap_nil, List.getElem?_cons_zero, List.getElem?_cons_succ]); exact rfl) ?_
  refine at_perm List.perm_append_comm ?_
  refine at_hp (by (try simp only [List.take_zero, List.take_succ_cons, List.drop_zero, List.drop_succ_cons, List.drop_nil, List.length_cons, List.length_nil, Nat.zero_add, Nat.reduceAdd, List.set_cons_zero, List.set_cons_succ, List.nil_append, List.cons_append, List.append_nil, pick, List.filterMap_cons, List.filterMap_nil, List.getElem?_cons_zero, List.getElem?_cons_succ]); exact rfl) ?_
  refine st_p rfl rfl (p_move rfl) ?_
  refine st_p rfl rfl (p_ext rfl rfl) ?_
  refine st_p rfl rfl (p_ext rfl rfl) ?_
  refine st_p rfl rfl (p_assign rfl) ?_
  refine st_p rfl rfl (p_assign rfl) ?_
  refine at_nil ?_
  refine at_ks [0, 1, 2, 3, 8, 9, 10, 11, 13, 14, 15, 16, 17, 18, 21, 22, 23, 50, 67, 68, 69] (by (try simp only [keep, lk, pd, enumE, Nat.reduceBEq, Nat.reduceAdd, cond_true, cond_false]); exact rfl) ?_
  refine at_then ?_
  refine at_seq ?_
  refine at_seq ?_
  refine at_region ?_
  refine st_p rfl rfl (p_move rfl) ?_
  refine st_p rfl rfl (p_neq rfl rfl) ?_
  refine at_nil ?_
  refine at_ks [0, 1, 2, 3, 8, 9, 10, 11, 13, 14, 15, 16, 17, 18, 21, 22, 23, 50, 67, 68, 69] (by (try simp only [keep, lk, pd, enumE, Nat.reduceBEq, Nat.reduceAdd, cond_true, cond_false]); exact rfl) ?_
  refine at_then ?_
  refine at_cond rfl (fun ht50 => ?_) (fun ht50 => ?_)
  · (try simp only [decide_eq_true_eq, decide_eq_false_iff_not, Bool.not_eq_true', Bool.not_eq_false', Bool.not_true, Bool.not_false, Bool.or_eq_true, Bool.and_eq_true, Int.not_lt, Int.not_le] at ht50)
    rw [if_neg ht50] at hstep
    simp only [Option.some.injEq, Prod.mk.injEq] at hstep
    obtain ⟨rfl, rfl, rfl, rfl⟩ := hstep
    refine at_seq ?_
    refine at_region ?_
    refine st_p rfl rfl (p_move rfl) ?_
    refine st_p rfl rfl (p_assign rfl) ?_
    refine st_p rfl rfl (p_assign rfl) ?_
    refine at_nil ?_
    refine at_ks [0, 1, 2, 3, 8, 9, 10, 11, 13, 14, 15, 16, 17, 18, 21, 22, 23, 50, 67, 68, 69] (by (try simp only [keep, lk, pd, enumE, Nat.reduceBEq, Nat.reduceAdd, cond_true, cond_false]); exact rfl) ?_
    refine at_then ?_
    refine at_retc ?_
    refine at_then_r ?_
    refine at_dropAt 0 rfl rfl ?_
    refine at_dropAt 0 rfl rfl ?_
    exact fin_2 rfl rfl rfl (by
        exact ⟨rfl, .slice A 3 cA, HB1, by rw [set_same hw]; rfl, hs2, (set_same hwt.1).symm, rfl, rfl⟩)
  · (try simp only [decide_eq_true_eq, decide_eq_false_iff_not, Bool.not_eq_true', Bool.not_eq_false', Bool.not_true, Bool.not_false, Bool.or_eq_true, Bool.and_eq_true, Int.not_lt, Int.not_le] at ht50)
    rw [if_pos ht50] at hstep
    simp only [Option.some.injEq, Prod.mk.injEq] at hstep
    obtain ⟨rfl, rfl, rfl, rfl⟩ := hstep
    refine at_skip ?_
    refine at_then ?_
    refine at_seq ?_
    refine at_drawH [0, 1, 2, 3, 4, 5, 6, 7, 8, 9, 10, 12, 13, 11, 14, 15] [0, 0, 0, 0, 4, 20, 60, 124, 0, 0, 0, 2044, 1, 4097, 16383, 32767] [7] [11, 15] mixd (by kernel_rfl) ?_
    refine rd_p rfl rfl rfl rfl rfl (p_move rfl) ?_
    refine rd_p rfl rfl rfl rfl rfl (p_move rfl) ?_
    refine rd_p rfl rfl rfl rfl rfl (p_move rfl) ?_
    refine rd_p rfl rfl rfl rfl rfl (p_move rfl) ?_
    refine rd_p rfl rfl rfl rfl rfl ((by first | exact p_nil rfl | exact p_nilf rfl)) ?_
    refine rd_p rfl rfl rfl rfl rfl ((by first | exact p_fa0 rfl o_101_1 | exact p_fa rfl o_101_1)) ?_
    refine rd_p rfl rfl rfl rfl rfl (p_iar rfl rfl a_99 (by first | decide | omega) (by first | decide | omega)) ?_
    refine rd_q rfl rfl rfl rfl rfl ((by first | exact q_ob 0 rfl rfl r_22 (by first | rfl | assumption) | exact q_ob 1 rfl rfl r_22 (by first | rfl | assumption) | exact q_ob 2 rfl rfl r_22 (by first | rfl | assumption) | exact q_ob 3 rfl rfl r_22 (by first | rfl | assumption) | exact q_ob 4 rfl rfl r_22 (by first | rfl | assumption) | exact q_ob 5 rfl rfl r_22 (by first | rfl | assumption) | exact q_ob 6 rfl rfl r_22 (by first | rfl | assumption) | exact q_ob 7 rfl rfl r_22 (by first | rfl | assumption) | exact q_ob 8 rfl rfl r_22 (by first | rfl | assumption) | exact q_sl 0 rfl rfl r_22 (by first | rfl | assumption) | exact q_sl 1 rfl rfl r_22 (by first | rfl | assumption) | exact q_sl 2 rfl rfl r_22 (by first | rfl | assumption) | exact q_sl 3 rfl rfl r_22 (by first | rfl | assumption) | exact q_sl 4 rfl rfl r_22 (by first | rfl | assumption) | exact q_sl 5 rfl rfl r_22 (by first | rfl | assumption) | exact q_sl 6 rfl rfl r_22 (by first | rfl | assumption) | exact q_sl 7 rfl rfl r_22 (by first | rfl | assumption) | exact q_sl 8 rfl rfl r_22 (by first | rfl | assumption) | exact q_fr rfl r_22 (by assumption))) (fun _ h => h) ?_
    refine rd_p rfl rfl rfl rfl rfl (p_move rfl) ?_
    refine rd_p rfl rfl rfl rfl rfl (p_move rfl) ?_
    refine rd_p rfl rfl rfl rfl rfl (p_move rfl) ?_
    refine rd_p rfl rfl rfl rfl rfl ((by first | exact p_nil rfl | exact p_nilf rfl)) ?_
    refine rd_p rfl rfl rfl rfl rfl ((by first | exact p_fa0 rfl o_101_1 | exact p_fa rfl o_101_1)) ?_
    refine rd_l rfl rfl rfl rfl (l_callP (first := []) (H1 := []) (H2 := _) (List.Perm.refl _) rfl c_81 rfl (fun F1 hF1 hs1 => (train_calls A _ 3 cA _ (m.wt d) (m.ins node) (m.chance d node) b0 F1 hwt.2 rfl (by decide) (fv_slice (hs1 _ (List.mem_of_getElem? (i := 6) rfl))) (fv_slice (hs1 _ (List.mem_of_getElem? (i := 0) rfl)))).shape)) (fun h => nomatch (show false = true from h)) ?_
    rintro _ _ ⟨_, ⟨A2, cA2, rfl, _, hA2, rfl⟩, rfl⟩
    obtain ⟨gw, rfl⟩ := hA2 (by decide)
    refine rd_hp (by (try simp only [List.take_zero, List.take_succ_cons, List.drop_zero, List.drop_succ_cons, List.drop_nil, List.length_cons, List.length_nil, Nat.zero_add, Nat.reduceAdd, List.set_cons_zero, List.set_cons_succ, List.nil_append, List.cons_append, List.append_nil, pick, List.filterMap_cons, List.filterMap_nil, List.getElem?_cons_zero, List.getElem?_cons_succ]); exact rfl) ?_
    refine rd_p rfl rfl rfl rfl rfl (p_iar rfl rfl a_99 (by first | decide | omega) (by first | decide | omega)) ?_
    refine rd_l rfl rfl rfl rfl ((by first | exact l_ob 0 rfl rfl rfl (by first | rfl | assumption) (by first | rfl | assumption) s_22 (by first | decide | omega | (simp only [List.length_cons, List.length_nil]; omega) | (simp; omega) | (simp; done)) | exact l_ob 1 rfl rfl rfl (by first | rfl | assumption) (by first | rfl | assumption) s_22 (by first | decide | omega | (simp only [List.length_cons, List.length_nil]; omega) | (simp; omega) | (simp; done)) | exact l_ob 2 rfl rfl rfl (by first | rfl | assumption) (by first | rfl | assumption) s_22 (by first | decide | omega | (simp only [List.length_cons, List.length_nil]; omega) | (simp; omega) | (simp; done)) | exact l_ob 3 rfl rfl rfl (by first | rfl | assumption) (by first | rfl | assumption) s_22 (by first | decide | omega | (simp only [List.length_cons, List.length_nil]; omega) | (simp; omega) | (simp; done)) | exact l_ob 4 rfl rfl rfl (by first | rfl | assumption) (by first | rfl | assumption) s_22 (by first | decide | omega | (simp only [List.length_cons, List.length_nil]; omega) | (simp; omega) | (simp; done)) | exact l_ob 5 rfl rfl rfl (by first | rfl | assumption) (by first | rfl | assumption) s_22 (by first | decide | omega | (simp only [List.length_cons, List.length_nil]; omega) | (simp; omega) | (simp; done)) | exact l_ob 6 rfl rfl rfl (by first | rfl | assumption) (by first | rfl | assumption) s_22 (by first | decide | omega | (simp only [List.length_cons, List.length_nil]; omega) | (simp; omega) | (simp; done)) | exact l_ob 7 rfl rfl rfl (by first | rfl | assumption) (by first | rfl | assumption) s_22 (by first | decide | omega | (simp only [List.length_cons, List.length_nil]; omega) | (simp; omega) | (simp; done)) | exact l_ob 8 rfl rfl rfl (by first | rfl | assumption) (by first | rfl | assumption) s_22 (by first | decide | omega | (simp only [List.length_cons, List.length_nil]; omega) | (simp; omega) | (simp; done)) | exact l_sl 0 rfl rfl rfl (by first | rfl | assumption) (by first | rfl | assumption) s_22 (by first | decide | omega | (simp only [List.length_cons, List.length_nil]; omega) | (simp; omega) | (simp; done)) | exact l_sl 1 rfl rfl rfl (by first | rfl | assumption) (by first | rfl | assumption) s_22 (by first | decide | omega | (simp only [List.length_cons, List.length_nil]; omega) | (simp; omega) | (simp; done)) | exact l_sl 2 rfl rfl rfl (by first | rfl | assumption) (by first | rfl | assumption) s_22 (by first | decide | omega | (simp only [List.length_cons, List.length_nil]; omega) | (simp; omega) | (simp; done)) | exact l_sl 3 rfl rfl rfl (by first | rfl | assumption) (by first | rfl | assumption) s_22 (by first | decide | omega | (simp only [List.length_cons, List.length_nil]; omega) | (simp; omega) | (simp; done)) | exact l_sl 4 rfl rfl rfl (by first | rfl | assumption) (by first | rfl | assumption) s_22 (by first | decide | omega | (simp only [List.length_cons, List.length_nil]; omega) | (simp; omega) | (simp; done)) | exact l_sl 5 rfl rfl rfl (by first | rfl | assumption) (by first | rfl | assumption) s_22 (by first | decide | omega | (simp only [List.length_cons, List.length_nil]; omega) | (simp; omega) | (simp; done)) | exact l_sl 6 rfl rfl rfl (by first | rfl | assumption) (by first | rfl | assumption) s_22 (by first | decide | omega | (simp only [List.length_cons, List.length_nil]; omega) | (simp; omega) | (simp; done)) | exact l_sl 7 rfl rfl rfl (by first | rfl | assumption) (by first | rfl | assumption) s_22 (by first | decide | omega | (simp only [List.length_cons, List.length_nil]; omega) | (simp; omega) | (simp; done)) | exact l_sl 8 rfl rfl rfl (by first | rfl | assumption) (by first | rfl | assumption) s_22 (by first | decide | omega | (simp only [List.length_cons, List.length_nil]; omega) | (simp; omega) | (simp; done)))) (fun h => nomatch (show false = true from h)) ?_
    rintro _ _ ⟨rfl, rfl⟩
    refine rd_hp (by (try simp only [List.take_zero, List.take_succ_cons, List.drop_zero, List.drop_succ_cons, List.drop_nil, List.length_cons, List.length_nil, Nat.zero_add, Nat.reduceAdd, List.set_cons_zero, List.set_cons_succ, List.nil_append, List.cons_append, List.append_nil, pick, List.filterMap_cons, List.filterMap_nil, List.getElem?_cons_zero, List.getElem?_cons_succ]); exact rfl) ?_
    refine rd_nil ?_
    refine at_ks [0, 1, 2, 3, 8, 9, 10, 11, 13, 14, 15, 16, 17, 18, 21, 22, 23, 50, 67, 68, 69] (by (try simp only [keep, lk, pd, enumE, Nat.reduceBEq, Nat.reduceAdd, cond_true, cond_false]); exact rfl) ?_
    refine at_then ?_
    refine at_seq ?_
    refine at_seq ?_
    refine at_region ?_
    refine st_q rfl rfl ((by first | exact q_obN 0 rfl rfl r_136 s_136 rfl rfl | exact q_obN 1 rfl rfl r_136 s_136 rfl rfl | exact q_obN 2 rfl rfl r_136 s_136 rfl rfl | exact q_obN 3 rfl rfl r_136 s_136 rfl rfl | exact q_obN 4 rfl rfl r_136 s_136 rfl rfl | exact q_obN 5 rfl rfl r_136 s_136 rfl rfl | exact q_obN 6 rfl rfl r_136 s_136 rfl rfl | exact q_obN 7 rfl rfl r_136 s_136 rfl rfl | exact q_obN 8 rfl rfl r_136 s_136 rfl rfl | exact q_slN 0 rfl rfl r_136 s_136 (by first | rfl | assumption) (by first | rfl | assumption) | exact q_slN 1 rfl rfl r_136 s_136 (by first | rfl | assumption) (by first | rfl | assumption) | exact q_slN 2 rfl rfl r_136 s_136 (by first | rfl | assumption) (by first | rfl | assumption) | exact q_slN 3 rfl rfl r_136 s_136 (by first | rfl | assumption) (by first | rfl | assumption) | exact q_slN 4 rfl rfl r_136 s_136 (by first | rfl | assumption) (by first | rfl | assumption) | exact q_slN 5 rfl rfl r_136 s_136 (by first | rfl | assumption) (by first | rfl | assumption) | exact q_slN 6 rfl rfl r_136 s_136 (by first | rfl | assumption) (by first | rfl | assumption) | exact q_slN 7 rfl rfl r_136 s_136 (by first | rfl | assumption) (by first | rfl | assumption) | exact q_slN 8 rfl rfl r_136 s_136 (by first | rfl | assumption) (by first | rfl | assumption) | exact q_frN rfl r_136 s_136 (by first | rfl | assumption) (by assumption))) ?_
    refine st_p rfl rfl (p_move rfl) ?_
    refine at_nil ?_
    refine at_ks [0, 1, 2, 3, 8, 9, 10, 11, 13, 14, 15, 16, 17, 18, 21, 22, 23, 50, 67, 68, 69] (by (try simp only [keep, lk, pd, enumE, Nat.reduceBEq, Nat.reduceAdd, cond_true, cond_false]); exact rfl) ?_
    refine at_then ?_
    refine at_block ?_
    refine at_rounds 4 ?_
    refine at_round ?_
    refine at_seq ?_
    refine at_region ?_
    refine st_p rfl rfl (p_lss rfl rfl) ?_
    refine at_nil ?_
    refine at_ks [0, 1, 2, 3, 8, 9, 10, 11, 13, 14, 15, 16, 17, 18, 21, 22, 23, 50, 67, 68, 69] (by (try simp only [keep, lk, pd, enumE, Nat.reduceBEq, Nat.reduceAdd, cond_true, cond_false]); exact rfl) ?_
    refine at_then ?_
    refine at_seq ?_
    refine at_cond_t rfl ?_
    refine at_skip ?_
    refine at_then ?_
    refine at_seq ?_
    refine at_block ?_
    refine at_seq ?_
    refine at_region ?_
    refine st_p rfl rfl (p_move rfl) ?_
    refine st_p rfl rfl (p_idxA rfl rfl Try.underlying136 r_135 s_135 (by first | decide | omega) (by first | decide | omega) (by first | rfl | assumption)) ?_
    refine st_p rfl rfl (p_assign rfl) ?_
    refine st_p rfl rfl (p_assign rfl) ?_
    refine at_nil ?_
    refine at_ks [0, 1, 2, 3, 8, 9, 10, 11, 13, 14, 15, 16, 17, 18, 21, 22, 23, 50, 67, 68, 69] (by (try simp only [keep, lk, pd, enumE, Nat.reduceBEq, Nat.reduceAdd, cond_true, cond_false]); exact rfl) ?_
    refine at_then ?_
    refine at_drawH [0, 1, 2, 3, 4, 5, 6, 7, 8, 9, 10, 11, 12, 13] [0, 0, 0, 0, 4, 28, 60, 0, 0, 256, 1020, 1, 4095, 8191] [6, 10] [13] mixd (by kernel_rfl) ?_
    refine rd_p rfl rfl rfl rfl rfl (p_move rfl) ?_
    refine rd_p rfl rfl rfl rfl rfl (p_move rfl) ?_
    refine rd_p rfl rfl rfl rfl rfl (p_move rfl) ?_
    refine rd_p rfl rfl rfl rfl rfl (p_move rfl) ?_
    refine rd_p rfl rfl rfl rfl rfl ((by first | exact p_nil rfl | exact p_nilf rfl)) ?_
    refine rd_p rfl rfl rfl rfl rfl (p_iar rfl rfl a_104 (by first | decide | omega) (by first | decide | omega)) ?_
    refine rd_q rfl rfl rfl rfl rfl ((by first | exact q_ob 0 rfl rfl r_3 (by first | rfl | assumption) | exact q_ob 1 rfl rfl r_3 (by first | rfl | assumption) | exact q_ob 2 rfl rfl r_3 (by first | rfl | assumption) | exact q_ob 3 rfl rfl r_3 (by first | rfl | assumption) | exact q_ob 4 rfl rfl r_3 (by first | rfl | assumption) | exact q_ob 5 rfl rfl r_3 (by first | rfl | assumption) | exact q_ob 6 rfl rfl r_3 (by first | rfl | assumption) | exact q_ob 7 rfl rfl r_3 (by first | rfl | assumption) | exact q_ob 8 rfl rfl r_3 (by first | rfl | assumption) | exact q_sl 0 rfl rfl r_3 (by first | rfl | assumption) | exact q_sl 1 rfl rfl r_3 (by first | rfl | assumption) | exact q_sl 2 rfl rfl r_3 (by first | rfl | assumption) | exact q_sl 3 rfl rfl r_3 (by first | rfl | assumption) | exact q_sl 4 rfl rfl r_3 (by first | rfl | assumption) | exact q_sl 5 rfl rfl r_3 (by first | rfl | assumption) | exact q_sl 6 rfl rfl r_3 (by first | rfl | assumption) | exact q_sl 7 rfl rfl r_3 (by first | rfl | assumption) | exact q_sl 8 rfl rfl r_3 (by first | rfl | assumption) | exact q_fr rfl r_3 (by assumption))) (fun _ h => h) ?_
    refine rd_p rfl rfl rfl rfl rfl (p_move rfl) ?_
    refine rd_p rfl rfl rfl rfl rfl (p_move rfl) ?_
    refine rd_p rfl rfl rfl rfl rfl (p_add (r := 4) rfl rfl (by decide)) ?_
    refine rd_q rfl rfl rfl rfl rfl (q_call (first := []) rfl c_82 rfl (fun F1 hF1 hs1 => move_calls _ _ _ F1)) (fun _ h => h) ?_
    refine rd_p rfl rfl rfl rfl rfl ((by first | exact p_nil rfl | exact p_nilf rfl)) ?_
    refine rd_p rfl rfl rfl rfl rfl (p_iar rfl rfl a_104 (by first | decide | omega) (by first | decide | omega)) ?_
    refine rd_l rfl rfl rfl rfl ((by first | exact l_ob 0 rfl rfl rfl (by first | rfl | assumption) (by first | rfl | assumption) s_3 (by first | decide | omega | (simp only [List.length_cons, List.length_nil]; omega) | (simp; omega) | (simp; done)) | exact l_ob 1 rfl rfl rfl (by first | rfl | assumption) (by first | rfl | assumption) s_3 (by first | decide | omega | (simp only [List.length_cons, List.length_nil]; omega) | (simp; omega) | (simp; done)) | exact l_ob 2 rfl rfl rfl (by first | rfl | assumption) (by first | rfl | assumption) s_3 (by first | decide | omega | (simp only [List.length_cons, List.length_nil]; omega) | (simp; omega) | (simp; done)) | exact l_ob 3 rfl rfl rfl (by first | rfl | assumption) (by first | rfl | assumption) s_3 (by first | decide | omega | (simp only [List.length_cons, List.length_nil]; omega) | (simp; omega) | (simp; done)) | exact l_ob 4 rfl rfl rfl (by first | rfl | assumption) (by first | rfl | assumption) s_3 (by first | decide | omega | (simp only [List.length_cons, List.length_nil]; omega) | (simp; omega) | (simp; done)) | exact l_ob 5 rfl rfl rfl (by first | rfl | assumption) (by first | rfl | assumption) s_3 (by first | decide | omega | (simp only [List.length_cons, List.length_nil]; omega) | (simp; omega) | (simp; done)) | exact l_ob 6 rfl rfl rfl (by first | rfl | assumption) (by first | rfl | assumption) s_3 (by first | decide | omega | (simp only [List.length_cons, List.length_nil]; omega) | (simp; omega) | (simp; done)) | exact l_ob 7 rfl rfl rfl (by first | rfl | assumption) (by first | rfl | assumption) s_3 (by first | decide | omega | (simp only [List.length_cons, List.length_nil]; omega) | (simp; omega) | (simp; done)) | exact l_ob 8 rfl rfl rfl (by first | rfl | assumption) (by first | rfl | assumption) s_3 (by first | decide | omega | (simp only [List.length_cons, List.length_nil]; omega) | (simp; omega) | (simp; done)) | exact l_sl 0 rfl rfl rfl (by first | rfl | assumption) (by first | rfl | assumption) s_3 (by first | decide | omega | (simp only [List.length_cons, List.length_nil]; omega) | (simp; omega) | (simp; done)) | exact l_sl 1 rfl rfl rfl (by first | rfl | assumption) (by first | rfl | assumption) s_3 (by first | decide | omega | (simp only [List.length_cons, List.length_nil]; omega) | (simp; omega) | (simp; done)) | exact l_sl 2 rfl rfl rfl (by first | rfl | assumption) (by first | rfl | assumption) s_3 (by first | decide | omega | (simp only [List.length_cons, List.length_nil]; omega) | (simp; omega) | (simp; done)) | exact l_sl 3 rfl rfl rfl (by first | rfl | assumption) (by first | rfl | assumption) s_3 (by first | decide | omega | (simp only [List.length_cons, List.length_nil]; omega) | (simp; omega) | (simp; done)) | exact l_sl 4 rfl rfl rfl (by first | rfl | assumption) (by first | rfl | assumption) s_3 (by first | decide | omega | (simp only [List.length_cons, List.length_nil]; omega) | (simp; omega) | (simp; done)) | exact l_sl 5 rfl rfl rfl (by first | rfl | assumption) (by first | rfl | assumption) s_3 (by first | decide | omega | (simp only [List.length_cons, List.length_nil]; omega) | (simp; omega) | (simp; done)) | exact l_sl 6 rfl rfl rfl (by first | rfl | assumption) (by first | rfl | assumption) s_3 (by first | decide | omega | (simp only [List.length_cons, List.length_nil]; omega) | (simp; omega) | (simp; done)) | exact l_sl 7 rfl rfl rfl (by first | rfl | assumption) (by first | rfl | assumption) s_3 (by first | decide | omega | (simp only [List.length_cons, List.length_nil]; omega) | (simp; omega) | (simp; done)) | exact l_sl 8 rfl rfl rfl (by first | rfl | assumption) (by first | rfl | assumption) s_3 (by first | decide | omega | (simp only [List.length_cons, List.length_nil]; omega) | (simp; omega) | (simp; done)))) (fun h => nomatch (show false = true from h)) ?_
    rintro _ _ ⟨rfl, rfl⟩
    refine rd_hp (by (try simp only [List.take_zero, List.take_succ_cons, List.drop_zero, List.drop_succ_cons, List.drop_nil, List.length_cons, List.length_nil, Nat.zero_add, Nat.reduceAdd, List.set_cons_zero, List.set_cons_succ, List.nil_append, List.cons_append, List.append_nil, pick, List.filterMap_cons, List.filterMap_nil, List.getElem?_cons_zero, List.getElem?_cons_succ]); exact rfl) ?_
    refine rd_nil ?_
    refine at_ks [0, 1, 2, 3, 8, 9, 10, 11, 13, 14, 15, 16, 17, 18, 21, 22, 23, 50, 67, 68, 69] (by (try simp only [keep, lk, pd, enumE, Nat.reduceBEq, Nat.reduceAdd, cond_true, cond_false]); exact rfl) ?_
    refine at_inb ?_
    refine at_then ?_
    refine at_region ?_
    refine st_p rfl rfl (p_add (r := 1) rfl rfl (by decide)) ?_
    refine st_p rfl rfl (p_move rfl) ?_
    refine at_nil ?_
    refine at_ks [0, 1, 2, 3, 8, 9, 10, 11, 13, 14, 15, 16, 17, 18, 21, 22, 23, 50, 67, 68, 69] (by (try simp only [keep, lk, pd, enumE, Nat.reduceBEq, Nat.reduceAdd, cond_true, cond_false]); exact rfl) ?_
    refine at_then ?_
    refine at_round ?_
    refine at_seq ?_
    refine at_region ?_
    refine st_p rfl rfl (p_lss rfl rfl) ?_
    refine at_nil ?_
    refine at_ks [0, 1, 2, 3, 8, 9, 10, 11, 13, 14, 15, 16, 17, 18, 21, 22, 23, 50, 67, 68, 69] (by (try simp only [keep, lk, pd, enumE, Nat.reduceBEq, Nat.reduceAdd, cond_true, cond_false]); exact rfl) ?_
    refine at_then ?_
    refine at_seq ?_
    refine at_cond_t rfl ?_
    refine at_skip ?_
    refine at_then ?_
    refine at_seq ?_
    refine at_block ?_
    refine at_seq ?_
    refine at_region ?_
    refine st_p rfl rfl (p_move rfl) ?_
    refine st_p rfl rfl (p_idxA rfl rfl Try.underlying136 r_135 s_135 (by first | decide | omega) (by first | decide | omega) (by first | rfl | assumption)) ?_
    refine st_p rfl rfl (p_assign rfl) ?_
    refine st_p rfl rfl (p_assign rfl) ?_
    refine at_nil ?_
    refine at_ks [0, 1, 2, 3, 8, 9, 10, 11, 13, 14, 15, 16, 17, 18, 21, 22, 23, 50, 67, 68, 69] (by (try simp only [keep, lk, pd, enumE, Nat.reduceBEq, Nat.reduceAdd, cond_true, cond_false]); exact rfl) ?_
    refine at_then ?_
    refine at_drawH [0, 1, 2, 3, 4, 5, 6, 7, 8, 9, 10, 11, 12, 13] [0, 0, 0, 0, 4, 28, 60, 0, 0, 256, 1020, 1, 4095, 8191] [6, 10] [13] mixd (by kernel_rfl) ?_
    refine rd_p rfl rfl rfl rfl rfl (p_move rfl) ?_
    refine rd_p rfl rfl rfl rfl rfl (p_move rfl) ?_
    refine rd_p rfl rfl rfl rfl rfl (p_move rfl) ?_
    refine rd_p rfl rfl rfl rfl rfl (p_move rfl) ?_
    refine rd_p rfl rfl rfl rfl rfl ((by first | exact p_nil rfl | exact p_nilf rfl)) ?_
    refine rd_p rfl rfl rfl rfl rfl (p_iar rfl rfl a_104 (by first | decide | omega) (by first | decide | omega)) ?_
    refine rd_q rfl rfl rfl rfl rfl ((by first | exact q_ob 0 rfl rfl r_3 (by first | rfl | assumption) | exact q_ob 1 rfl rfl r_3 (by first | rfl | assumption) | exact q_ob 2 rfl rfl r_3 (by first | rfl | assumption) | exact q_ob 3 rfl rfl r_3 (by first | rfl | assumption) | exact q_ob 4 rfl rfl r_3 (by first | rfl | assumption) | exact q_ob 5 rfl rfl r_3 (by first | rfl | assumption) | exact q_ob 6 rfl rfl r_3 (by first | rfl | assumption) | exact q_ob 7 rfl rfl r_3 (by first | rfl | assumption) | exact q_ob 8 rfl rfl r_3 (by first | rfl | assumption) | exact q_sl 0 rfl rfl r_3 (by first | rfl | assumption) | exact q_sl 1 rfl rfl r_3 (by first | rfl | assumption) | exact q_sl 2 rfl rfl r_3 (by first | rfl | assumption) | exact q_sl 3 rfl rfl r_3 (by first | rfl | assumption) | exact q_sl 4 rfl rfl r_3 (by first | rfl | assumption) | exact q_sl 5 rfl rfl r_3 (by first | rfl | assumption) | exact q_sl 6 rfl rfl r_3 (by first | rfl | assumption) | exact q_sl 7 rfl rfl r_3 (by first | rfl | assumption) | exact q_sl 8 rfl rfl r_3 (by first | rfl | assumption) | exact q_fr rfl r_3 (by assumption))) (fun _ h => h) ?_
    refine rd_p rfl rfl rfl rfl rfl (p_move rfl) ?_
    refine rd_p rfl rfl rfl rfl rfl (p_move rfl) ?_
    refine rd_p rfl rfl rfl rfl rfl (p_add (r := 5) rfl rfl (by decide)) ?_
    refine rd_q rfl rfl rfl rfl rfl (q_call (first := []) rfl c_82 rfl (fun F1 hF1 hs1 => move_calls _ _ _ F1)) (fun _ h => h) ?_
    refine rd_p rfl rfl rfl rfl rfl ((by first | exact p_nil rfl | exact p_nilf rfl)) ?_
    refine rd_p rfl rfl rfl rfl rfl (p_iar rfl rfl a_104 (by first | decide | omega) (by first | decide | omega)) ?_
    refine rd_l rfl rfl rfl rfl ((by first | exact l_ob 0 rfl rfl rfl (by first | rfl | assumption) (by first | rfl | assumption) s_3 (by first | decide | omega | (simp only [List.length_cons, List.length_nil]; omega) | (simp; omega) | (simp; done)) | exact l_ob 1 rfl rfl rfl (by first | rfl | assumption) (by first | rfl | assumption) s_3 (by first | decide | omega | (simp only [List.length_cons, List.length_nil]; omega) | (simp; omega) | (simp; done)) | exact l_ob 2 rfl rfl rfl (by first | rfl | assumption) (by first | rfl | assumption) s_3 (by first | decide | omega | (simp only [List.length_cons, List.length_nil]; omega) | (simp; omega) | (simp; done)) | exact l_ob 3 rfl rfl rfl (by first | rfl | assumption) (by first | rfl | assumption) s_3 (by first | decide | omega | (simp only [List.length_cons, List.length_nil]; omega) | (simp; omega) | (simp; done)) | exact l_ob 4 rfl rfl rfl (by first | rfl | assumption) (by first | rfl | assumption) s_3 (by first | decide | omega | (simp only [List.length_cons, List.length_nil]; omega) | (simp; omega) | (simp; done)) | exact l_ob 5 rfl rfl rfl (by first | rfl | assumption) (by first | rfl | assumption) s_3 (by first | decide | omega | (simp only [List.length_cons, List.length_nil]; omega) | (simp; omega) | (simp; done)) | exact l_ob 6 rfl rfl rfl (by first | rfl | assumption) (by first | rfl | assumption) s_3 (by first | decide | omega | (simp only [List.length_cons, List.length_nil]; omega) | (simp; omega) | (simp; done)) | exact l_ob 7 rfl rfl rfl (by first | rfl | assumption) (by first | rfl | assumption) s_3 (by first | decide | omega | (simp only [List.length_cons, List.length_nil]; omega) | (simp; omega) | (simp; done)) | exact l_ob 8 rfl rfl rfl (by first | rfl | assumption) (by first | rfl | assumption) s_3 (by first | decide | omega | (simp only [List.length_cons, List.length_nil]; omega) | (simp; omega) | (simp; done)) | exact l_sl 0 rfl rfl rfl (by first | rfl | assumption) (by first | rfl | assumption) s_3 (by first | decide | omega | (simp only [List.length_cons, List.length_nil]; omega) | (simp; omega) | (simp; done)) | exact l_sl 1 rfl rfl rfl (by first | rfl | assumption) (by first | rfl | assumption) s_3 (by first | decide | omega | (simp only [List.length_cons, List.length_nil]; omega) | (simp; omega) | (simp; done)) | exact l_sl 2 rfl rfl rfl (by first | rfl | assumption) (by first | rfl | assumption) s_3 (by first | decide | omega | (simp only [List.length_cons, List.length_nil]; omega) | (simp; omega) | (simp; done)) | exact l_sl 3 rfl rfl rfl (by first | rfl | assumption) (by first | rfl | assumption) s_3 (by first | decide | omega | (simp only [List.length_cons, List.length_nil]; omega) | (simp; omega) | (simp; done)) | exact l_sl 4 rfl rfl rfl (by first | rfl | assumption) (by first | rfl | assumption) s_3 (by first | decide | omega | (simp only [List.length_cons, List.length_nil]; omega) | (simp; omega) | (simp; done)) | exact l_sl 5 rfl rfl rfl (by first | rfl | assumption) (by first | rfl | assumption) s_3 (by first | decide | omega | (simp only [List.length_cons, List.length_nil]; omega) | (simp; omega) | (simp; done)) | exact l_sl 6 rfl rfl rfl (by first | rfl | assumption) (by first | rfl | assumption) s_3 (by first | decide | omega | (simp only [List.length_cons, List.length_nil]; omega) | (simp; omega) | (simp; done)) | exact l_sl 7 rfl rfl rfl (by first | rfl | assumption) (by first | rfl | assumption) s_3 (by first | decide | omega | (simp only [List.length_cons, List.length_nil]; omega) | (simp; omega) | (simp; done)) | exact l_sl 8 rfl rfl rfl (by first | rfl | assumption) (by first | rfl | assumption) s_3 (by first | decide | omega | (simp only [List.length_cons, List.length_nil]; omega) | (simp; omega) | (simp; done)))) (fun h => nomatch (show false = true from h)) ?_
    rintro _ _ ⟨rfl, rfl⟩
    refine rd_hp (by (try simp only [List.take_zero, List.take_succ_cons, List.drop_zero, List.drop_succ_cons, List.drop_nil, List.length_cons, List.length_nil, Nat.zero_add, Nat.reduceAdd, List.set_cons_zero, List.set_cons_succ, List.nil_append, List.cons_append, List.append_nil, pick, List.filterMap_cons, List.filterMap_nil, List.getElem?_cons_zero, List.getElem?_cons_succ]); exact rfl) ?_
    refine rd_nil ?_
    refine at_ks [0, 1, 2, 3, 8, 9, 10, 11, 13, 14, 15, 16, 17, 18, 21, 22, 23, 50, 67, 68, 69] (by (try simp only [keep, lk, pd, enumE, Nat.reduceBEq, Nat.reduceAdd, cond_true, cond_false]); exact rfl) ?_
    refine at_inb ?_
    refine at_then ?_
    refine at_region ?_
    refine st_p rfl rfl (p_add (r := 2) rfl rfl (by decide)) ?_
    refine st_p rfl rfl (p_move rfl) ?_
    refine at_nil ?_
    refine at_ks [0, 1, 2, 3, 8, 9, 10, 11, 13, 14, 15, 16, 17, 18, 21, 22, 23, 50, 67, 68, 69] (by (try simp only [keep, lk, pd, enumE, Nat.reduceBEq, Nat.reduceAdd, cond_true, cond_false]); exact rfl) ?_
    refine at_then ?_
    refine at_round ?_
    refine at_seq ?_
    refine at_region ?_
    refine st_p rfl rfl (p_lss rfl rfl) ?_
    refine at_nil ?_
    refine at_ks [0, 1, 2, 3, 8, 9, 10, 11, 13, 14, 15, 16, 17, 18, 21, 22, 23, 50, 67, 68, 69] (by (try simp only [keep, lk, pd, enumE, Nat.reduceBEq, Nat.reduceAdd, cond_true, cond_false]); exact rfl) ?_
    refine at_then ?_
    refine at_seq ?_
    refine at_cond_t rfl ?_
    refine at_skip ?_
    refine at_then ?_
    refine at_seq ?_
    refine at_block ?_
    refine at_seq ?_
    refine at_region ?_
    refine st_p rfl rfl (p_move rfl) ?_
    refine st_p rfl rfl (p_idxA rfl rfl Try.underlying136 r_135 s_135 (by first | decide | omega) (by first | decide | omega) (by first | rfl | assumption)) ?_
    refine st_p rfl rfl (p_assign rfl) ?_
    refine st_p rfl rfl (p_assign rfl) ?_
    refine at_nil ?_
    refine at_ks [0, 1, 2, 3, 8, 9, 10, 11, 13, 14, 15, 16, 17, 18, 21, 22, 23, 50, 67, 68, 69] (by (try simp only [keep, lk, pd, enumE, Nat.reduceBEq, Nat.reduceAdd, cond_true, cond_false]); exact rfl) ?_
    refine at_then ?_
    refine at_drawH [0, 1, 2, 3, 4, 5, 6, 7, 8, 9, 10, 11, 12, 13] [0, 0, 0, 0, 4, 28, 60, 0, 0, 256, 1020, 1, 4095, 8191] [6, 10] [13] mixd (by kernel_rfl) ?_
    refine rd_p rfl rfl rfl rfl rfl (p_move rfl) ?_
    refine rd_p rfl rfl rfl rfl rfl (p_move rfl) ?_
    refine rd_p rfl rfl rfl rfl rfl (p_move rfl) ?_
    refine rd_p rfl rfl rfl rfl rfl (p_move rfl) ?_
    refine rd_p rfl rfl rfl rfl rfl ((by first | exact p_nil rfl | exact p_nilf rfl)) ?_
    refine rd_p rfl rfl rfl rfl rfl (p_iar rfl rfl a_104 (by first | decide | omega) (by first | decide | omega)) ?_
    refine rd_q rfl rfl rfl rfl rfl ((by first | exact q_ob 0 rfl rfl r_3 (by first | rfl | assumption) | exact q_ob 1 rfl rfl r_3 (by first | rfl | assumption) | exact q_ob 2 rfl rfl r_3 (by first | rfl | assumption) | exact q_ob 3 rfl rfl r_3 (by first | rfl | assumption) | exact q_ob 4 rfl rfl r_3 (by first | rfl | assumption) | exact q_ob 5 rfl rfl r_3 (by first | rfl | assumption) | exact q_ob 6 rfl rfl r_3 (by first | rfl | assumption) | exact q_ob 7 rfl rfl r_3 (by first | rfl | assumption) | exact q_ob 8 rfl rfl r_3 (by first | rfl | assumption) | exact q_sl 0 rfl rfl r_3 (by first | rfl | assumption) | exact q_sl 1 rfl rfl r_3 (by first | rfl | assumption) | exact q_sl 2 rfl rfl r_3 (by first | rfl | assumption) | exact q_sl 3 rfl rfl r_3 (by first | rfl | assumption) | exact q_sl 4 rfl rfl r_3 (by first | rfl | assumption) | exact q_sl 5 rfl rfl r_3 (by first | rfl | assumption) | exact q_sl 6 rfl rfl r_3 (by first | rfl | assumption) | exact q_sl 7 rfl rfl r_3 (by first | rfl | assumption) | exact q_sl 8 rfl rfl r_3 (by first | rfl | assumption) | exact q_fr rfl r_3 (by assumption))) (fun _ h => h) ?_
    refine rd_p rfl rfl rfl rfl rfl (p_move rfl) ?_
    refine rd_p rfl rfl rfl rfl rfl (p_move rfl) ?_
    refine rd_p rfl rfl rfl rfl rfl (p_add (r := 6) rfl rfl (by decide)) ?_
    refine rd_q rfl rfl rfl rfl rfl (q_call (first := []) rfl c_82 rfl (fun F1 hF1 hs1 => move_calls _ _ _ F1)) (fun _ h => h) ?_
    refine rd_p rfl rfl rfl rfl rfl ((by first | exact p_nil rfl | exact p_nilf rfl)) ?_
    refine rd_p rfl rfl rfl rfl rfl (p_iar rfl rfl a_104 (by first | decide | omega) (by first | decide | omega)) ?_
    refine rd_l rfl rfl rfl rfl ((by first | exact l_ob 0 rfl rfl rfl (by first | rfl | assumption) (by first | rfl | assumption) s_3 (by first | decide | omega | (simp only [List.length_cons, List.length_nil]; omega) | (simp; omega) | (simp; done)) | exact l_ob 1 rfl rfl rfl (by first | rfl | assumption) (by first | rfl | assumption) s_3 (by first | decide | omega | (simp only [List.length_cons, List.length_nil]; omega) | (simp; omega) | (simp; done)) | exact l_ob 2 rfl rfl rfl (by first | rfl | assumption) (by first | rfl | assumption) s_3 (by first | decide | omega | (simp only [List.length_cons, List.length_nil]; omega) | (simp; omega) | (simp; done)) | exact l_ob 3 rfl rfl rfl (by first | rfl | assumption) (by first | rfl | assumption) s_3 (by first | decide | omega | (simp only [List.length_cons, List.length_nil]; omega) | (simp; omega) | (simp; done)) | exact l_ob 4 rfl rfl rfl (by first | rfl | assumption) (by first | rfl | assumption) s_3 (by first | decide | omega | (simp only [List.length_cons, List.length_nil]; omega) | (simp; omega) | (simp; done)) | exact l_ob 5 rfl rfl rfl (by first | rfl | assumption) (by first | rfl | assumption) s_3 (by first | decide | omega | (simp only [List.length_cons, List.length_nil]; omega) | (simp; omega) | (simp; done)) | exact l_ob 6 rfl rfl rfl (by first | rfl | assumption) (by first | rfl | assumption) s_3 (by first | decide | omega | (simp only [List.length_cons, List.length_nil]; omega) | (simp; omega) | (simp; done)) | exact l_ob 7 rfl rfl rfl (by first | rfl | assumption) (by first | rfl | assumption) s_3 (by first | decide | omega | (simp only [List.length_cons, List.length_nil]; omega) | (simp; omega) | (simp; done)) | exact l_ob 8 rfl rfl rfl (by first | rfl | assumption) (by first | rfl | assumption) s_3 (by first | decide | omega | (simp only [List.length_cons, List.length_nil]; omega) | (simp; omega) | (simp; done)) | exact l_sl 0 rfl rfl rfl (by first | rfl | assumption) (by first | rfl | assumption) s_3 (by first | decide | omega | (simp only [List.length_cons, List.length_nil]; omega) | (simp; omega) | (simp; done)) | exact l_sl 1 rfl rfl rfl (by first | rfl | assumption) (by first | rfl | assumption) s_3 (by first | decide | omega | (simp only [List.length_cons, List.length_nil]; omega) | (simp; omega) | (simp; done)) | exact l_sl 2 rfl rfl rfl (by first | rfl | assumption) (by first | rfl | assumption) s_3 (by first | decide | omega | (simp only [List.length_cons, List.length_nil]; omega) | (simp; omega) | (simp; done)) | exact l_sl 3 rfl rfl rfl (by first | rfl | assumption) (by first | rfl | assumption) s_3 (by first | decide | omega | (simp only [List.length_cons, List.length_nil]; omega) | (simp; omega) | (simp; done)) | exact l_sl 4 rfl rfl rfl (by first | rfl | assumption) (by first | rfl | assumption) s_3 (by first | decide | omega | (simp only [List.length_cons, List.length_nil]; omega) | (simp; omega) | (simp; done)) | exact l_sl 5 rfl rfl rfl (by first | rfl | assumption) (by first | rfl | assumption) s_3 (by first | decide | omega | (simp only [List.length_cons, List.length_nil]; omega) | (simp; omega) | (simp; done)) | exact l_sl 6 rfl rfl rfl (by first | rfl | assumption) (by first | rfl | assumption) s_3 (by first | decide | omega | (simp only [List.length_cons, List.length_nil]; omega) | (simp; omega) | (simp; done)) | exact l_sl 7 rfl rfl rfl (by first | rfl | assumption) (by first | rfl | assumption) s_3 (by first | decide | omega | (simp only [List.length_cons, List.length_nil]; omega) | (simp; omega) | (simp; done)) | exact l_sl 8 rfl rfl rfl (by first | rfl | assumption) (by first | rfl | assumption) s_3 (by first | decide | omega | (simp only [List.length_cons, List.length_nil]; omega) | (simp; omega) | (simp; done)))) (fun h => nomatch (show false = true from h)) ?_
    rintro _ _ ⟨rfl, rfl⟩
    refine rd_hp (by (try simp only [List.take_zero, List.take_succ_cons, List.drop_zero, List.drop_succ_cons, List.drop_nil, List.length_cons, List.length_nil, Nat.zero_add, Nat.reduceAdd, List.set_cons_zero, List.set_cons_succ, List.nil_append, List.cons_append, List.append_nil, pick, List.filterMap_cons, List.filterMap_nil, List.getElem?_cons_zero, List.getElem?_cons_succ]); exact rfl) ?_
    refine rd_nil ?_
    refine at_ks [0, 1, 2, 3, 8, 9, 10, 11, 13, 14, 15, 16, 17, 18, 21, 22, 23, 50, 67, 68, 69] (by (try simp only [keep, lk, pd, enumE, Nat.reduceBEq, Nat.reduceAdd, cond_true, cond_false]); exact rfl) ?_
    refine at_inb ?_
    refine at_then ?_
    refine at_region ?_
    refine st_p rfl rfl (p_add (r := 3) rfl rfl (by decide)) ?_
    refine st_p rfl rfl (p_move rfl) ?_
    refine at_nil ?_
    refine at_ks [0, 1, 2, 3, 8, 9, 10, 11, 13, 14, 15, 16, 17, 18, 21, 22, 23, 50, 67, 68, 69] (by (try simp only [keep, lk, pd, enumE, Nat.reduceBEq, Nat.reduceAdd, cond_true, cond_false]); exact rfl) ?_
    refine at_then ?_
    refine at_round ?_
    refine at_seq ?_
    refine at_region ?_
    refine st_p rfl rfl (p_lss rfl rfl) ?_
    refine at_nil ?_
    refine at_ks [0, 1, 2, 3, 8, 9, 10, 11, 13, 14, 15, 16, 17, 18, 21, 22, 23, 50, 67, 68, 69] (by (try simp only [keep, lk, pd, enumE, Nat.reduceBEq, Nat.reduceAdd, cond_true, cond_false]); exact rfl) ?_
    refine at_then ?_
    refine at_seq ?_
    refine at_cond_f rfl ?_
    refine at_exit ?_
    refine at_then_x ?_
    refine at_then_x ?_
    refine at_inb_exit ?_
    refine at_then ?_
    refine at_seq ?_
    refine at_region ?_
    refine st_p rfl rfl (p_move rfl) ?_
    refine st_p rfl rfl (p_assign rfl) ?_
    refine st_p rfl rfl (p_assign rfl) ?_
    refine at_nil ?_
    refine at_ks [0, 1, 2, 3, 8, 9, 10, 11, 13, 14, 15, 16, 17, 18, 21, 22, 23, 50, 67, 68, 69] (by (try simp only [keep, lk, pd, enumE, Nat.reduceBEq, Nat.reduceAdd, cond_true, cond_false]); exact rfl) ?_
    refine at_then ?_
    refine at_retc ?_
    refine at_dropAt 7 rfl rfl ?_
    refine at_dropAt 2 rfl rfl ?_
    refine at_dropAt 1 rfl rfl ?_
    refine at_perm (List.perm_middle (l₁ := [_, _, _, _])).symm ?_
    exact fin_2 rfl rfl rfl (by
        refine ⟨rfl, .slice (some ⟨gw, 0, none⟩) 3 cA2, HB1, ?_, hs2, ?_, rfl, rfl⟩
        · have q0 : (ints .i64 m.l0).set (((node : Nat) : Int).toNat * 1) (N (mvv (gn m.l0 node) b0 4)) = ints .i64 (m.learn d node (m.chance d node) b0).l0 := by rw [show ((node : Nat) : Int).toNat * 1 = node by omega]; exact List.map_set.symm
          have q1 : (ints .i64 m.l1).set (128 * m.a + ((node : Nat) : Int).toNat * 1) (N (mvv (gn m.l1 (m.p1 node)) b0 5)) = ints .i64 (m.learn d node (m.chance d node) b0).l1 := by rw [e1]; exact List.map_set.symm
          have q2 : (ints .i64 m.l2).set (128 * ((m.a + 2 * m.b) / 3) + ((node : Nat) : Int).toNat * 1) (N (mvv (gn m.l2 (m.p2 node)) b0 6)) = ints .i64 (m.learn d node (m.chance d node) b0).l2 := by rw [e2]; exact List.map_set.symm
          rw [← q0, ← q1, ← q2, learn_wt hm hd, show 3 + d = 3 + ((d : Nat) : Int).toNat * 1 by omega]; rfl
        · rw [learn_wt hm hd]; rfl)

end Go.Proofs.Ytbpbhjnkmonlbaa