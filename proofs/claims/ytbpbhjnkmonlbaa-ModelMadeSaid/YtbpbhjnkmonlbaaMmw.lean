/- So of numbers by numbers, with a byte turned, cut, longer: the walk. No condition. -/
import Derived.Test.YtbpbhjnkmonlbaaAlw
import Derived.Test.YtbpbhjnkmonlbaaSb
namespace Go.Proofs.Ytbpbhjnkmonlbaa
open Go.RowKit Sl
set_option linter.unusedVariables false
set_option linter.unusedSimpArgs false
set_option maxRecDepth 10000
theorem f_29_0 : fldB Try.prog 29 0 = some (0, 9, true) := by kernel_rfl
theorem putGo_k : ∀ (ps : List (Int × Int)) (m : Ms) (c : Cd) (bytes : List Int), putGo ps m c = some (bytes, 0) → bytes.length ≤ c.k + 200 * ps.length
  | [], m, c, bytes, h => by
    simp only [putGo] at h
    obtain ⟨_, h⟩ := (Option.ite_none_right_eq_some).1 h
    simp only [Option.some.injEq, Prod.mk.injEq, and_true] at h
    rw [← h, be_len]; simp
  | (cl, r) :: ps, m, c, bytes, h => by
    simp only [putGo] at h
    split at h
    · split at h
      · cases h
      · rename_i m1 c1 hf
        obtain ⟨hk, h⟩ := (Option.ite_none_right_eq_some).1 h
        have h1 := putGo_k ps _ _ bytes h
        have h2 := dirC_k c1 r.toNat (dirN (cl - 1))
        have h3 := (dirN_in (cl - 1)).2
        have h4 : c1.k ≤ c.k + 14 := by
          unfold forthS at hf
          split at hf
          · cases hf
          · rename_i m2 c2 hg
            simp only [Option.some.injEq, Prod.mk.injEq] at hf
            obtain ⟨rfl, rfl⟩ := hf
            have key : ∀ (bs : List Int) (d node : Nat) (m m' : Ms) (c c' : Cd), forthGo encP bs d node m c = some (m', c') → c'.k ≤ c.k + 2 * bs.length := by
              intro bs
              induction bs with
              | nil => intro d node m m' c c' hh; simp only [forthGo, Option.some.injEq, Prod.mk.injEq] at hh; rw [← hh.2]; simp
              | cons b bs ih =>
                intro d node m m' c c' hh
                simp only [forthGo, encP] at hh
                split at hh
                · cases hh
                · rename_i c1 hc1
                  obtain ⟨_, hc1⟩ := (Option.ite_none_right_eq_some).1 hc1
                  simp only [Option.some.injEq] at hc1
                  subst hc1
                  have := ih _ _ _ _ _ _ hh
                  have := (bitC_k c (m.chance d node) b).2
                  simp only [List.length_cons]; omega
            have := key _ _ _ _ _ _ _ hg
            rw [bitsv_len] at this; exact this
        simp only [List.length_cons]; omega
    · simp at h
theorem back5 {ps : List (Int × Int)} (hp : ∀ p ∈ ps, mayv p.1 p.2 = true ∧ 0 ≤ p.2) (hl : ps.length ≤ 4096) : ∃ bytes, putGo ps ms0 cd0 = some (bytes, 0) ∧ 5 ≤ bytes.length ∧ bytes.length ≤ 3000000 := by
  have hb : ∃ bytes, putGo ps ms0 cd0 = some (bytes, 0) := putGo_some ps ms0 cd0 (fun p hq => (hp p hq).1) (by simp only [cd0]; omega)
  obtain ⟨bytes, h⟩ := hb
  obtain ⟨f, hf, _, rfl, _, hg⟩ := tell_parts ps ms0 cd0 [] bytes (fun p hq => (hp p hq).2) cd0_ok h
  have hk := putGo_k ps ms0 cd0 _ h
  refine ⟨_, h, ?_, ?_⟩
  · rw [be_len]; exact hf.k5
  · simp only [cd0] at hk; omega
theorem numsV_lenM (ns : List Int) : (numsV ns).length = min 60 ns.length := by simp [numsV]
theorem numsV_inM {ns : List Int} {x : Int} (h : x ∈ numsV ns) : -9223372036854775808 ≤ x ∧ x ≤ 9223372036854775807 := by
  obtain ⟨y, _, rfl⟩ := List.mem_map.1 h
  exact numV_in y
theorem splits_okM {V : List Int} (hV : ∀ x ∈ V, -9223372036854775808 ≤ x ∧ x ≤ 9223372036854775807) : ∀ p ∈ V.map splitv, mayv p.1 p.2 = true ∧ 0 ≤ p.2 ∧ p.2 < 18446744073709551616 := by
  intro p hp
  obtain ⟨x, hx, rfl⟩ := List.mem_map.1 hp
  exact split_ok (hV x hx).1 (hV x hx).2
theorem four_get {a b c d : Value} {i : Nat} (h : i < 4) {p : Value → Prop} (ha : p a) (hb : p b) (hc : p c) (hd : p d) : ∃ v, [a, b, c, d][((i : Nat) : Int).toNat]? = some v ∧ p v := by
  rw [Int.toNat_natCast]
  match i, h with
  | 0, _ => exact ⟨a, rfl, ha⟩
  | 1, _ => exact ⟨b, rfl, hb⟩
  | 2, _ => exact ⟨c, rfl, hc⟩
  | 3, _ => exact ⟨d, rfl, hd⟩

set_option maxHeartbeats 1600000 in
theorem mades_calls (A : Option Addr) (n ca : Nat) (ns : List Int) (at_ by_ cut : Int) (F : Frm) (hn : ns.length = n) (hca : n ≤ ca) (h6 : n ≤ 1000000000000000) (h0 : ∀ x ∈ ns, 0 ≤ x ∧ x ≤ 65535) (ha0 : 0 ≤ at_) (ha1 : at_ ≤ 65535) (hb0 : 0 ≤ by_) (hb1 : by_ ≤ 255) (hc0 : 0 ≤ cut) (hc1 : cut ≤ 65535) (hx : FV F A (ints .u16 ns)) :
    SC Try.prog 4 #[.slice A n ca, .int .u16 at_, .int .u8 by_, .int .u16 cut] [] F (fun u H => u = .bool true ∧ H = []) := by
  obtain ⟨l, hl⟩ : ∃ l, l = min n 40 := ⟨_, rfl⟩
  have hl40 : l ≤ 40 := by omega
  have htl : (ns.take l).length = l := by rw [List.length_take]; omega
  obtain ⟨V, hV⟩ : ∃ V, V = numsV (ns.take l) := ⟨_, rfl⟩
  have hVl : V.length = l := by rw [hV, numsV_lenM, htl]; omega
  have hVi : ∀ x ∈ V, -9223372036854775808 ≤ x ∧ x ≤ 9223372036854775807 := fun x hx => numsV_inM (hV ▸ hx)
  have hpl : (V.map splitv).length = l := by rw [List.length_map, hVl]
  have hpo := splits_okM hVi
  obtain ⟨bx, hbx, hb5, hb6⟩ := back5 (ps := V.map splitv) (fun p hp => ⟨(hpo p hp).1, (hpo p hp).2.1⟩) (by omega)
  obtain ⟨Z0, hZ0⟩ : ∃ Z, Z = strOfNums bx := ⟨_, rfl⟩
  have hz : Z0.size = bx.length := by rw [hZ0, strOfNums_size]
  obtain ⟨j, hj⟩ : ∃ j : Nat, at_.tmod (Z0.size : Int) = (j : Int) := ⟨(at_.tmod (Z0.size : Int)).toNat, by rw [Int.tmod_eq_emod_of_nonneg ha0]; have := Int.emod_nonneg at_ (show (Z0.size : Int) ≠ 0 by omega); omega⟩
  have hjl : j < Z0.size := by rw [Int.tmod_eq_emod_of_nonneg ha0] at hj; have := Int.emod_lt_of_pos at_ (show 0 < (Z0.size : Int) by omega); omega
  obtain ⟨q, hq⟩ : ∃ q : Nat, cut.tmod (Z0.size : Int) = (q : Int) := ⟨(cut.tmod (Z0.size : Int)).toNat, by rw [Int.tmod_eq_emod_of_nonneg hc0]; have := Int.emod_nonneg cut (show (Z0.size : Int) ≠ 0 by omega); omega⟩
  have hql : q < Z0.size := by rw [Int.tmod_eq_emod_of_nonneg hc0] at hq; have := Int.emod_lt_of_pos cut (show 0 < (Z0.size : Int) by omega); omega
  obtain ⟨xv, hxv⟩ : ∃ r, IntKind.u8.wrap ↑((gi (bytesV Z0) (j : Int) % 2 ^ IntKind.u8.bits).toNat ^^^ (by_ % 2 ^ IntKind.u8.bits).toNat) = r := ⟨_, rfl⟩
  have hB := bytesV_len Z0
  refine sc_in (args := [.slice A n ca, .int .u16 at_, .int .u8 by_, .int .u16 cut]) Try.func4 rfl rfl (Nat.le_of_ble_eq_true rfl) ?_
  refine at_ks [0, 1, 2, 3, 8, 9, 10, 11, 12, 13, 14, 15, 16, 17, 18, 45, 73, 77, 112] (by (try simp only [keep, lk, pd, enumE, Nat.reduceBEq, Nat.reduceAdd, cond_true, cond_false]); exact rfl) ?_
  refine at_seq ?_
  refine at_region ?_
  refine st_p rfl rfl (p_assign rfl) ?_
  refine at_nil ?_
  refine at_ks [0, 1, 2, 3, 8, 9, 10, 11, 12, 13, 14, 15, 16, 17, 18, 45, 73, 77, 112] (by (try simp only [keep, lk, pd, enumE, Nat.reduceBEq, Nat.reduceAdd, cond_true, cond_false]); exact rfl) ?_
  refine at_then ?_
  refine at_seq ?_
  refine at_region ?_
  refine st_p rfl rfl (p_move rfl) ?_
  refine st_p rfl rfl (p_move rfl) ?_
  refine st_p rfl rfl (p_len rfl m_41) ?_
  refine st_p rfl rfl (p_min (r := (l : Int)) rfl rfl (by split <;> omega)) ?_
  refine st_p rfl rfl (p_sliceH rfl rfl z_41 (by omega) (by omega)) ?_
  rw [Int.toNat_natCast l]
  refine st_l rfl rfl (l_callP (first := []) (H1 := []) (H2 := _) (List.Perm.refl _) rfl c_21 rfl (fun F1 hF1 hs1 => (by have := (numbers_calls _ l ca (ns.take l) F1 htl (by omega) (fun x hx => h0 x (List.mem_of_mem_take hx)) (by have h := (hx.mono hF1).take l; rw [← List.map_take] at h; exact h.sliceH (c := ca))).shape; rw [← hV, show min 60 l = l by omega] at this; exact this))) ?_
  rintro _ _ ⟨_, ⟨An, cn, rfl, hcn, hAn, rfl⟩, rfl⟩
  refine at_hp (by (try simp only [List.take_zero, List.take_succ_cons, List.drop_zero, List.drop_succ_cons, List.drop_nil, List.length_cons, List.length_nil, Nat.zero_add, Nat.reduceAdd, List.set_cons_zero, List.set_cons_succ, List.nil_append, List.cons_append, List.append_nil, pick, List.filterMap_cons, List.filterMap_nil, List.getElem?_cons_zero, List.getElem?_cons_succ]); exact rfl) ?_
  refine st_l rfl rfl (l_callP (first := []) (H1 := []) (H2 := _) (List.Perm.refl _) rfl c_20 rfl (fun F1 hF1 hs1 => (parts_calls An l cn V F1 hVl (by omega) hVi (fv_slice (hs1 _ (List.mem_of_getElem? (i := 0) rfl)))).shape)) ?_
  rintro _ _ ⟨_, ⟨Ap, cp, rfl, hcp, hAp, rfl⟩, rfl⟩
  refine at_hp (by (try simp only [List.take_zero, List.take_succ_cons, List.drop_zero, List.drop_succ_cons, List.drop_nil, List.length_cons, List.length_nil, Nat.zero_add, Nat.reduceAdd, List.set_cons_zero, List.set_cons_succ, List.nil_append, List.cons_append, List.append_nil, pick, List.filterMap_cons, List.filterMap_nil, List.getElem?_cons_zero, List.getElem?_cons_succ]); exact rfl) ?_
  refine st_p rfl rfl (p_assign rfl) ?_
  refine at_nil ?_
  refine at_ks [0, 1, 2, 3, 8, 9, 10, 11, 12, 13, 14, 15, 16, 17, 18, 45, 73, 77, 112] (by (try simp only [keep, lk, pd, enumE, Nat.reduceBEq, Nat.reduceAdd, cond_true, cond_false]); exact rfl) ?_
  refine at_then ?_
  refine at_seq ?_
  refine at_region ?_
  refine st_p rfl rfl (p_move rfl) ?_
  refine st_l rfl rfl (l_callP (first := []) (H1 := []) (H2 := _) (List.Perm.refl _) rfl c_11 rfl (fun F1 hF1 hs1 => put_calls _ l _ (V.map splitv) (bx, 0) F1 hpl (by omega) (fun p hp => (hpo p hp).2) (fv_slice (hs1 _ (List.mem_of_getElem? (i := 0) rfl))) hbx)) ?_
  rintro _ _ ⟨_, ⟨rfl, rfl⟩, rfl⟩
  refine at_hp (by (try simp only [List.take_zero, List.take_succ_cons, List.drop_zero, List.drop_succ_cons, List.drop_nil, List.length_cons, List.length_nil, Nat.zero_add, Nat.reduceAdd, List.set_cons_zero, List.set_cons_succ, List.nil_append, List.cons_append, List.append_nil, pick, List.filterMap_cons, List.filterMap_nil, List.getElem?_cons_zero, List.getElem?_cons_succ]); exact rfl) ?_
  refine st_p rfl rfl (p_move rfl) ?_
  refine st_p rfl rfl (p_ext rfl rfl) ?_
  refine st_p rfl rfl (p_ext rfl rfl) ?_
  refine st_p rfl rfl (p_assign rfl) ?_
  refine st_p rfl rfl (p_assign rfl) ?_
  refine at_nil ?_
  refine at_ks [0, 1, 2, 3, 8, 9, 10, 11, 12, 13, 14, 15, 16, 17, 18, 45, 73, 77, 112] (by (try simp only [keep, lk, pd, enumE, Nat.reduceBEq, Nat.reduceAdd, cond_true, cond_false]); exact rfl) ?_
  refine at_then ?_
  refine at_seq ?_
  refine at_seq ?_
  rw [← hZ0]
  refine at_region ?_
  refine st_p rfl rfl (p_move rfl) ?_
  refine st_p rfl rfl (p_move rfl) ?_
  refine st_l rfl rfl (l_callP (first := []) (H1 := []) (H2 := _) (List.Perm.refl _) rfl c_12 rfl (fun F1 hF1 hs1 => rput_calls _ l _ (V.map splitv) (bx, 0) F1 hpl (by omega) (fun p hp => (hpo p hp).2) (fv_slice (hs1 _ (List.mem_of_getElem? (i := 0) rfl))) hbx)) ?_
  rintro _ _ ⟨_, ⟨rfl, rfl⟩, rfl⟩
  refine at_hp (by (try simp only [List.take_zero, List.take_succ_cons, List.drop_zero, List.drop_succ_cons, List.drop_nil, List.length_cons, List.length_nil, Nat.zero_add, Nat.reduceAdd, List.set_cons_zero, List.set_cons_succ, List.nil_append, List.cons_append, List.append_nil, pick, List.filterMap_cons, List.filterMap_nil, List.getElem?_cons_zero, List.getElem?_cons_succ]); exact rfl) ?_
  refine st_p rfl rfl (p_fld rfl f_29_0 rfl) ?_
  refine st_p rfl rfl (p_isF (p_nes rfl rfl) (by simp [hZ0])) ?_
  refine st_p rfl rfl (p_move rfl) ?_
  refine sg_p rfl rfl (p_move rfl) ?_
  refine sg_q rfl rfl (q_call (first := []) rfl c_18 rfl (fun F1 hF1 hs1 => err_calls _ F1)) ?_
  refine sg_p rfl rfl (p_isF (p_neq rfl rfl) (by simp)) ?_
  refine st_p rfl rfl ((by first | exact p_pick_t rfl rfl | exact p_pick_f rfl rfl)) ?_
  refine st_p rfl rfl (p_move rfl) ?_
  refine sg_p rfl rfl (p_move rfl) ?_
  refine sg_p rfl rfl (p_lens rfl Try.underlying9) ?_
  refine sg_p rfl rfl (p_isF (p_lss rfl rfl) (decide_eq_false (by omega))) ?_
  refine st_p rfl rfl ((by first | exact p_pick_t rfl rfl | exact p_pick_f rfl rfl)) ?_
  refine at_nil ?_
  refine at_ks [0, 1, 2, 3, 8, 9, 10, 11, 12, 13, 14, 15, 16, 17, 18, 45, 73, 77, 112] (by (try simp only [keep, lk, pd, enumE, Nat.reduceBEq, Nat.reduceAdd, cond_true, cond_false]); exact rfl) ?_
  refine at_then ?_
  refine at_cond_f rfl ?_
  refine at_skip ?_
  refine at_then ?_
  refine at_seq ?_
  refine at_region ?_
  refine st_p rfl rfl (p_move rfl) ?_
  refine st_l rfl rfl (l_bytes rfl Try.underlying9 Try.underlying46 Try.underlying5) ?_
  rintro _ _ ⟨b47, c47, k47, rfl, rfl⟩
  refine at_hp (by (try simp only [List.take_zero, List.take_succ_cons, List.drop_zero, List.drop_succ_cons, List.drop_nil, List.length_cons, List.length_nil, Nat.zero_add, Nat.reduceAdd, List.set_cons_zero, List.set_cons_succ, List.nil_append, List.cons_append, List.append_nil, pick, List.filterMap_cons, List.filterMap_nil, List.getElem?_cons_zero, List.getElem?_cons_succ]); exact rfl) ?_
  refine st_p rfl rfl (p_assign rfl) ?_
  refine at_nil ?_
  refine at_ks [0, 1, 2, 3, 8, 9, 10, 11, 12, 13, 14, 15, 16, 17, 18, 45, 73, 77, 112] (by (try simp only [keep, lk, pd, enumE, Nat.reduceBEq, Nat.reduceAdd, cond_true, cond_false]); exact rfl) ?_
  refine at_then ?_
  refine at_seq ?_
  have hget : (ints .u8 (bytesV Z0) ++ List.replicate k47 (.int .u8 0))[((j : Nat) : Int).toNat]? = some (.int .u8 (gi (bytesV Z0) (j : Int))) := by
    rw [Int.toNat_natCast, List.getElem?_append_left (by rw [List.length_map, hB]; exact hjl), ← Int.toNat_natCast j]
    exact ints_get (by omega) (by rw [hB]; omega)
  have hcs : ∀ y, y < Z0.size → (ints .u8 ((bytesV Z0).set j xv) ++ List.replicate k47 (.int .u8 0))[y]? = some (.int .u8 (((bytesV Z0).set j xv).getD y 0)) := fun y hy => by
    rw [List.getElem?_append_left (by rw [List.length_map, List.length_set, hB]; exact hy), List.getElem?_map, List.getD_eq_getElem?_getD, List.getElem?_eq_getElem (by rw [List.length_set, hB]; exact hy)]; rfl
  refine at_region ?_
  refine st_p rfl rfl (p_move rfl) ?_
  refine st_p rfl rfl (p_move rfl) ?_
  refine st_p rfl rfl (p_conv rfl Try.underlying42 Try.underlying3 (by first | exact nw64 (by omega) | exact nwu64 (by omega) | exact nwu8 (by omega) | exact nwu16 (by omega) | exact wu64 _ | exact wu8 _ | exact wi64 _ | rfl)) ?_
  refine st_p rfl rfl (p_move rfl) ?_
  refine st_p rfl rfl (p_len rfl m_46) ?_
  refine st_p rfl rfl (p_rem (r := (j : Int)) rfl rfl (by omega) hj) ?_
  refine st_p rfl rfl (p_ia1 rfl rfl z_46 (by omega) (by omega)) ?_
  refine st_q rfl rfl (q_pr 0 rfl rfl r_5 hget) ?_
  refine st_p rfl rfl (p_move rfl) ?_
  refine st_p rfl rfl (p_xor rfl rfl hxv) ?_
  refine st_p rfl rfl (p_ia1 rfl rfl z_46 (by omega) (by omega)) ?_
  refine st_l rfl rfl (l_pr 0 rfl rfl rfl rfl rfl s_5 (by rw [List.length_append, List.length_map, hB]; omega)) ?_
  rintro _ _ ⟨rfl, rfl⟩
  refine at_hp (by (try simp only [List.take_zero, List.take_succ_cons, List.drop_zero, List.drop_succ_cons, List.drop_nil, List.length_cons, List.length_nil, Nat.zero_add, Nat.reduceAdd, List.set_cons_zero, List.set_cons_succ, List.nil_append, List.cons_append, List.append_nil, pick, List.filterMap_cons, List.filterMap_nil, List.getElem?_cons_zero, List.getElem?_cons_succ]); exact rfl) ?_
  rw [Int.toNat_natCast, List.set_append_left _ _ (by rw [List.length_map, hB]; exact hjl), ← List.map_set]
  refine at_nil ?_
  refine at_ks [0, 1, 2, 3, 8, 9, 10, 11, 12, 13, 14, 15, 16, 17, 18, 45, 73, 77, 112] (by (try simp only [keep, lk, pd, enumE, Nat.reduceBEq, Nat.reduceAdd, cond_true, cond_false]); exact rfl) ?_
  refine at_then ?_
  refine at_seq ?_
  refine at_drawH [0, 1, 2, 3, 4, 5, 6, 7, 8, 9, 10, 11, 12, 13] [0, 0, 2, 0, 0, 16, 0, 64, 240, 504, 0, 1024, 4095, 8191] [2] [12] mixd (by kernel_rfl) ?_
  refine rd_p rfl rfl rfl rfl rfl (p_move rfl) ?_
  refine rd_p rfl rfl rfl rfl rfl (p_move rfl) ?_
  refine rd_q rfl rfl rfl rfl rfl (q_strP (xs := (bytesV Z0).set j xv) 0 rfl rfl (by rw [List.length_set, hB]) hcs Try.underlying46 Try.underlying5 Try.underlying9) (fun _ h => h) ?_
  refine rd_p rfl rfl rfl rfl rfl (p_move rfl) ?_
  refine rd_p rfl rfl rfl rfl rfl (p_move rfl) ?_
  refine rd_p rfl rfl rfl rfl rfl (p_conv rfl Try.underlying42 Try.underlying3 (by first | exact nw64 (by omega) | exact nwu64 (by omega) | exact nwu8 (by omega) | exact nwu16 (by omega) | exact wu64 _ | exact wu8 _ | exact wi64 _ | rfl)) ?_
  refine rd_p rfl rfl rfl rfl rfl (p_move rfl) ?_
  refine rd_p rfl rfl rfl rfl rfl (p_lens rfl Try.underlying9) ?_
  refine rd_p rfl rfl rfl rfl rfl (p_rem (r := (q : Int)) rfl rfl (by omega) hq) ?_
  refine rd_p rfl rfl rfl rfl rfl (p_cutH rfl rfl Try.underlying9 (by omega) (by omega)) ?_
  refine rd_p rfl rfl rfl rfl rfl (p_move rfl) ?_
  refine rd_p rfl rfl rfl rfl rfl (p_adds rfl rfl (by have : ("\x00".toUTF8).size = 1 := rfl; first | omega | (simp; omega) | (show _ + 1 ≤ _; omega))) ?_
  refine rd_l rfl rfl rfl rfl (l_bsV [_, _, _, _] [_, _, _, _] rfl e_47 (by decide) (by decide) rfl (by simp [Value.cells]) rfl) (fun h => nomatch (show false = true from h)) ?_
  rintro _ _ ⟨b71, rfl, rfl⟩
  refine rd_hp (by (try simp only [List.take_zero, List.take_succ_cons, List.drop_zero, List.drop_succ_cons, List.drop_nil, List.length_cons, List.length_nil, Nat.zero_add, Nat.reduceAdd, List.set_cons_zero, List.set_cons_succ, List.nil_append, List.cons_append, List.append_nil, pick, List.filterMap_cons, List.filterMap_nil, List.getElem?_cons_zero, List.getElem?_cons_succ]); exact rfl) ?_
  refine rd_p rfl rfl rfl rfl rfl (p_assign rfl) ?_
  refine rd_nil ?_
  refine at_ks [0, 1, 2, 3, 8, 9, 10, 11, 12, 13, 14, 15, 16, 17, 18, 45, 73, 77, 112] (by (try simp only [keep, lk, pd, enumE, Nat.reduceBEq, Nat.reduceAdd, cond_true, cond_false]); exact rfl) ?_
  refine at_then ?_
  refine at_seq ?_
  refine at_seq ?_
  generalize hcs47 : (ints .u8 ((bytesV Z0).set j xv) ++ List.replicate k47 (.int .u8 0)) = cs47
  generalize strOfNums ((bytesV Z0).set j xv) = Z1
  generalize Z0.extract 0 ((q : Nat) : Int).toNat = Z2
  generalize hZ3 : Z0 ++ _ = Z3
  refine at_region ?_
  refine st_p rfl rfl (p_assign rfl) ?_
  refine at_nil ?_
  refine at_ks [0, 1, 2, 3, 8, 9, 10, 11, 12, 13, 14, 15, 16, 17, 18, 45, 73, 77, 112] (by (try simp only [keep, lk, pd, enumE, Nat.reduceBEq, Nat.reduceAdd, cond_true, cond_false]); exact rfl) ?_
  refine at_then ?_
  refine at_block ?_
  refine at_ks [9, 13, 14] (by (try simp only [keep, lk, pd, enumE, Nat.reduceBEq, Nat.reduceAdd, cond_true, cond_false]); exact rfl) ?_
  refine at_loop (fun k0 E H => ∃ i : Nat, E = [(9, .slice Ap l cp), (13, .slice (some ⟨b71, 0, none⟩) 4 4), (14, N (i : Int))] ∧ H = [.sl (.slice (some ⟨b71, 0, none⟩) 4 4) 9 1 4 [.string Z0, .string Z1, .string Z2, .string Z3], .pr b47 cs47 5, .sl (.slice Ap l cp) 54 2 l (pcells (V.map splitv)), .sl (.slice An l cn) 2 1 l (ints .i64 V)] ∧ i ≤ 4 ∧ k0 + i = 5) (5) (⟨0, rfl, rfl, by omega, by omega⟩) ?_
  rintro k0 _ _ ⟨i, rfl, rfl, hi, hk0⟩
  refine at_seq ?_
  refine at_seq ?_
  refine at_region ?_
  refine st_p rfl rfl (p_move rfl) ?_
  refine st_p rfl rfl (p_lss rfl rfl) ?_
  refine at_nil ?_
  refine at_ks [0, 1, 2, 3, 8, 9, 10, 11, 12, 13, 14, 15, 16, 17, 18, 45, 73, 77, 112] (by (try simp only [keep, lk, pd, enumE, Nat.reduceBEq, Nat.reduceAdd, cond_true, cond_false]); exact rfl) ?_
  refine at_then ?_
  refine at_cond rfl (fun ht73 => ?_) (fun ht73 => ?_)
  · (try simp only [decide_eq_true_eq, decide_eq_false_iff_not, Bool.not_eq_true', Bool.not_eq_false', Bool.not_true, Bool.not_false, Bool.or_eq_true, Bool.and_eq_true, Int.not_lt, Int.not_le] at ht73)
    obtain ⟨_, hZ, Z, rfl⟩ := four_get (a := .string Z0) (b := .string Z1) (c := .string Z2) (d := .string Z3) (i := i) (by omega) (p := fun v => ∃ Z, v = .string Z) ⟨_, rfl⟩ ⟨_, rfl⟩ ⟨_, rfl⟩ ⟨_, rfl⟩
    refine at_skip ?_
    refine at_then ?_
    refine at_seq ?_
    refine at_block ?_
    refine at_seq ?_
    refine at_region ?_
    refine st_p rfl rfl (p_assign rfl) ?_
    refine at_nil ?_
    refine at_ks [0, 1, 2, 3, 8, 9, 10, 11, 12, 13, 14, 15, 16, 17, 18, 45, 73, 77, 112] (by (try simp only [keep, lk, pd, enumE, Nat.reduceBEq, Nat.reduceAdd, cond_true, cond_false]); exact rfl) ?_
    refine at_then ?_
    refine at_block ?_
    refine at_ks [9, 13, 14, 15] (by (try simp only [keep, lk, pd, enumE, Nat.reduceBEq, Nat.reduceAdd, cond_true, cond_false]); exact rfl) ?_
    refine at_loop (fun k1 E H => ∃ k : Nat, E = [(9, .slice Ap l cp), (13, .slice (some ⟨b71, 0, none⟩) 4 4), (14, N (i : Int)), (15, N ((k : Int) - 1))] ∧ H = [.sl (.slice (some ⟨b71, 0, none⟩) 4 4) 9 1 4 [.string Z0, .string Z1, .string Z2, .string Z3], .pr b47 cs47 5, .sl (.slice Ap l cp) 54 2 l (pcells (V.map splitv)), .sl (.slice An l cn) 2 1 l (ints .i64 V)] ∧ k ≤ 3 ∧ k1 + k = 4) (4) (⟨0, rfl, rfl, by omega, by omega⟩) ?_
    rintro k1 _ _ ⟨k, rfl, rfl, hk, hk1⟩
    refine at_seq ?_
    refine at_seq ?_
    refine at_region ?_
    refine st_p rfl rfl (p_move rfl) ?_
    refine st_p rfl rfl (p_lss rfl rfl) ?_
    refine at_nil ?_
    refine at_ks [0, 1, 2, 3, 8, 9, 10, 11, 12, 13, 14, 15, 16, 17, 18, 45, 73, 77, 112] (by (try simp only [keep, lk, pd, enumE, Nat.reduceBEq, Nat.reduceAdd, cond_true, cond_false]); exact rfl) ?_
    refine at_then ?_
    refine at_cond rfl (fun ht77 => ?_) (fun ht77 => ?_)
    · (try simp only [decide_eq_true_eq, decide_eq_false_iff_not, Bool.not_eq_true', Bool.not_eq_false', Bool.not_true, Bool.not_false, Bool.or_eq_true, Bool.and_eq_true, Int.not_lt, Int.not_le] at ht77)
      obtain ⟨rg, hrg, hgl⟩ := getS_ex Z ((l : Int) + (k : Int) - 1) (by omega)
      refine at_skip ?_
      refine at_then ?_
      refine at_seq ?_
      refine at_block ?_
      refine at_seq ?_
      refine at_region ?_
      refine st_p rfl rfl (p_move rfl) ?_
      refine st_p rfl rfl (p_move rfl) ?_
      refine st_p rfl rfl (p_ia1 rfl rfl z_47 (by omega) (by omega)) ?_
      refine st_q rfl rfl (q_sl 0 rfl rfl r_9 hZ) ?_
      refine st_p rfl rfl (p_move rfl) ?_
      refine st_p rfl rfl (p_len rfl m_23) ?_
      refine st_p rfl rfl (p_move rfl) ?_
      refine st_p rfl rfl (p_add (r := (l : Int) + (k : Int) - 1) rfl rfl ((nw64 (by omega)).trans (by omega))) ?_
      refine st_l rfl rfl (l_callP (first := []) (H1 := []) (H2 := _) (List.Perm.refl _) rfl c_13 rfl (fun F1 hF1 hs1 => get_calls Z ((l : Int) + (k : Int) - 1) rg F1 hrg)) ?_
      rintro _ _ ⟨_, ⟨vg, rfl, rfl⟩, rfl⟩
      refine at_hp (by (try simp only [List.take_zero, List.take_succ_cons, List.drop_zero, List.drop_succ_cons, List.drop_nil, List.length_cons, List.length_nil, Nat.zero_add, Nat.reduceAdd, List.set_cons_zero, List.set_cons_succ, List.nil_append, List.cons_append, List.append_nil, pick, List.filterMap_cons, List.filterMap_nil, List.getElem?_cons_zero, List.getElem?_cons_succ]); exact rfl) ?_
      refine st_p rfl rfl (p_move rfl) ?_
      refine st_p rfl rfl (p_ext rfl rfl) ?_
      refine st_p rfl rfl (p_ext rfl rfl) ?_
      refine st_p rfl rfl (p_assign rfl) ?_
      refine st_p rfl rfl (p_assign rfl) ?_
      refine at_nil ?_
      refine at_ks [0, 1, 2, 3, 8, 9, 10, 11, 12, 13, 14, 15, 16, 17, 18, 45, 73, 77, 112] (by (try simp only [keep, lk, pd, enumE, Nat.reduceBEq, Nat.reduceAdd, cond_true, cond_false]); exact rfl) ?_
      refine at_then ?_
      refine at_seq ?_
      refine at_region ?_
      refine st_p rfl rfl (p_move rfl) ?_
      refine st_p rfl rfl (p_move rfl) ?_
      refine st_p rfl rfl (p_ia1 rfl rfl z_47 (by omega) (by omega)) ?_
      refine st_q rfl rfl (q_sl 1 rfl rfl r_9 hZ) ?_
      refine st_p rfl rfl (p_move rfl) ?_
      refine st_p rfl rfl (p_len rfl m_23) ?_
      refine st_p rfl rfl (p_move rfl) ?_
      refine st_p rfl rfl (p_add (r := (l : Int) + (k : Int) - 1) rfl rfl ((nw64 (by omega)).trans (by omega))) ?_
      refine st_l rfl rfl (l_callP (first := []) (H1 := []) (H2 := _) (List.Perm.refl _) rfl c_14 rfl (fun F1 hF1 hs1 => rget_calls Z ((l : Int) + (k : Int) - 1) rg F1 hrg)) ?_
      rintro _ _ ⟨_, ⟨vr, rfl, rfl⟩, rfl⟩
      refine at_hp (by (try simp only [List.take_zero, List.take_succ_cons, List.drop_zero, List.drop_succ_cons, List.drop_nil, List.length_cons, List.length_nil, Nat.zero_add, Nat.reduceAdd, List.set_cons_zero, List.set_cons_succ, List.nil_append, List.cons_append, List.append_nil, pick, List.filterMap_cons, List.filterMap_nil, List.getElem?_cons_zero, List.getElem?_cons_succ]); exact rfl) ?_
      refine at_shapeM 0 rfl fun Ar cr hv _ _ _ => ?_
      subst hv
      refine st_l rfl rfl (l_alloc _ y_34) ?_
      rintro _ _ ⟨b18, rfl, rfl⟩
      refine at_hp (by (try simp only [List.take_zero, List.take_succ_cons, List.drop_zero, List.drop_succ_cons, List.drop_nil, List.length_cons, List.length_nil, Nat.zero_add, Nat.reduceAdd, List.set_cons_zero, List.set_cons_succ, List.nil_append, List.cons_append, List.append_nil, pick, List.filterMap_cons, List.filterMap_nil, List.getElem?_cons_zero, List.getElem?_cons_succ]); exact rfl) ?_
      refine st_l rfl rfl (l_obN (us := [.slice Ar rg.1.length cr, N rg.2]) 0 rfl rfl rfl (by simp [Value.oneCell']) s_34 (by simp)) ?_
      rintro _ _ ⟨rfl, rfl⟩
      refine at_hp (by (try simp only [List.take_zero, List.take_succ_cons, List.drop_zero, List.drop_succ_cons, List.drop_nil, List.length_cons, List.length_nil, Nat.zero_add, Nat.reduceAdd, List.set_cons_zero, List.set_cons_succ, List.nil_append, List.cons_append, List.append_nil, pick, List.filterMap_cons, List.filterMap_nil, List.getElem?_cons_zero, List.getElem?_cons_succ]); exact rfl) ?_
      refine at_nil ?_
      refine at_ks [0, 1, 2, 3, 8, 9, 10, 11, 12, 13, 14, 15, 16, 17, 18, 45, 73, 77, 112] (by (try simp only [keep, lk, pd, enumE, Nat.reduceBEq, Nat.reduceAdd, cond_true, cond_false]); exact rfl) ?_
      refine at_then ?_
      refine at_seq ?_
      refine at_shapeM 2 rfl fun Ag cg hv _ _ _ => ?_
      subst hv
      refine at_drawH [0, 1, 2, 3, 4, 5, 6, 7, 8, 9, 10, 11] [0, 0, 2, 7, 15, 31, 63, 127, 63, 319, 1023, 2047] [2, 3, 7, 9] [] mixd (by kernel_rfl) ?_
      refine rd_p rfl rfl rfl rfl rfl (p_move rfl) ?_
      refine rd_p rfl rfl rfl rfl rfl ((by first | exact p_fa0 rfl o_34_0 | exact p_fa rfl o_34_0)) ?_
      refine rd_q rfl rfl rfl rfl rfl ((by first | exact q_ob 0 rfl rfl r_23 (by first | rfl | assumption) | exact q_ob 1 rfl rfl r_23 (by first | rfl | assumption) | exact q_ob 2 rfl rfl r_23 (by first | rfl | assumption) | exact q_ob 3 rfl rfl r_23 (by first | rfl | assumption) | exact q_ob 4 rfl rfl r_23 (by first | rfl | assumption) | exact q_sl 0 rfl rfl r_23 (by first | rfl | assumption) | exact q_sl 1 rfl rfl r_23 (by first | rfl | assumption) | exact q_sl 2 rfl rfl r_23 (by first | rfl | assumption) | exact q_sl 3 rfl rfl r_23 (by first | rfl | assumption) | exact q_sl 4 rfl rfl r_23 (by first | rfl | assumption) | exact q_fr rfl r_23 (by assumption))) (fun _ h => h) ?_
      refine rd_q rfl rfl rfl rfl rfl (q_call (first := []) rfl c_19 rfl (fun F1 hF1 hs1 => Go.Proofs.Ytbpbhjnkmonlbaa.SC.sameP (sameParts_calls Ag Ar rg.1.length rg.1.length cg cr rg.1 rg.1 F1 rfl rfl (by omega) (fv_slice (hs1 _ (List.mem_of_getElem? (i := 2) rfl))) (fv_slice (hs1 _ (List.mem_of_getElem? (i := 1) rfl)))))) (fun _ h => h) ?_
      refine rd_p rfl rfl rfl rfl rfl (p_not rfl) ?_
      refine rd_p rfl rfl rfl rfl rfl (p_move rfl) ?_
      refine rd_p rfl rfl rfl rfl rfl (p_move rfl) ?_
      refine rd_q rfl rfl rfl rfl rfl (q_call (first := []) rfl c_18 rfl (fun F1 hF1 hs1 => err_calls _ F1)) (fun _ h => h) ?_
      refine rd_p rfl rfl rfl rfl rfl ((by first | exact p_fa0 rfl o_34_1 | exact p_fa rfl o_34_1)) ?_
      refine rd_q rfl rfl rfl rfl rfl ((by first | exact q_ob 0 rfl rfl r_3 (by first | rfl | assumption) | exact q_ob 1 rfl rfl r_3 (by first | rfl | assumption) | exact q_ob 2 rfl rfl r_3 (by first | rfl | assumption) | exact q_ob 3 rfl rfl r_3 (by first | rfl | assumption) | exact q_ob 4 rfl rfl r_3 (by first | rfl | assumption) | exact q_sl 0 rfl rfl r_3 (by first | rfl | assumption) | exact q_sl 1 rfl rfl r_3 (by first | rfl | assumption) | exact q_sl 2 rfl rfl r_3 (by first | rfl | assumption) | exact q_sl 3 rfl rfl r_3 (by first | rfl | assumption) | exact q_sl 4 rfl rfl r_3 (by first | rfl | assumption) | exact q_fr rfl r_3 (by assumption))) (fun _ h => h) ?_
      refine rd_p rfl rfl rfl rfl rfl (p_isF (p_neq rfl rfl) (by simp)) ?_
      refine rd_p rfl rfl rfl rfl rfl ((by first | exact p_pick_t rfl rfl | exact p_pick_f rfl rfl)) ?_
      refine rd_nil ?_
      refine at_ks [0, 1, 2, 3, 8, 9, 10, 11, 12, 13, 14, 15, 16, 17, 18, 45, 73, 77, 112] (by (try simp only [keep, lk, pd, enumE, Nat.reduceBEq, Nat.reduceAdd, cond_true, cond_false]); exact rfl) ?_
      refine at_then ?_
      refine at_cond_f rfl ?_
      refine at_skip ?_
      refine at_inb ?_
      refine at_then ?_
      refine at_region ?_
      refine st_p rfl rfl (p_move rfl) ?_
      refine st_p rfl rfl (p_add (r := ((k + 1 : Nat) : Int) - 1) rfl rfl ((nw64 (by omega)).trans (by omega))) ?_
      refine st_p rfl rfl (p_assign rfl) ?_
      refine at_nil ?_
      refine at_ks [0, 1, 2, 3, 8, 9, 10, 11, 12, 13, 14, 15, 16, 17, 18, 45, 73, 77, 112] (by (try simp only [keep, lk, pd, enumE, Nat.reduceBEq, Nat.reduceAdd, cond_true, cond_false]); exact rfl) ?_
      refine at_ks [9, 13, 14, 15] (by (try simp only [keep, lk, pd, enumE, Nat.reduceBEq, Nat.reduceAdd, cond_true, cond_false]); exact rfl) ?_
      refine at_dropAt 0 rfl rfl ?_
      refine at_dropAt 0 rfl rfl ?_
      refine at_dropAt 0 rfl rfl ?_
      refine at_back (k1 - 1) (by omega) ⟨k + 1, rfl, rfl, by omega, by omega⟩
    · (try simp only [decide_eq_true_eq, decide_eq_false_iff_not, Bool.not_eq_true', Bool.not_eq_false', Bool.not_true, Bool.not_false, Bool.or_eq_true, Bool.and_eq_true, Int.not_lt, Int.not_le] at ht77)
      refine at_exit ?_
      refine at_then_x ?_
      refine at_then_x ?_
      refine at_inb_exit ?_
      refine at_inb ?_
      refine at_then ?_
      refine at_region ?_
      refine st_p rfl rfl (p_move rfl) ?_
      refine st_p rfl rfl (p_add (r := ((i + 1 : Nat) : Int)) rfl rfl ((nw64 (by omega)).trans (by omega))) ?_
      refine st_p rfl rfl (p_assign rfl) ?_
      refine at_nil ?_
      refine at_ks [0, 1, 2, 3, 8, 9, 10, 11, 12, 13, 14, 15, 16, 17, 18, 45, 73, 77, 112] (by (try simp only [keep, lk, pd, enumE, Nat.reduceBEq, Nat.reduceAdd, cond_true, cond_false]); exact rfl) ?_
      refine at_ks [9, 13, 14] (by (try simp only [keep, lk, pd, enumE, Nat.reduceBEq, Nat.reduceAdd, cond_true, cond_false]); exact rfl) ?_
      refine at_back (k0 - 1) (by omega) ⟨i + 1, rfl, rfl, by omega, by omega⟩
  · (try simp only [decide_eq_true_eq, decide_eq_false_iff_not, Bool.not_eq_true', Bool.not_eq_false', Bool.not_true, Bool.not_false, Bool.or_eq_true, Bool.and_eq_true, Int.not_lt, Int.not_le] at ht73)
    refine at_exit ?_
    refine at_then_x ?_
    refine at_then_x ?_
    refine at_inb_exit ?_
    refine at_then ?_
    refine at_seq ?_
    refine at_region ?_
    refine st_q rfl rfl (q_call (first := []) rfl c_10 rfl (fun F1 hF1 hs1 => awake_calls F1)) ?_
    refine st_p rfl rfl (p_assign rfl) ?_
    refine at_nil ?_
    refine at_ks [0, 1, 2, 3, 8, 9, 10, 11, 12, 13, 14, 15, 16, 17, 18, 45, 73, 77, 112] (by (try simp only [keep, lk, pd, enumE, Nat.reduceBEq, Nat.reduceAdd, cond_true, cond_false]); exact rfl) ?_
    refine at_then ?_
    refine at_retc ?_
    refine at_re [] (by decide) ?_
    exact fin_1 rfl rfl (by
        exact ⟨rfl, rfl⟩)

end Go.Proofs.Ytbpbhjnkmonlbaa