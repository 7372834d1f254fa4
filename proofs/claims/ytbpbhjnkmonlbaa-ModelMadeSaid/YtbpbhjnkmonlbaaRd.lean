/- The reference's teller of bits: its walks. No condition. -/
import Derived.Test.YtbpbhjnkmonlbaaRc
import Derived.Test.YtbpbhjnkmonlbaaGp
namespace Go.Proofs.Ytbpbhjnkmonlbaa
open Go.RowKit Sl
set_option linter.unusedVariables false
set_option linter.unusedSimpArgs false
set_option maxRecDepth 10000
/-- A reference's teller in memory. -/
def readR (b cb : Nat) (dv : Value) (s : ByteArray) (x : Cd × Bool) : Hp := .ob b [.string s, .pointer (some ⟨cb, 0, none⟩), .bool x.2] 129 :: refH cb dv x.1
def aheadV (s : ByteArray) (x : Cd × Bool) : Nat := if gateE s x = 0 then valS s x.1.k - x.1.n else 0
theorem Gap.dlt {V n i o d : Nat} {g : Bool} (h : Gap V n i o d g) : d < 256 ^ i := by
  obtain ⟨_, D, h2, _, h4, _⟩ := h
  have := Nat.mod_le D 72057594037927936
  omega
theorem or1b {x b : Nat} (hb : b < 2) (h : x < 18446744073709551616) (h2 : x % 2 = 0) : IntKind.u64.wrap ↑((((x : Nat) : Int) % 2 ^ IntKind.u64.bits).toNat ||| (((b : Nat) : Int) % 2 ^ IntKind.u64.bits).toNat) = ((x + b : Nat) : Int) := by
  have e1 : (((x : Nat) : Int) % 2 ^ IntKind.u64.bits).toNat = x := by simp [IntKind.bits]; omega
  have e2 : (((b : Nat) : Int) % 2 ^ IntKind.u64.bits).toNat = b := by simp [IntKind.bits]; omega
  have e3 : x ||| b = x + b := by
    have := Nat.shiftLeft_add_eq_or_of_lt (i := 1) (b := b) (by omega) (x / 2)
    rw [Nat.shiftLeft_eq, show x / 2 * 2 ^ 1 = x by omega] at this
    exact this.symm
  rw [e1, e2, e3, nwu64 (by omega)]

theorem rfrom_calls (s : ByteArray) (F : Frm) : SC Try.prog 45 #[.string s] [] F (fun v H => ∃ b cb dv, v = .pointer (some ⟨b, 0, none⟩) ∧ H = readR b cb dv s (cd0, false)) := by
  refine sc_in (args := [.string s]) Try.func45 rfl rfl (Nat.le_of_ble_eq_true rfl) ?_
  refine at_ks [0, 2] (by (try simp only [keep, lk, pd, enumE, Nat.reduceBEq, Nat.reduceAdd, cond_true, cond_false]); exact rfl) ?_
  refine at_seq ?_
  refine at_region ?_
  refine st_p rfl rfl (p_assign rfl) ?_
  refine at_nil ?_
  refine at_ks [0, 2] (by (try simp only [keep, lk, pd, enumE, Nat.reduceBEq, Nat.reduceAdd, cond_true, cond_false]); exact rfl) ?_
  refine at_then ?_
  refine at_seq ?_
  refine at_region ?_
  refine st_p rfl rfl (p_move rfl) ?_
  refine st_l rfl rfl (l_callP (first := []) (H1 := []) (H2 := _) (List.Perm.refl _) rfl c_31 rfl (fun F1 hF1 hs1 => rnew_calls F1)) ?_
  rintro _ _ ⟨_, ⟨cb, dv, rfl, rfl⟩, rfl⟩
  refine at_hp (by (try simp only [List.take_zero, List.take_succ_cons, List.drop_zero, List.drop_succ_cons, List.drop_nil, List.length_cons, List.length_nil, Nat.zero_add, Nat.reduceAdd, List.set_cons_zero, List.set_cons_succ, List.nil_append, List.cons_append, List.append_nil, pick, List.filterMap_cons, List.filterMap_nil, List.getElem?_cons_zero, List.getElem?_cons_succ]); exact rfl) ?_
  refine st_p rfl rfl (p_build (cs := #[.string s, .pointer (some ⟨cb, 0, none⟩), .bool false]) rfl (fun _ => by kernel_rfl)) ?_
  refine st_l rfl rfl (l_box [.string s, .pointer (some ⟨cb, 0, none⟩), .bool false] rfl rfl) ?_
  rintro _ _ ⟨b6, rfl, rfl⟩
  refine at_hp (by (try simp only [List.take_zero, List.take_succ_cons, List.drop_zero, List.drop_succ_cons, List.drop_nil, List.length_cons, List.length_nil, Nat.zero_add, Nat.reduceAdd, List.set_cons_zero, List.set_cons_succ, List.nil_append, List.cons_append, List.append_nil, pick, List.filterMap_cons, List.filterMap_nil, List.getElem?_cons_zero, List.getElem?_cons_succ]); exact rfl) ?_
  refine st_p rfl rfl (p_assign rfl) ?_
  refine at_nil ?_
  refine at_ks [0, 2] (by (try simp only [keep, lk, pd, enumE, Nat.reduceBEq, Nat.reduceAdd, cond_true, cond_false]); exact rfl) ?_
  refine at_then ?_
  refine at_retc ?_
  exact fin_1 rfl rfl (by
      exact ⟨b6, cb, dv, rfl, rfl⟩)

set_option maxHeartbeats 1600000 in
theorem ahead_calls (b cb : Nat) (dv : Value) (s : ByteArray) (x : Cd × Bool) (ho : x.1.ok) (hk : x.1.k < 50000000000000) (F : Frm) :
    SC Try.prog 70 #[.pointer (some ⟨b, 0, none⟩)] (readR b cb dv s x) F (fun u H' => u = .agg #[U (aheadV s x : Nat), N 0, N (gateE s x : Nat)] ∧ H' = readR b cb dv s (x.1, if gateE s x = 0 then x.2 else true)) := by
  obtain ⟨c, bad⟩ := x
  simp only at ho hk ⊢
  unfold readR refH refR
  simp only [be_len]
  have h5 := ho.k5; have h6 := ho.top; have h7_ := ho.lo; have h8 := ho.hi
  have hnk := (top_lt ho.k5 (m := c.n) (by omega)).1
  refine sc_in (args := [.pointer (some ⟨b, 0, none⟩)]) Try.func70 rfl rfl (Nat.le_of_ble_eq_true rfl) ?_
  refine at_ks [0, 2, 3, 4, 5, 6, 7, 8, 9, 13, 29, 36, 65, 69, 97] (by (try simp only [keep, lk, pd, enumE, Nat.reduceBEq, Nat.reduceAdd, cond_true, cond_false]); exact rfl) ?_
  refine at_row 2 rfl (by omega) fun g1 cp hdv hcp => ?_
  subst hdv
  refine at_seq ?_
  refine at_region ?_
  refine st_l rfl rfl (l_alloc _ y_90) ?_
  rintro _ _ ⟨b2, rfl, rfl⟩
  refine at_hp (by (try simp only [List.take_zero, List.take_succ_cons, List.drop_zero, List.drop_succ_cons, List.drop_nil, List.length_cons, List.length_nil, Nat.zero_add, Nat.reduceAdd, List.set_cons_zero, List.set_cons_succ, List.nil_append, List.cons_append, List.append_nil, pick, List.filterMap_cons, List.filterMap_nil, List.getElem?_cons_zero, List.getElem?_cons_succ]); exact rfl) ?_
  refine at_nil ?_
  refine at_ks [0, 2, 3, 4, 5, 6, 7, 8, 9, 13, 29, 36, 65, 69, 97] (by (try simp only [keep, lk, pd, enumE, Nat.reduceBEq, Nat.reduceAdd, cond_true, cond_false]); exact rfl) ?_
  refine at_then ?_
  refine at_seq ?_
  refine at_seq ?_
  refine at_region ?_
  refine st_p rfl rfl (p_move rfl) ?_
  refine st_p rfl rfl ((by first | exact p_nil rfl | exact p_nilf rfl)) ?_
  refine st_p rfl rfl ((by first | exact p_fa0 rfl o_129_2 | exact p_fa rfl o_129_2)) ?_
  refine st_q rfl rfl ((by first | exact q_ob 0 rfl rfl r_4 (by first | rfl | assumption) | exact q_ob 1 rfl rfl r_4 (by first | rfl | assumption) | exact q_ob 2 rfl rfl r_4 (by first | rfl | assumption) | exact q_ob 3 rfl rfl r_4 (by first | rfl | assumption) | exact q_sl 0 rfl rfl r_4 (by first | rfl | assumption) | exact q_sl 1 rfl rfl r_4 (by first | rfl | assumption) | exact q_sl 2 rfl rfl r_4 (by first | rfl | assumption) | exact q_sl 3 rfl rfl r_4 (by first | rfl | assumption) | exact q_fr rfl r_4 (by assumption))) ?_
  refine at_nil ?_
  refine at_ks [0, 2, 3, 4, 5, 6, 7, 8, 9, 13, 29, 36, 65, 69, 97] (by (try simp only [keep, lk, pd, enumE, Nat.reduceBEq, Nat.reduceAdd, cond_true, cond_false]); exact rfl) ?_
  refine at_then ?_
  refine at_cond rfl (fun ht13 => ?_) (fun ht13 => ?_)
  · (try simp only [decide_eq_true_eq, decide_eq_false_iff_not, Bool.not_eq_true', Bool.not_eq_false', Bool.not_true, Bool.not_false, Bool.or_eq_true, Bool.and_eq_true, Int.not_lt, Int.not_le] at ht13)
    subst ht13
    have hg : gateE s (c, true) = 3 := rfl
    refine at_seq ?_
    refine at_region ?_
    refine st_p rfl rfl (p_build (cs := #[U 0, N 0, N 3]) rfl (fun _ => by kernel_rfl)) ?_
    refine st_l rfl rfl (l_obN (us := [U 0, N 0, N 3]) 0 rfl rfl rfl (by simp [Value.oneCell']) s_90 (by simp)) ?_
    rintro _ _ ⟨rfl, rfl⟩
    refine at_hp (by (try simp only [List.take_zero, List.take_succ_cons, List.drop_zero, List.drop_succ_cons, List.drop_nil, List.length_cons, List.length_nil, Nat.zero_add, Nat.reduceAdd, List.set_cons_zero, List.set_cons_succ, List.nil_append, List.cons_append, List.append_nil, pick, List.filterMap_cons, List.filterMap_nil, List.getElem?_cons_zero, List.getElem?_cons_succ]); exact rfl) ?_
    refine at_nil ?_
    refine at_ks [0, 2, 3, 4, 5, 6, 7, 8, 9, 13, 29, 36, 65, 69, 97] (by (try simp only [keep, lk, pd, enumE, Nat.reduceBEq, Nat.reduceAdd, cond_true, cond_false]); exact rfl) ?_
    refine at_then ?_
    refine at_retc ?_
    refine at_then_r ?_
    exact fin_cd 0 [1, 2, 3] (by decide) rfl rfl rfl r_90 s_90 ⟨by unfold aheadV; rw [hg]; rfl, by rw [hg]; rfl⟩
  · (try simp only [decide_eq_true_eq, decide_eq_false_iff_not, Bool.not_eq_true', Bool.not_eq_false', Bool.not_true, Bool.not_false, Bool.or_eq_true, Bool.and_eq_true, Int.not_lt, Int.not_le] at ht13)
    subst ht13
    refine at_skip ?_
    refine at_then ?_
    refine at_seq ?_
    refine at_region ?_
    refine st_p rfl rfl (p_move rfl) ?_
    refine st_p rfl rfl ((by first | exact p_nil rfl | exact p_nilf rfl)) ?_
    refine st_p rfl rfl ((by first | exact p_fa0 rfl o_129_1 | exact p_fa rfl o_129_1)) ?_
    refine st_q rfl rfl ((by first | exact q_ob 0 rfl rfl r_71 (by first | rfl | assumption) | exact q_ob 1 rfl rfl r_71 (by first | rfl | assumption) | exact q_ob 2 rfl rfl r_71 (by first | rfl | assumption) | exact q_ob 3 rfl rfl r_71 (by first | rfl | assumption) | exact q_sl 0 rfl rfl r_71 (by first | rfl | assumption) | exact q_sl 1 rfl rfl r_71 (by first | rfl | assumption) | exact q_sl 2 rfl rfl r_71 (by first | rfl | assumption) | exact q_sl 3 rfl rfl r_71 (by first | rfl | assumption) | exact q_fr rfl r_71 (by assumption))) ?_
    refine st_p rfl rfl ((by first | exact p_nil rfl | exact p_nilf rfl)) ?_
    refine st_p rfl rfl ((by first | exact p_fa0 rfl o_120_0 | exact p_fa rfl o_120_0)) ?_
    refine st_q rfl rfl ((by first | exact q_ob 0 rfl rfl r_46 (by first | rfl | assumption) | exact q_ob 1 rfl rfl r_46 (by first | rfl | assumption) | exact q_ob 2 rfl rfl r_46 (by first | rfl | assumption) | exact q_ob 3 rfl rfl r_46 (by first | rfl | assumption) | exact q_sl 0 rfl rfl r_46 (by first | rfl | assumption) | exact q_sl 1 rfl rfl r_46 (by first | rfl | assumption) | exact q_sl 2 rfl rfl r_46 (by first | rfl | assumption) | exact q_sl 3 rfl rfl r_46 (by first | rfl | assumption) | exact q_fr rfl r_46 (by assumption))) ?_
    refine st_p rfl rfl (p_len rfl m_46) ?_
    refine st_p rfl rfl (p_assign rfl) ?_
    refine at_nil ?_
    refine at_ks [0, 2, 3, 4, 5, 6, 7, 8, 9, 13, 29, 36, 65, 69, 97] (by (try simp only [keep, lk, pd, enumE, Nat.reduceBEq, Nat.reduceAdd, cond_true, cond_false]); exact rfl) ?_
    refine at_then ?_
    refine at_seq ?_
    refine at_seq ?_
    refine at_region ?_
    refine st_p rfl rfl (p_move rfl) ?_
    refine st_p rfl rfl ((by first | exact p_nil rfl | exact p_nilf rfl)) ?_
    refine st_p rfl rfl ((by first | exact p_fa0 rfl o_129_0 | exact p_fa rfl o_129_0)) ?_
    refine st_q rfl rfl ((by first | exact q_ob 0 rfl rfl r_9 (by first | rfl | assumption) | exact q_ob 1 rfl rfl r_9 (by first | rfl | assumption) | exact q_ob 2 rfl rfl r_9 (by first | rfl | assumption) | exact q_ob 3 rfl rfl r_9 (by first | rfl | assumption) | exact q_sl 0 rfl rfl r_9 (by first | rfl | assumption) | exact q_sl 1 rfl rfl r_9 (by first | rfl | assumption) | exact q_sl 2 rfl rfl r_9 (by first | rfl | assumption) | exact q_sl 3 rfl rfl r_9 (by first | rfl | assumption) | exact q_fr rfl r_9 (by assumption))) ?_
    refine st_p rfl rfl (p_lens rfl Try.underlying9) ?_
    refine st_p rfl rfl (p_move rfl) ?_
    refine st_p rfl rfl (p_lss rfl rfl) ?_
    refine at_nil ?_
    refine at_ks [0, 2, 3, 4, 5, 6, 7, 8, 9, 13, 29, 36, 65, 69, 97] (by (try simp only [keep, lk, pd, enumE, Nat.reduceBEq, Nat.reduceAdd, cond_true, cond_false]); exact rfl) ?_
    refine at_then ?_
    refine at_cond rfl (fun ht29 => ?_) (fun ht29 => ?_)
    · (try simp only [decide_eq_true_eq, decide_eq_false_iff_not, Bool.not_eq_true', Bool.not_eq_false', Bool.not_true, Bool.not_false, Bool.or_eq_true, Bool.and_eq_true, Int.not_lt, Int.not_le] at ht29)
      have hg : gateE s (c, false) = 2 := by simp only [gateE, Bool.false_eq_true, if_false]; rw [if_pos (by omega)]
      refine at_seq ?_
      refine at_region ?_
      refine st_p rfl rfl (p_move rfl) ?_
      refine st_p rfl rfl ((by first | exact p_nil rfl | exact p_nilf rfl)) ?_
      refine st_p rfl rfl ((by first | exact p_fa0 rfl o_129_2 | exact p_fa rfl o_129_2)) ?_
      refine st_l rfl rfl ((by first | exact l_ob 0 rfl rfl rfl (by first | rfl | assumption) (by first | rfl | assumption) s_4 (by first | decide | omega | (simp only [List.length_cons, List.length_nil]; omega) | (simp; omega) | (simp; done)) | exact l_ob 1 rfl rfl rfl (by first | rfl | assumption) (by first | rfl | assumption) s_4 (by first | decide | omega | (simp only [List.length_cons, List.length_nil]; omega) | (simp; omega) | (simp; done)) | exact l_ob 2 rfl rfl rfl (by first | rfl | assumption) (by first | rfl | assumption) s_4 (by first | decide | omega | (simp only [List.length_cons, List.length_nil]; omega) | (simp; omega) | (simp; done)) | exact l_ob 3 rfl rfl rfl (by first | rfl | assumption) (by first | rfl | assumption) s_4 (by first | decide | omega | (simp only [List.length_cons, List.length_nil]; omega) | (simp; omega) | (simp; done)) | exact l_sl 0 rfl rfl rfl (by first | rfl | assumption) (by first | rfl | assumption) s_4 (by first | decide | omega | (simp only [List.length_cons, List.length_nil]; omega) | (simp; omega) | (simp; done)) | exact l_sl 1 rfl rfl rfl (by first | rfl | assumption) (by first | rfl | assumption) s_4 (by first | decide | omega | (simp only [List.length_cons, List.length_nil]; omega) | (simp; omega) | (simp; done)) | exact l_sl 2 rfl rfl rfl (by first | rfl | assumption) (by first | rfl | assumption) s_4 (by first | decide | omega | (simp only [List.length_cons, List.length_nil]; omega) | (simp; omega) | (simp; done)) | exact l_sl 3 rfl rfl rfl (by first | rfl | assumption) (by first | rfl | assumption) s_4 (by first | decide | omega | (simp only [List.length_cons, List.length_nil]; omega) | (simp; omega) | (simp; done)))) ?_
      rintro _ _ ⟨rfl, rfl⟩
      refine at_hp (by (try simp only [List.take_zero, List.take_succ_cons, List.drop_zero, List.drop_succ_cons, List.drop_nil, List.length_cons, List.length_nil, Nat.zero_add, Nat.reduceAdd, List.set_cons_zero, List.set_cons_succ, List.nil_append, List.cons_append, List.append_nil, pick, List.filterMap_cons, List.filterMap_nil, List.getElem?_cons_zero, List.getElem?_cons_succ]); exact rfl) ?_
      refine at_nil ?_
      refine at_ks [0, 2, 3, 4, 5, 6, 7, 8, 9, 13, 29, 36, 65, 69, 97] (by (try simp only [keep, lk, pd, enumE, Nat.reduceBEq, Nat.reduceAdd, cond_true, cond_false]); exact rfl) ?_
      refine at_then ?_
      refine at_seq ?_
      refine at_region ?_
      refine st_p rfl rfl (p_build (cs := #[U 0, N 0, N 2]) rfl (fun _ => by kernel_rfl)) ?_
      refine st_l rfl rfl (l_obN (us := [U 0, N 0, N 2]) 0 rfl rfl rfl (by simp [Value.oneCell']) s_90 (by simp)) ?_
      rintro _ _ ⟨rfl, rfl⟩
      refine at_hp (by (try simp only [List.take_zero, List.take_succ_cons, List.drop_zero, List.drop_succ_cons, List.drop_nil, List.length_cons, List.length_nil, Nat.zero_add, Nat.reduceAdd, List.set_cons_zero, List.set_cons_succ, List.nil_append, List.cons_append, List.append_nil, pick, List.filterMap_cons, List.filterMap_nil, List.getElem?_cons_zero, List.getElem?_cons_succ]); exact rfl) ?_
      refine at_nil ?_
      refine at_ks [0, 2, 3, 4, 5, 6, 7, 8, 9, 13, 29, 36, 65, 69, 97] (by (try simp only [keep, lk, pd, enumE, Nat.reduceBEq, Nat.reduceAdd, cond_true, cond_false]); exact rfl) ?_
      refine at_then ?_
      refine at_retc ?_
      refine at_then_r ?_
      exact fin_cd 0 [1, 2, 3] (by decide) rfl rfl rfl r_90 s_90 ⟨by unfold aheadV; rw [hg]; rfl, by rw [hg]; rfl⟩
    · (try simp only [decide_eq_true_eq, decide_eq_false_iff_not, Bool.not_eq_true', Bool.not_eq_false', Bool.not_true, Bool.not_false, Bool.or_eq_true, Bool.and_eq_true, Int.not_lt, Int.not_le] at ht29)
      have hks : c.k ≤ s.size := by omega
      have hVk := valS_lt (s := s) c.k hks
      refine at_skip ?_
      refine at_then ?_
      refine at_seq ?_
      refine at_region ?_
      refine st_p rfl rfl (p_assign rfl) ?_
      refine at_nil ?_
      refine at_ks [0, 2, 3, 4, 5, 6, 7, 8, 9, 13, 29, 36, 65, 69, 97] (by (try simp only [keep, lk, pd, enumE, Nat.reduceBEq, Nat.reduceAdd, cond_true, cond_false]); exact rfl) ?_
      refine at_then ?_
      refine at_seq ?_
      refine at_region ?_
      refine st_p rfl rfl (p_assign rfl) ?_
      refine st_p rfl rfl (p_assign rfl) ?_
      refine at_nil ?_
      refine at_ks [0, 2, 3, 4, 5, 6, 7, 8, 9, 13, 29, 36, 65, 69, 97] (by (try simp only [keep, lk, pd, enumE, Nat.reduceBEq, Nat.reduceAdd, cond_true, cond_false]); exact rfl) ?_
      refine at_then ?_
      refine at_seq ?_
      refine at_seq ?_
      refine at_region ?_
      refine st_p rfl rfl (p_assign rfl) ?_
      refine at_nil ?_
      refine at_ks [0, 2, 3, 4, 5, 6, 7, 8, 9, 13, 29, 36, 65, 69, 97] (by (try simp only [keep, lk, pd, enumE, Nat.reduceBEq, Nat.reduceAdd, cond_true, cond_false]); exact rfl) ?_
      refine at_then ?_
      refine at_block ?_
      refine at_ks [0, 2, 3, 4, 5, 6, 7] (by (try simp only [keep, lk, pd, enumE, Nat.reduceBEq, Nat.reduceAdd, cond_true, cond_false]); exact rfl) ?_
      refine at_loop (fun k E H => ∃ (i o d : Nat) (g : Bool), E = [(0, .pointer (some ⟨b, 0, none⟩)), (2, .pointer (some ⟨b2, 0, none⟩)), (3, N c.k), (4, U (d : Nat)), (5, N (o : Nat)), (6, .bool g), (7, N (i : Int))] ∧ H = [.ob b2 [U 0, N 0, N 0] 90, .ob b [.string s, .pointer (some ⟨cb, 0, none⟩), .bool false] 129, .ob cb [.slice (some ⟨g1, 0, none⟩) c.k cp, U (c.r : Nat)] 120, .sl (.slice (some ⟨g1, 0, none⟩) c.k cp) 5 1 c.k (ints .u8 (be c.k c.n))] ∧ Gap (valS s c.k) c.n i o d g ∧ i ≤ c.k ∧ k + i = c.k + 1) (c.k + 1) (⟨0, 0, 0, false, rfl, rfl, Gap.zero _ _, by omega, by omega⟩) ?_
      rintro k _ _ ⟨i, o, d, g, rfl, rfl, hG, hi, hkk⟩
      have ho1 := hG.o1
      refine at_seq ?_
      refine at_seq ?_
      refine at_region ?_
      refine st_p rfl rfl (p_move rfl) ?_
      refine st_p rfl rfl (p_move rfl) ?_
      refine st_p rfl rfl (p_lss rfl rfl) ?_
      refine at_nil ?_
      refine at_ks [0, 2, 3, 4, 5, 6, 7, 8, 9, 13, 29, 36, 65, 69, 97] (by (try simp only [keep, lk, pd, enumE, Nat.reduceBEq, Nat.reduceAdd, cond_true, cond_false]); exact rfl) ?_
      refine at_then ?_
      refine at_cond rfl (fun ht36 => ?_) (fun ht36 => ?_)
      · (try simp only [decide_eq_true_eq, decide_eq_false_iff_not, Bool.not_eq_true', Bool.not_eq_false', Bool.not_true, Bool.not_false, Bool.or_eq_true, Bool.and_eq_true, Int.not_lt, Int.not_le] at ht36)
        obtain ⟨sb, hsb⟩ : ∃ sb, sb = valS s c.k / 256 ^ i % 256 := ⟨_, rfl⟩
        obtain ⟨lb, hlb⟩ : ∃ lb, lb = c.n / 256 ^ i % 256 := ⟨_, rfl⟩
        obtain ⟨byt, hby, hbv⟩ := valS_byte (s := s) (k := c.k) (i := i) (by omega) hks
        have hlow : (ints .u8 (be c.k c.n))[((c.k - 1 - i : Nat) : Int).toNat]? = some (.int .u8 ((lb : Nat) : Int)) := by
          rw [Int.toNat_natCast, List.getElem?_map, be_byte (by omega), hlb]; rfl
        rw [← Int.toNat_natCast (c.k - 1 - i)] at hby
        rw [← hsb] at hbv
        have hs8 : sb < 256 := by omega
        have hl8 : lb < 256 := by omega
        refine at_skip ?_
        refine at_then ?_
        refine at_seq ?_
        refine at_block ?_
        refine at_seq ?_
        refine at_region ?_
        refine st_p rfl rfl (p_move rfl) ?_
        refine st_p rfl rfl (p_sub rfl rfl (by first | exact nw64 (by omega) | exact nwu64 (by omega) | exact nwu8 (by omega) | exact nwu16 (by omega) | exact wu64 _ | exact wu8 _ | exact wi64 _ | rfl)) ?_
        refine st_p rfl rfl (p_move rfl) ?_
        refine st_p rfl rfl (p_sub (r := ((c.k - 1 - i : Nat) : Int)) rfl rfl ((nw64 (by omega)).trans (by omega))) ?_
        refine st_p rfl rfl (p_assign rfl) ?_
        refine at_nil ?_
        refine at_ks [0, 2, 3, 4, 5, 6, 7, 8, 9, 13, 29, 36, 65, 69, 97] (by (try simp only [keep, lk, pd, enumE, Nat.reduceBEq, Nat.reduceAdd, cond_true, cond_false]); exact rfl) ?_
        refine at_then ?_
        refine at_seq ?_
        refine at_drawH [0, 1, 2, 3, 4, 5, 6, 7, 8, 9, 10, 11, 12, 13, 14, 15, 16, 17, 18, 19, 20, 21] [0, 1, 3, 7, 0, 31, 63, 0, 128, 384, 896, 1920, 3968, 8064, 0, 32640, 65408, 130944, 262143, 0, 1048575, 2097151] [3, 10, 13, 16] [] mixd (by kernel_rfl) ?_
        refine rd_p rfl rfl rfl rfl rfl (p_move rfl) ?_
        refine rd_p rfl rfl rfl rfl rfl ((by first | exact p_nil rfl | exact p_nilf rfl)) ?_
        refine rd_p rfl rfl rfl rfl rfl ((by first | exact p_fa0 rfl o_129_0 | exact p_fa rfl o_129_0)) ?_
        refine rd_q rfl rfl rfl rfl rfl ((by first | exact q_ob 0 rfl rfl r_9 (by first | rfl | assumption) | exact q_ob 1 rfl rfl r_9 (by first | rfl | assumption) | exact q_ob 2 rfl rfl r_9 (by first | rfl | assumption) | exact q_ob 3 rfl rfl r_9 (by first | rfl | assumption) | exact q_sl 0 rfl rfl r_9 (by first | rfl | assumption) | exact q_sl 1 rfl rfl r_9 (by first | rfl | assumption) | exact q_sl 2 rfl rfl r_9 (by first | rfl | assumption) | exact q_sl 3 rfl rfl r_9 (by first | rfl | assumption) | exact q_fr rfl r_9 (by assumption))) (fun _ h => h) ?_
        refine rd_p rfl rfl rfl rfl rfl (p_move rfl) ?_
        refine rd_p rfl rfl rfl rfl rfl (p_index rfl rfl Try.underlying9 (by omega) hby) ?_
        refine rd_p rfl rfl rfl rfl rfl (p_conv (r := ((sb : Nat) : Int)) rfl Try.underlying5 Try.underlying3 (by rw [hbv]; exact nw64 (by omega))) ?_
        refine rd_p rfl rfl rfl rfl rfl (p_move rfl) ?_
        refine rd_p rfl rfl rfl rfl rfl ((by first | exact p_nil rfl | exact p_nilf rfl)) ?_
        refine rd_p rfl rfl rfl rfl rfl ((by first | exact p_fa0 rfl o_129_1 | exact p_fa rfl o_129_1)) ?_
        refine rd_q rfl rfl rfl rfl rfl ((by first | exact q_ob 0 rfl rfl r_71 (by first | rfl | assumption) | exact q_ob 1 rfl rfl r_71 (by first | rfl | assumption) | exact q_ob 2 rfl rfl r_71 (by first | rfl | assumption) | exact q_ob 3 rfl rfl r_71 (by first | rfl | assumption) | exact q_sl 0 rfl rfl r_71 (by first | rfl | assumption) | exact q_sl 1 rfl rfl r_71 (by first | rfl | assumption) | exact q_sl 2 rfl rfl r_71 (by first | rfl | assumption) | exact q_sl 3 rfl rfl r_71 (by first | rfl | assumption) | exact q_fr rfl r_71 (by assumption))) (fun _ h => h) ?_
        refine rd_p rfl rfl rfl rfl rfl ((by first | exact p_nil rfl | exact p_nilf rfl)) ?_
        refine rd_p rfl rfl rfl rfl rfl ((by first | exact p_fa0 rfl o_120_0 | exact p_fa rfl o_120_0)) ?_
        refine rd_q rfl rfl rfl rfl rfl ((by first | exact q_ob 0 rfl rfl r_46 (by first | rfl | assumption) | exact q_ob 1 rfl rfl r_46 (by first | rfl | assumption) | exact q_ob 2 rfl rfl r_46 (by first | rfl | assumption) | exact q_ob 3 rfl rfl r_46 (by first | rfl | assumption) | exact q_sl 0 rfl rfl r_46 (by first | rfl | assumption) | exact q_sl 1 rfl rfl r_46 (by first | rfl | assumption) | exact q_sl 2 rfl rfl r_46 (by first | rfl | assumption) | exact q_sl 3 rfl rfl r_46 (by first | rfl | assumption) | exact q_fr rfl r_46 (by assumption))) (fun _ h => h) ?_
        refine rd_p rfl rfl rfl rfl rfl (p_move rfl) ?_
        refine rd_p rfl rfl rfl rfl rfl ((by first | exact p_ia1 rfl rfl z_46 (by first | decide | omega) (by first | decide | omega) | exact p_iaN rfl rfl z_46 (by first | decide | omega) (by first | decide | omega) | exact p_iaO1 rfl rfl z_46 (by first | decide | omega) (by first | decide | omega) | exact p_iaO rfl rfl z_46 (by first | decide | omega) (by first | decide | omega))) ?_
        refine rd_q rfl rfl rfl rfl rfl (q_sl 3 rfl rfl r_5 hlow) (fun _ h => h) ?_
        refine rd_p rfl rfl rfl rfl rfl (p_conv (r := ((lb : Nat) : Int)) rfl Try.underlying5 Try.underlying3 (nw64 (by omega))) ?_
        refine rd_p rfl rfl rfl rfl rfl (p_sub (r := (sb : Int) - lb) rfl rfl (nw64 (by omega))) ?_
        refine rd_p rfl rfl rfl rfl rfl (p_move rfl) ?_
        refine rd_p rfl rfl rfl rfl rfl (p_sub (r := (sb : Int) - lb - o) rfl rfl (nw64 (by omega))) ?_
        refine rd_p rfl rfl rfl rfl rfl (p_assign rfl) ?_
        refine rd_nil ?_
        refine at_ks [0, 2, 3, 4, 5, 6, 7, 8, 9, 13, 29, 36, 65, 69, 97] (by (try simp only [keep, lk, pd, enumE, Nat.reduceBEq, Nat.reduceAdd, cond_true, cond_false]); exact rfl) ?_
        refine at_then ?_
        refine at_seq ?_
        refine at_region ?_
        refine st_p rfl rfl (p_assign rfl) ?_
        refine at_nil ?_
        refine at_ks [0, 2, 3, 4, 5, 6, 7, 8, 9, 13, 29, 36, 65, 69, 97] (by (try simp only [keep, lk, pd, enumE, Nat.reduceBEq, Nat.reduceAdd, cond_true, cond_false]); exact rfl) ?_
        refine at_then ?_
        refine at_seq ?_
        refine at_seq ?_
        refine at_region ?_
        refine st_p rfl rfl (p_move rfl) ?_
        refine st_p rfl rfl (p_lss rfl rfl) ?_
        refine at_nil ?_
        refine at_ks [0, 2, 3, 4, 5, 6, 7, 8, 9, 13, 29, 36, 65, 69, 97] (by (try simp only [keep, lk, pd, enumE, Nat.reduceBEq, Nat.reduceAdd, cond_true, cond_false]); exact rfl) ?_
        refine at_then ?_
        refine at_cond rfl (fun ht65 => ?_) (fun ht65 => ?_)
        · (try simp only [decide_eq_true_eq, decide_eq_false_iff_not, Bool.not_eq_true', Bool.not_eq_false', Bool.not_true, Bool.not_false, Bool.or_eq_true, Bool.and_eq_true, Int.not_lt, Int.not_le] at ht65)
          obtain ⟨v, hv⟩ : ∃ v : Nat, (v : Int) = (sb : Int) - lb - o + 256 := ⟨((sb : Int) - lb - o + 256).toNat, by omega⟩
          have hv8 : v < 256 := by omega
          have hst := hG.step (v := v) (o2 := 1) hv8 (by omega) (by rw [← hsb, ← hlb]; omega)
          refine at_seq ?_
          refine at_region ?_
          refine st_p rfl rfl (p_move rfl) ?_
          refine st_p rfl rfl (p_add (r := ((v : Nat) : Int)) rfl rfl ((nw64 (by omega)).trans (by omega))) ?_
          refine st_p rfl rfl (p_assign rfl) ?_
          refine at_nil ?_
          refine at_ks [0, 2, 3, 4, 5, 6, 7, 8, 9, 13, 29, 36, 65, 69, 97] (by (try simp only [keep, lk, pd, enumE, Nat.reduceBEq, Nat.reduceAdd, cond_true, cond_false]); exact rfl) ?_
          refine at_then ?_
          refine at_region ?_
          refine st_p rfl rfl (p_assign rfl) ?_
          refine at_nil ?_
          refine at_ks [0, 2, 3, 4, 5, 6, 7, 8, 9, 13, 29, 36, 65, 69, 97] (by (try simp only [keep, lk, pd, enumE, Nat.reduceBEq, Nat.reduceAdd, cond_true, cond_false]); exact rfl) ?_
          refine at_then ?_
          refine at_seq ?_
          refine at_region ?_
          refine st_p rfl rfl (p_move rfl) ?_
          refine st_p rfl rfl (p_lss rfl rfl) ?_
          refine at_nil ?_
          refine at_ks [0, 2, 3, 4, 5, 6, 7, 8, 9, 13, 29, 36, 65, 69, 97] (by (try simp only [keep, lk, pd, enumE, Nat.reduceBEq, Nat.reduceAdd, cond_true, cond_false]); exact rfl) ?_
          refine at_then ?_
          refine at_cond rfl (fun ht69 => ?_) (fun ht69 => ?_)
          · (try simp only [decide_eq_true_eq, decide_eq_false_iff_not, Bool.not_eq_true', Bool.not_eq_false', Bool.not_true, Bool.not_false, Bool.or_eq_true, Bool.and_eq_true, Int.not_lt, Int.not_le] at ht69)
            have h7 : i < 7 := by omega
            refine at_region ?_
            refine st_p rfl rfl (p_move rfl) ?_
            refine st_p rfl rfl (p_move rfl) ?_
            refine st_p rfl rfl (p_conv (r := ((v : Nat) : Int)) rfl Try.underlying3 Try.underlying52 (nwu64 (by omega))) ?_
            refine st_p rfl rfl (p_move rfl) ?_
            refine st_p rfl rfl (p_mul rfl rfl (by first | exact nw64 (by omega) | exact nwu64 (by omega) | exact nwu8 (by omega) | exact nwu16 (by omega) | exact wu64 _ | exact wu8 _ | exact wi64 _ | rfl)) ?_
            refine st_p rfl rfl (p_shl (r := ((v * 256 ^ i : Nat) : Int)) rfl rfl (by omega) (shl_gap h7 hv8)) ?_
            refine st_p rfl rfl (p_or (r := ((d + v * 256 ^ i : Nat) : Int)) rfl rfl (or_gap h7 hG.dlt hv8)) ?_
            refine st_p rfl rfl (p_assign rfl) ?_
            refine at_nil ?_
            refine at_ks [0, 2, 3, 4, 5, 6, 7, 8, 9, 13, 29, 36, 65, 69, 97] (by (try simp only [keep, lk, pd, enumE, Nat.reduceBEq, Nat.reduceAdd, cond_true, cond_false]); exact rfl) ?_
            refine at_inb ?_
            refine at_then ?_
            refine at_region ?_
            refine st_p rfl rfl (p_move rfl) ?_
            refine st_p rfl rfl (p_add rfl rfl (by first | exact nw64 (by omega) | exact nwu64 (by omega) | exact nwu8 (by omega) | exact nwu16 (by omega) | exact wu64 _ | exact wu8 _ | exact wi64 _ | rfl)) ?_
            refine st_p rfl rfl (p_assign rfl) ?_
            refine at_nil ?_
            refine at_ks [0, 2, 3, 4, 5, 6, 7, 8, 9, 13, 29, 36, 65, 69, 97] (by (try simp only [keep, lk, pd, enumE, Nat.reduceBEq, Nat.reduceAdd, cond_true, cond_false]); exact rfl) ?_
            refine at_ks [0, 2, 3, 4, 5, 6, 7] (by (try simp only [keep, lk, pd, enumE, Nat.reduceBEq, Nat.reduceAdd, cond_true, cond_false]); exact rfl) ?_
            refine at_back (k - 1) (by omega) ⟨i + 1, 1, d + v * 256 ^ i, g, rfl, rfl, ?_, by omega, by omega⟩
            have h2 := hst
            rw [if_pos h7, if_pos h7] at h2
            exact h2
          · (try simp only [decide_eq_true_eq, decide_eq_false_iff_not, Bool.not_eq_true', Bool.not_eq_false', Bool.not_true, Bool.not_false, Bool.or_eq_true, Bool.and_eq_true, Int.not_lt, Int.not_le] at ht69)
            have h7 : ¬ i < 7 := by omega
            refine at_region ?_
            refine st_p rfl rfl (p_move rfl) ?_
            refine st_p rfl rfl (p_move rfl) ?_
            refine at_split 78 rfl (fun ht78 => ?_) (fun ht78 => ?_)
            · (try simp only [decide_eq_true_eq, decide_eq_false_iff_not, Bool.not_eq_true', Bool.not_eq_false', Bool.not_true, Bool.not_false, Bool.or_eq_true, Bool.and_eq_true, Int.not_lt, Int.not_le] at ht78)
              refine sg_no rfl rfl ?_
              refine sg_no rfl rfl ?_
              refine st_p rfl rfl ((by first | exact p_pick_t rfl rfl | exact p_pick_f rfl rfl)) ?_
              refine st_p rfl rfl (p_assign rfl) ?_
              refine at_nil ?_
              refine at_ks [0, 2, 3, 4, 5, 6, 7, 8, 9, 13, 29, 36, 65, 69, 97] (by (try simp only [keep, lk, pd, enumE, Nat.reduceBEq, Nat.reduceAdd, cond_true, cond_false]); exact rfl) ?_
              refine at_inb ?_
              refine at_then ?_
              refine at_region ?_
              refine st_p rfl rfl (p_move rfl) ?_
              refine st_p rfl rfl (p_add rfl rfl (by first | exact nw64 (by omega) | exact nwu64 (by omega) | exact nwu8 (by omega) | exact nwu16 (by omega) | exact wu64 _ | exact wu8 _ | exact wi64 _ | rfl)) ?_
              refine st_p rfl rfl (p_assign rfl) ?_
              refine at_nil ?_
              refine at_ks [0, 2, 3, 4, 5, 6, 7, 8, 9, 13, 29, 36, 65, 69, 97] (by (try simp only [keep, lk, pd, enumE, Nat.reduceBEq, Nat.reduceAdd, cond_true, cond_false]); exact rfl) ?_
              refine at_ks [0, 2, 3, 4, 5, 6, 7] (by (try simp only [keep, lk, pd, enumE, Nat.reduceBEq, Nat.reduceAdd, cond_true, cond_false]); exact rfl) ?_
              refine at_back (k - 1) (by omega) ⟨i + 1, 1, d, true, rfl, rfl, ?_, by omega, by omega⟩
              have h2 := hst
              rw [if_neg h7, if_neg h7] at h2
              rw [ht78, Bool.true_or] at h2
              exact h2
            · (try simp only [decide_eq_true_eq, decide_eq_false_iff_not, Bool.not_eq_true', Bool.not_eq_false', Bool.not_true, Bool.not_false, Bool.or_eq_true, Bool.and_eq_true, Int.not_lt, Int.not_le] at ht78)
              refine sg_p rfl rfl (p_move rfl) ?_
              refine sg_p rfl rfl (p_to (p_gtr rfl rfl) (show Value.bool _ = Value.bool (decide (0 < v)) from congrArg _ (decide_eq_decide.2 (by omega)))) ?_
              refine st_p rfl rfl ((by first | exact p_pick_t rfl rfl | exact p_pick_f rfl rfl)) ?_
              refine st_p rfl rfl (p_assign rfl) ?_
              refine at_nil ?_
              refine at_ks [0, 2, 3, 4, 5, 6, 7, 8, 9, 13, 29, 36, 65, 69, 97] (by (try simp only [keep, lk, pd, enumE, Nat.reduceBEq, Nat.reduceAdd, cond_true, cond_false]); exact rfl) ?_
              refine at_inb ?_
              refine at_then ?_
              refine at_region ?_
              refine st_p rfl rfl (p_move rfl) ?_
              refine st_p rfl rfl (p_add rfl rfl (by first | exact nw64 (by omega) | exact nwu64 (by omega) | exact nwu8 (by omega) | exact nwu16 (by omega) | exact wu64 _ | exact wu8 _ | exact wi64 _ | rfl)) ?_
              refine st_p rfl rfl (p_assign rfl) ?_
              refine at_nil ?_
              refine at_ks [0, 2, 3, 4, 5, 6, 7, 8, 9, 13, 29, 36, 65, 69, 97] (by (try simp only [keep, lk, pd, enumE, Nat.reduceBEq, Nat.reduceAdd, cond_true, cond_false]); exact rfl) ?_
              refine at_ks [0, 2, 3, 4, 5, 6, 7] (by (try simp only [keep, lk, pd, enumE, Nat.reduceBEq, Nat.reduceAdd, cond_true, cond_false]); exact rfl) ?_
              refine at_back (k - 1) (by omega) ⟨i + 1, 1, d, decide (0 < v), rfl, rfl, ?_, by omega, by omega⟩
              have h2 := hst
              rw [if_neg h7, if_neg h7] at h2
              rw [ht78, Bool.false_or] at h2
              exact h2
        · (try simp only [decide_eq_true_eq, decide_eq_false_iff_not, Bool.not_eq_true', Bool.not_eq_false', Bool.not_true, Bool.not_false, Bool.or_eq_true, Bool.and_eq_true, Int.not_lt, Int.not_le] at ht65)
          obtain ⟨v, hv⟩ : ∃ v : Nat, (v : Int) = (sb : Int) - lb - o := ⟨((sb : Int) - lb - o).toNat, by omega⟩
          have hv8 : v < 256 := by omega
          have hst := hG.step (v := v) (o2 := 0) hv8 (by omega) (by rw [← hsb, ← hlb]; omega)
          rw [← hv]
          refine at_skip ?_
          refine at_then ?_
          refine at_seq ?_
          refine at_region ?_
          refine st_p rfl rfl (p_move rfl) ?_
          refine st_p rfl rfl (p_lss rfl rfl) ?_
          refine at_nil ?_
          refine at_ks [0, 2, 3, 4, 5, 6, 7, 8, 9, 13, 29, 36, 65, 69, 97] (by (try simp only [keep, lk, pd, enumE, Nat.reduceBEq, Nat.reduceAdd, cond_true, cond_false]); exact rfl) ?_
          refine at_then ?_
          refine at_cond rfl (fun ht69 => ?_) (fun ht69 => ?_)
          · (try simp only [decide_eq_true_eq, decide_eq_false_iff_not, Bool.not_eq_true', Bool.not_eq_false', Bool.not_true, Bool.not_false, Bool.or_eq_true, Bool.and_eq_true, Int.not_lt, Int.not_le] at ht69)
            have h7 : i < 7 := by omega
            refine at_region ?_
            refine st_p rfl rfl (p_move rfl) ?_
            refine st_p rfl rfl (p_move rfl) ?_
            refine st_p rfl rfl (p_conv (r := ((v : Nat) : Int)) rfl Try.underlying3 Try.underlying52 (nwu64 (by omega))) ?_
            refine st_p rfl rfl (p_move rfl) ?_
            refine st_p rfl rfl (p_mul rfl rfl (by first | exact nw64 (by omega) | exact nwu64 (by omega) | exact nwu8 (by omega) | exact nwu16 (by omega) | exact wu64 _ | exact wu8 _ | exact wi64 _ | rfl)) ?_
            refine st_p rfl rfl (p_shl (r := ((v * 256 ^ i : Nat) : Int)) rfl rfl (by omega) (shl_gap h7 hv8)) ?_
            refine st_p rfl rfl (p_or (r := ((d + v * 256 ^ i : Nat) : Int)) rfl rfl (or_gap h7 hG.dlt hv8)) ?_
            refine st_p rfl rfl (p_assign rfl) ?_
            refine at_nil ?_
            refine at_ks [0, 2, 3, 4, 5, 6, 7, 8, 9, 13, 29, 36, 65, 69, 97] (by (try simp only [keep, lk, pd, enumE, Nat.reduceBEq, Nat.reduceAdd, cond_true, cond_false]); exact rfl) ?_
            refine at_inb ?_
            refine at_then ?_
            refine at_region ?_
            refine st_p rfl rfl (p_move rfl) ?_
            refine st_p rfl rfl (p_add rfl rfl (by first | exact nw64 (by omega) | exact nwu64 (by omega) | exact nwu8 (by omega) | exact nwu16 (by omega) | exact wu64 _ | exact wu8 _ | exact wi64 _ | rfl)) ?_
            refine st_p rfl rfl (p_assign rfl) ?_
            refine at_nil ?_
            refine at_ks [0, 2, 3, 4, 5, 6, 7, 8, 9, 13, 29, 36, 65, 69, 97] (by (try simp only [keep, lk, pd, enumE, Nat.reduceBEq, Nat.reduceAdd, cond_true, cond_false]); exact rfl) ?_
            refine at_ks [0, 2, 3, 4, 5, 6, 7] (by (try simp only [keep, lk, pd, enumE, Nat.reduceBEq, Nat.reduceAdd, cond_true, cond_false]); exact rfl) ?_
            refine at_back (k - 1) (by omega) ⟨i + 1, 0, d + v * 256 ^ i, g, rfl, rfl, ?_, by omega, by omega⟩
            have h2 := hst
            rw [if_pos h7, if_pos h7] at h2
            exact h2
          · (try simp only [decide_eq_true_eq, decide_eq_false_iff_not, Bool.not_eq_true', Bool.not_eq_false', Bool.not_true, Bool.not_false, Bool.or_eq_true, Bool.and_eq_true, Int.not_lt, Int.not_le] at ht69)
            have h7 : ¬ i < 7 := by omega
            refine at_region ?_
            refine st_p rfl rfl (p_move rfl) ?_
            refine st_p rfl rfl (p_move rfl) ?_
            refine at_split 78 rfl (fun ht78 => ?_) (fun ht78 => ?_)
            · (try simp only [decide_eq_true_eq, decide_eq_false_iff_not, Bool.not_eq_true', Bool.not_eq_false', Bool.not_true, Bool.not_false, Bool.or_eq_true, Bool.and_eq_true, Int.not_lt, Int.not_le] at ht78)
              refine sg_no rfl rfl ?_
              refine sg_no rfl rfl ?_
              refine st_p rfl rfl ((by first | exact p_pick_t rfl rfl | exact p_pick_f rfl rfl)) ?_
              refine st_p rfl rfl (p_assign rfl) ?_
              refine at_nil ?_
              refine at_ks [0, 2, 3, 4, 5, 6, 7, 8, 9, 13, 29, 36, 65, 69, 97] (by (try simp only [keep, lk, pd, enumE, Nat.reduceBEq, Nat.reduceAdd, cond_true, cond_false]); exact rfl) ?_
              refine at_inb ?_
              refine at_then ?_
              refine at_region ?_
              refine st_p rfl rfl (p_move rfl) ?_
              refine st_p rfl rfl (p_add rfl rfl (by first | exact nw64 (by omega) | exact nwu64 (by omega) | exact nwu8 (by omega) | exact nwu16 (by omega) | exact wu64 _ | exact wu8 _ | exact wi64 _ | rfl)) ?_
              refine st_p rfl rfl (p_assign rfl) ?_
              refine at_nil ?_
              refine at_ks [0, 2, 3, 4, 5, 6, 7, 8, 9, 13, 29, 36, 65, 69, 97] (by (try simp only [keep, lk, pd, enumE, Nat.reduceBEq, Nat.reduceAdd, cond_true, cond_false]); exact rfl) ?_
              refine at_ks [0, 2, 3, 4, 5, 6, 7] (by (try simp only [keep, lk, pd, enumE, Nat.reduceBEq, Nat.reduceAdd, cond_true, cond_false]); exact rfl) ?_
              refine at_back (k - 1) (by omega) ⟨i + 1, 0, d, true, rfl, rfl, ?_, by omega, by omega⟩
              have h2 := hst
              rw [if_neg h7, if_neg h7] at h2
              rw [ht78, Bool.true_or] at h2
              exact h2
            · (try simp only [decide_eq_true_eq, decide_eq_false_iff_not, Bool.not_eq_true', Bool.not_eq_false', Bool.not_true, Bool.not_false, Bool.or_eq_true, Bool.and_eq_true, Int.not_lt, Int.not_le] at ht78)
              refine sg_p rfl rfl (p_move rfl) ?_
              refine sg_p rfl rfl (p_to (p_gtr rfl rfl) (show Value.bool _ = Value.bool (decide (0 < v)) from congrArg _ (decide_eq_decide.2 (by omega)))) ?_
              refine st_p rfl rfl ((by first | exact p_pick_t rfl rfl | exact p_pick_f rfl rfl)) ?_
              refine st_p rfl rfl (p_assign rfl) ?_
              refine at_nil ?_
              refine at_ks [0, 2, 3, 4, 5, 6, 7, 8, 9, 13, 29, 36, 65, 69, 97] (by (try simp only [keep, lk, pd, enumE, Nat.reduceBEq, Nat.reduceAdd, cond_true, cond_false]); exact rfl) ?_
              refine at_inb ?_
              refine at_then ?_
              refine at_region ?_
              refine st_p rfl rfl (p_move rfl) ?_
              refine st_p rfl rfl (p_add rfl rfl (by first | exact nw64 (by omega) | exact nwu64 (by omega) | exact nwu8 (by omega) | exact nwu16 (by omega) | exact wu64 _ | exact wu8 _ | exact wi64 _ | rfl)) ?_
              refine st_p rfl rfl (p_assign rfl) ?_
              refine at_nil ?_
              refine at_ks [0, 2, 3, 4, 5, 6, 7, 8, 9, 13, 29, 36, 65, 69, 97] (by (try simp only [keep, lk, pd, enumE, Nat.reduceBEq, Nat.reduceAdd, cond_true, cond_false]); exact rfl) ?_
              refine at_ks [0, 2, 3, 4, 5, 6, 7] (by (try simp only [keep, lk, pd, enumE, Nat.reduceBEq, Nat.reduceAdd, cond_true, cond_false]); exact rfl) ?_
              refine at_back (k - 1) (by omega) ⟨i + 1, 0, d, decide (0 < v), rfl, rfl, ?_, by omega, by omega⟩
              have h2 := hst
              rw [if_neg h7, if_neg h7] at h2
              rw [ht78, Bool.false_or] at h2
              exact h2
      · (try simp only [decide_eq_true_eq, decide_eq_false_iff_not, Bool.not_eq_true', Bool.not_eq_false', Bool.not_true, Bool.not_false, Bool.or_eq_true, Bool.and_eq_true, Int.not_lt, Int.not_le] at ht36)
        obtain rfl : i = c.k := by omega
        have hF := hG.full hVk hnk h8
        refine at_exit ?_
        refine at_then_x ?_
        refine at_then_x ?_
        refine at_inb_exit ?_
        refine at_then ?_
        refine at_seq ?_
        refine at_seq ?_
        refine at_region ?_
        refine st_p rfl rfl (p_move rfl) ?_
        refine st_p rfl rfl (p_gtr rfl rfl) ?_
        refine st_p rfl rfl (p_move rfl) ?_
        refine at_split 84 rfl (fun ht84 => ?_) (fun ht84 => ?_)
        · (try simp only [decide_eq_true_eq, decide_eq_false_iff_not, Bool.not_eq_true', Bool.not_eq_false', Bool.not_true, Bool.not_false, Bool.or_eq_true, Bool.and_eq_true, Int.not_lt, Int.not_le] at ht84)
          refine sg_no rfl rfl ?_
          refine st_p rfl rfl ((by first | exact p_pick_t rfl rfl | exact p_pick_f rfl rfl)) ?_
          refine st_p rfl rfl (p_move rfl) ?_
          refine sg_no rfl rfl ?_
          refine sg_no rfl rfl ?_
          refine sg_no rfl rfl ?_
          refine sg_no rfl rfl ?_
          refine sg_no rfl rfl ?_
          refine sg_no rfl rfl ?_
          refine sg_no rfl rfl ?_
          refine sg_no rfl rfl ?_
          refine sg_no rfl rfl ?_
          refine st_p rfl rfl ((by first | exact p_pick_t rfl rfl | exact p_pick_f rfl rfl)) ?_
          refine at_nil ?_
          refine at_ks [0, 2, 3, 4, 5, 6, 7, 8, 9, 13, 29, 36, 65, 69, 97] (by (try simp only [keep, lk, pd, enumE, Nat.reduceBEq, Nat.reduceAdd, cond_true, cond_false]); exact rfl) ?_
          refine at_then ?_
          refine at_cond_t rfl ?_
          have hbad : valS s c.k < c.n ∨ c.n + c.r ≤ valS s c.k := by
            refine of_decide_eq_true (hF.1.symm.trans ?_)
            rw [decide_eq_true (show 0 < o by omega), Bool.true_or, Bool.true_or]
          have hg : gateE s (c, false) = 3 := by simp only [gateE, Bool.false_eq_true, if_false]; rw [if_neg (by omega), if_pos hbad]
          refine at_seq ?_
          refine at_region ?_
          refine st_p rfl rfl (p_move rfl) ?_
          refine st_p rfl rfl ((by first | exact p_nil rfl | exact p_nilf rfl)) ?_
          refine st_p rfl rfl ((by first | exact p_fa0 rfl o_129_2 | exact p_fa rfl o_129_2)) ?_
          refine st_l rfl rfl ((by first | exact l_ob 0 rfl rfl rfl (by first | rfl | assumption) (by first | rfl | assumption) s_4 (by first | decide | omega | (simp only [List.length_cons, List.length_nil]; omega) | (simp; omega) | (simp; done)) | exact l_ob 1 rfl rfl rfl (by first | rfl | assumption) (by first | rfl | assumption) s_4 (by first | decide | omega | (simp only [List.length_cons, List.length_nil]; omega) | (simp; omega) | (simp; done)) | exact l_ob 2 rfl rfl rfl (by first | rfl | assumption) (by first | rfl | assumption) s_4 (by first | decide | omega | (simp only [List.length_cons, List.length_nil]; omega) | (simp; omega) | (simp; done)) | exact l_ob 3 rfl rfl rfl (by first | rfl | assumption) (by first | rfl | assumption) s_4 (by first | decide | omega | (simp only [List.length_cons, List.length_nil]; omega) | (simp; omega) | (simp; done)) | exact l_sl 0 rfl rfl rfl (by first | rfl | assumption) (by first | rfl | assumption) s_4 (by first | decide | omega | (simp only [List.length_cons, List.length_nil]; omega) | (simp; omega) | (simp; done)) | exact l_sl 1 rfl rfl rfl (by first | rfl | assumption) (by first | rfl | assumption) s_4 (by first | decide | omega | (simp only [List.length_cons, List.length_nil]; omega) | (simp; omega) | (simp; done)) | exact l_sl 2 rfl rfl rfl (by first | rfl | assumption) (by first | rfl | assumption) s_4 (by first | decide | omega | (simp only [List.length_cons, List.length_nil]; omega) | (simp; omega) | (simp; done)) | exact l_sl 3 rfl rfl rfl (by first | rfl | assumption) (by first | rfl | assumption) s_4 (by first | decide | omega | (simp only [List.length_cons, List.length_nil]; omega) | (simp; omega) | (simp; done)))) ?_
          rintro _ _ ⟨rfl, rfl⟩
          refine at_hp (by (try simp only [List.take_zero, List.take_succ_cons, List.drop_zero, List.drop_succ_cons, List.drop_nil, List.length_cons, List.length_nil, Nat.zero_add, Nat.reduceAdd, List.set_cons_zero, List.set_cons_succ, List.nil_append, List.cons_append, List.append_nil, pick, List.filterMap_cons, List.filterMap_nil, List.getElem?_cons_zero, List.getElem?_cons_succ]); exact rfl) ?_
          refine at_nil ?_
          refine at_ks [0, 2, 3, 4, 5, 6, 7, 8, 9, 13, 29, 36, 65, 69, 97] (by (try simp only [keep, lk, pd, enumE, Nat.reduceBEq, Nat.reduceAdd, cond_true, cond_false]); exact rfl) ?_
          refine at_then ?_
          refine at_seq ?_
          refine at_region ?_
          refine st_p rfl rfl (p_build (cs := #[U 0, N 0, N 3]) rfl (fun _ => by kernel_rfl)) ?_
          refine st_l rfl rfl (l_obN (us := [U 0, N 0, N 3]) 0 rfl rfl rfl (by simp [Value.oneCell']) s_90 (by simp)) ?_
          rintro _ _ ⟨rfl, rfl⟩
          refine at_hp (by (try simp only [List.take_zero, List.take_succ_cons, List.drop_zero, List.drop_succ_cons, List.drop_nil, List.length_cons, List.length_nil, Nat.zero_add, Nat.reduceAdd, List.set_cons_zero, List.set_cons_succ, List.nil_append, List.cons_append, List.append_nil, pick, List.filterMap_cons, List.filterMap_nil, List.getElem?_cons_zero, List.getElem?_cons_succ]); exact rfl) ?_
          refine at_nil ?_
          refine at_ks [0, 2, 3, 4, 5, 6, 7, 8, 9, 13, 29, 36, 65, 69, 97] (by (try simp only [keep, lk, pd, enumE, Nat.reduceBEq, Nat.reduceAdd, cond_true, cond_false]); exact rfl) ?_
          refine at_then ?_
          refine at_retc ?_
          refine at_then_r ?_
          exact fin_cd 0 [1, 2, 3] (by decide) rfl rfl rfl r_90 s_90 ⟨by unfold aheadV; rw [hg]; rfl, by rw [hg]; rfl⟩
        · (try simp only [decide_eq_true_eq, decide_eq_false_iff_not, Bool.not_eq_true', Bool.not_eq_false', Bool.not_true, Bool.not_false, Bool.or_eq_true, Bool.and_eq_true, Int.not_lt, Int.not_le] at ht84)
          refine sg_p rfl rfl (p_move rfl) ?_
          refine st_p rfl rfl ((by first | exact p_pick_t rfl rfl | exact p_pick_f rfl rfl)) ?_
          refine st_p rfl rfl (p_move rfl) ?_
          refine at_split 87 rfl (fun ht87 => ?_) (fun ht87 => ?_)
          · (try simp only [decide_eq_true_eq, decide_eq_false_iff_not, Bool.not_eq_true', Bool.not_eq_false', Bool.not_true, Bool.not_false, Bool.or_eq_true, Bool.and_eq_true, Int.not_lt, Int.not_le] at ht87)
            refine sg_no rfl rfl ?_
            refine sg_no rfl rfl ?_
            refine sg_no rfl rfl ?_
            refine sg_no rfl rfl ?_
            refine sg_no rfl rfl ?_
            refine sg_no rfl rfl ?_
            refine sg_no rfl rfl ?_
            refine sg_no rfl rfl ?_
            refine sg_no rfl rfl ?_
            refine st_p rfl rfl ((by first | exact p_pick_t rfl rfl | exact p_pick_f rfl rfl)) ?_
            refine at_nil ?_
            refine at_ks [0, 2, 3, 4, 5, 6, 7, 8, 9, 13, 29, 36, 65, 69, 97] (by (try simp only [keep, lk, pd, enumE, Nat.reduceBEq, Nat.reduceAdd, cond_true, cond_false]); exact rfl) ?_
            refine at_then ?_
            refine at_cond_t rfl ?_
            have hbad : valS s c.k < c.n ∨ c.n + c.r ≤ valS s c.k := by
              refine of_decide_eq_true (hF.1.symm.trans ?_)
              rw [ht87, Bool.or_true, Bool.true_or]
            have hg : gateE s (c, false) = 3 := by simp only [gateE, Bool.false_eq_true, if_false]; rw [if_neg (by omega), if_pos hbad]
            refine at_seq ?_
            refine at_region ?_
            refine st_p rfl rfl (p_move rfl) ?_
            refine st_p rfl rfl ((by first | exact p_nil rfl | exact p_nilf rfl)) ?_
            refine st_p rfl rfl ((by first | exact p_fa0 rfl o_129_2 | exact p_fa rfl o_129_2)) ?_
            refine st_l rfl rfl ((by first | exact l_ob 0 rfl rfl rfl (by first | rfl | assumption) (by first | rfl | assumption) s_4 (by first | decide | omega | (simp only [List.length_cons, List.length_nil]; omega) | (simp; omega) | (simp; done)) | exact l_ob 1 rfl rfl rfl (by first | rfl | assumption) (by first | rfl | assumption) s_4 (by first | decide | omega | (simp only [List.length_cons, List.length_nil]; omega) | (simp; omega) | (simp; done)) | exact l_ob 2 rfl rfl rfl (by first | rfl | assumption) (by first | rfl | assumption) s_4 (by first | decide | omega | (simp only [List.length_cons, List.length_nil]; omega) | (simp; omega) | (simp; done)) | exact l_ob 3 rfl rfl rfl (by first | rfl | assumption) (by first | rfl | assumption) s_4 (by first | decide | omega | (simp only [List.length_cons, List.length_nil]; omega) | (simp; omega) | (simp; done)) | exact l_sl 0 rfl rfl rfl (by first | rfl | assumption) (by first | rfl | assumption) s_4 (by first | decide | omega | (simp only [List.length_cons, List.length_nil]; omega) | (simp; omega) | (simp; done)) | exact l_sl 1 rfl rfl rfl (by first | rfl | assumption) (by first | rfl | assumption) s_4 (by first | decide | omega | (simp only [List.length_cons, List.length_nil]; omega) | (simp; omega) | (simp; done)) | exact l_sl 2 rfl rfl rfl (by first | rfl | assumption) (by first | rfl | assumption) s_4 (by first | decide | omega | (simp only [List.length_cons, List.length_nil]; omega) | (simp; omega) | (simp; done)) | exact l_sl 3 rfl rfl rfl (by first | rfl | assumption) (by first | rfl | assumption) s_4 (by first | decide | omega | (simp only [List.length_cons, List.length_nil]; omega) | (simp; omega) | (simp; done)))) ?_
            rintro _ _ ⟨rfl, rfl⟩
            refine at_hp (by (try simp only [List.take_zero, List.take_succ_cons, List.drop_zero, List.drop_succ_cons, List.drop_nil, List.length_cons, List.length_nil, Nat.zero_add, Nat.reduceAdd, List.set_cons_zero, List.set_cons_succ, List.nil_append, List.cons_append, List.append_nil, pick, List.filterMap_cons, List.filterMap_nil, List.getElem?_cons_zero, List.getElem?_cons_succ]); exact rfl) ?_
            refine at_nil ?_
            refine at_ks [0, 2, 3, 4, 5, 6, 7, 8, 9, 13, 29, 36, 65, 69, 97] (by (try simp only [keep, lk, pd, enumE, Nat.reduceBEq, Nat.reduceAdd, cond_true, cond_false]); exact rfl) ?_
            refine at_then ?_
            refine at_seq ?_
            refine at_region ?_
            refine st_p rfl rfl (p_build (cs := #[U 0, N 0, N 3]) rfl (fun _ => by kernel_rfl)) ?_
            refine st_l rfl rfl (l_obN (us := [U 0, N 0, N 3]) 0 rfl rfl rfl (by simp [Value.oneCell']) s_90 (by simp)) ?_
            rintro _ _ ⟨rfl, rfl⟩
            refine at_hp (by (try simp only [List.take_zero, List.take_succ_cons, List.drop_zero, List.drop_succ_cons, List.drop_nil, List.length_cons, List.length_nil, Nat.zero_add, Nat.reduceAdd, List.set_cons_zero, List.set_cons_succ, List.nil_append, List.cons_append, List.append_nil, pick, List.filterMap_cons, List.filterMap_nil, List.getElem?_cons_zero, List.getElem?_cons_succ]); exact rfl) ?_
            refine at_nil ?_
            refine at_ks [0, 2, 3, 4, 5, 6, 7, 8, 9, 13, 29, 36, 65, 69, 97] (by (try simp only [keep, lk, pd, enumE, Nat.reduceBEq, Nat.reduceAdd, cond_true, cond_false]); exact rfl) ?_
            refine at_then ?_
            refine at_retc ?_
            refine at_then_r ?_
            exact fin_cd 0 [1, 2, 3] (by decide) rfl rfl rfl r_90 s_90 ⟨by unfold aheadV; rw [hg]; rfl, by rw [hg]; rfl⟩
          · (try simp only [decide_eq_true_eq, decide_eq_false_iff_not, Bool.not_eq_true', Bool.not_eq_false', Bool.not_true, Bool.not_false, Bool.or_eq_true, Bool.and_eq_true, Int.not_lt, Int.not_le] at ht87)
            refine sg_p rfl rfl (p_move rfl) ?_
            refine sg_p rfl rfl (p_move rfl) ?_
            refine sg_p rfl rfl ((by first | exact p_nil rfl | exact p_nilf rfl)) ?_
            refine sg_p rfl rfl ((by first | exact p_fa0 rfl o_129_1 | exact p_fa rfl o_129_1)) ?_
            refine sg_q rfl rfl ((by first | exact q_ob 0 rfl rfl r_71 (by first | rfl | assumption) | exact q_ob 1 rfl rfl r_71 (by first | rfl | assumption) | exact q_ob 2 rfl rfl r_71 (by first | rfl | assumption) | exact q_ob 3 rfl rfl r_71 (by first | rfl | assumption) | exact q_sl 0 rfl rfl r_71 (by first | rfl | assumption) | exact q_sl 1 rfl rfl r_71 (by first | rfl | assumption) | exact q_sl 2 rfl rfl r_71 (by first | rfl | assumption) | exact q_sl 3 rfl rfl r_71 (by first | rfl | assumption) | exact q_fr rfl r_71 (by assumption))) ?_
            refine sg_p rfl rfl ((by first | exact p_nil rfl | exact p_nilf rfl)) ?_
            refine sg_p rfl rfl ((by first | exact p_fa0 rfl o_120_1 | exact p_fa rfl o_120_1)) ?_
            refine sg_q rfl rfl ((by first | exact q_ob 0 rfl rfl r_52 (by first | rfl | assumption) | exact q_ob 1 rfl rfl r_52 (by first | rfl | assumption) | exact q_ob 2 rfl rfl r_52 (by first | rfl | assumption) | exact q_ob 3 rfl rfl r_52 (by first | rfl | assumption) | exact q_sl 0 rfl rfl r_52 (by first | rfl | assumption) | exact q_sl 1 rfl rfl r_52 (by first | rfl | assumption) | exact q_sl 2 rfl rfl r_52 (by first | rfl | assumption) | exact q_sl 3 rfl rfl r_52 (by first | rfl | assumption) | exact q_fr rfl r_52 (by assumption))) ?_
            refine sg_p rfl rfl (p_geq rfl rfl) ?_
            refine st_p rfl rfl ((by first | exact p_pick_t rfl rfl | exact p_pick_f rfl rfl)) ?_
            refine at_nil ?_
            refine at_ks [0, 2, 3, 4, 5, 6, 7, 8, 9, 13, 29, 36, 65, 69, 97] (by (try simp only [keep, lk, pd, enumE, Nat.reduceBEq, Nat.reduceAdd, cond_true, cond_false]); exact rfl) ?_
            refine at_then ?_
            refine at_cond rfl (fun ht97 => ?_) (fun ht97 => ?_)
            · (try simp only [decide_eq_true_eq, decide_eq_false_iff_not, Bool.not_eq_true', Bool.not_eq_false', Bool.not_true, Bool.not_false, Bool.or_eq_true, Bool.and_eq_true, Int.not_lt, Int.not_le] at ht97)
              have hbad : valS s c.k < c.n ∨ c.n + c.r ≤ valS s c.k := by
                refine of_decide_eq_true (hF.1.symm.trans ?_)
                rw [decide_eq_true (show c.r ≤ d by omega), Bool.or_true]
              have hg : gateE s (c, false) = 3 := by simp only [gateE, Bool.false_eq_true, if_false]; rw [if_neg (by omega), if_pos hbad]
              refine at_seq ?_
              refine at_region ?_
              refine st_p rfl rfl (p_move rfl) ?_
              refine st_p rfl rfl ((by first | exact p_nil rfl | exact p_nilf rfl)) ?_
              refine st_p rfl rfl ((by first | exact p_fa0 rfl o_129_2 | exact p_fa rfl o_129_2)) ?_
              refine st_l rfl rfl ((by first | exact l_ob 0 rfl rfl rfl (by first | rfl | assumption) (by first | rfl | assumption) s_4 (by first | decide | omega | (simp only [List.length_cons, List.length_nil]; omega) | (simp; omega) | (simp; done)) | exact l_ob 1 rfl rfl rfl (by first | rfl | assumption) (by first | rfl | assumption) s_4 (by first | decide | omega | (simp only [List.length_cons, List.length_nil]; omega) | (simp; omega) | (simp; done)) | exact l_ob 2 rfl rfl rfl (by first | rfl | assumption) (by first | rfl | assumption) s_4 (by first | decide | omega | (simp only [List.length_cons, List.length_nil]; omega) | (simp; omega) | (simp; done)) | exact l_ob 3 rfl rfl rfl (by first | rfl | assumption) (by first | rfl | assumption) s_4 (by first | decide | omega | (simp only [List.length_cons, List.length_nil]; omega) | (simp; omega) | (simp; done)) | exact l_sl 0 rfl rfl rfl (by first | rfl | assumption) (by first | rfl | assumption) s_4 (by first | decide | omega | (simp only [List.length_cons, List.length_nil]; omega) | (simp; omega) | (simp; done)) | exact l_sl 1 rfl rfl rfl (by first | rfl | assumption) (by first | rfl | assumption) s_4 (by first | decide | omega | (simp only [List.length_cons, List.length_nil]; omega) | (simp; omega) | (simp; done)) | exact l_sl 2 rfl rfl rfl (by first | rfl | assumption) (by first | rfl | assumption) s_4 (by first | decide | omega | (simp only [List.length_cons, List.length_nil]; omega) | (simp; omega) | (simp; done)) | exact l_sl 3 rfl rfl rfl (by first | rfl | assumption) (by first | rfl | assumption) s_4 (by first | decide | omega | (simp only [List.length_cons, List.length_nil]; omega) | (simp; omega) | (simp; done)))) ?_
              rintro _ _ ⟨rfl, rfl⟩
              refine at_hp (by (try simp only [List.take_zero, List.take_succ_cons, List.drop_zero, List.drop_succ_cons, List.drop_nil, List.length_cons, List.length_nil, Nat.zero_add, Nat.reduceAdd, List.set_cons_zero, List.set_cons_succ, List.nil_append, List.cons_append, List.append_nil, pick, List.filterMap_cons, List.filterMap_nil, List.getElem?_cons_zero, List.getElem?_cons_succ]); exact rfl) ?_
              refine at_nil ?_
              refine at_ks [0, 2, 3, 4, 5, 6, 7, 8, 9, 13, 29, 36, 65, 69, 97] (by (try simp only [keep, lk, pd, enumE, Nat.reduceBEq, Nat.reduceAdd, cond_true, cond_false]); exact rfl) ?_
              refine at_then ?_
              refine at_seq ?_
              refine at_region ?_
              refine st_p rfl rfl (p_build (cs := #[U 0, N 0, N 3]) rfl (fun _ => by kernel_rfl)) ?_
              refine st_l rfl rfl (l_obN (us := [U 0, N 0, N 3]) 0 rfl rfl rfl (by simp [Value.oneCell']) s_90 (by simp)) ?_
              rintro _ _ ⟨rfl, rfl⟩
              refine at_hp (by (try simp only [List.take_zero, List.take_succ_cons, List.drop_zero, List.drop_succ_cons, List.drop_nil, List.length_cons, List.length_nil, Nat.zero_add, Nat.reduceAdd, List.set_cons_zero, List.set_cons_succ, List.nil_append, List.cons_append, List.append_nil, pick, List.filterMap_cons, List.filterMap_nil, List.getElem?_cons_zero, List.getElem?_cons_succ]); exact rfl) ?_
              refine at_nil ?_
              refine at_ks [0, 2, 3, 4, 5, 6, 7, 8, 9, 13, 29, 36, 65, 69, 97] (by (try simp only [keep, lk, pd, enumE, Nat.reduceBEq, Nat.reduceAdd, cond_true, cond_false]); exact rfl) ?_
              refine at_then ?_
              refine at_retc ?_
              refine at_then_r ?_
              exact fin_cd 0 [1, 2, 3] (by decide) rfl rfl rfl r_90 s_90 ⟨by unfold aheadV; rw [hg]; rfl, by rw [hg]; rfl⟩
            · (try simp only [decide_eq_true_eq, decide_eq_false_iff_not, Bool.not_eq_true', Bool.not_eq_false', Bool.not_true, Bool.not_false, Bool.or_eq_true, Bool.and_eq_true, Int.not_lt, Int.not_le] at ht97)
              have hok : ¬ (valS s c.k < c.n ∨ c.n + c.r ≤ valS s c.k) := by
                intro hh
                have h1 := hF.1
                rw [decide_eq_true hh, ht87, decide_eq_false (show ¬ 0 < o by omega), decide_eq_false (show ¬ c.r ≤ d by omega)] at h1
                cases h1
              have hd := hF.2 hok
              have hg : gateE s (c, false) = 0 := by simp only [gateE, Bool.false_eq_true, if_false]; rw [if_neg (by omega), if_neg hok]
              refine at_skip ?_
              refine at_then ?_
              refine at_seq ?_
              refine at_region ?_
              refine st_p rfl rfl (p_move rfl) ?_
              refine st_p rfl rfl (p_build (cs := #[U (d : Nat), N 0, N 0]) rfl (fun _ => by kernel_rfl)) ?_
              refine st_l rfl rfl (l_obN (us := [U (d : Nat), N 0, N 0]) 0 rfl rfl rfl (by simp [Value.oneCell']) s_90 (by simp)) ?_
              rintro _ _ ⟨rfl, rfl⟩
              refine at_hp (by (try simp only [List.take_zero, List.take_succ_cons, List.drop_zero, List.drop_succ_cons, List.drop_nil, List.length_cons, List.length_nil, Nat.zero_add, Nat.reduceAdd, List.set_cons_zero, List.set_cons_succ, List.nil_append, List.cons_append, List.append_nil, pick, List.filterMap_cons, List.filterMap_nil, List.getElem?_cons_zero, List.getElem?_cons_succ]); exact rfl) ?_
              refine at_nil ?_
              refine at_ks [0, 2, 3, 4, 5, 6, 7, 8, 9, 13, 29, 36, 65, 69, 97] (by (try simp only [keep, lk, pd, enumE, Nat.reduceBEq, Nat.reduceAdd, cond_true, cond_false]); exact rfl) ?_
              refine at_then ?_
              refine at_retc ?_
              exact fin_cd 0 [1, 2, 3] (by decide) rfl rfl rfl r_90 s_90 ⟨by unfold aheadV; rw [hg, if_pos rfl, ← hd]; rfl, by rw [hg]; rfl⟩

theorem rdBit_calls (b cb : Nat) (dv : Value) (s : ByteArray) (x : Cd × Bool) (p : Int) (ho : x.1.ok) (hk : x.1.k < 40000000000000) (F : Frm) :
    SC Try.prog 46 #[.pointer (some ⟨b, 0, none⟩), N p] (readR b cb dv s x) F (fun u H' => u = .agg #[U (dBit s x p).1, N 0, N (dBit s x p).2.1] ∧ ∃ dv', H' = readR b cb dv' s (dBit s x p).2.2) := by
  obtain ⟨c, bad⟩ := x
  simp only at ho hk ⊢
  unfold readR refH refR
  have hs := shr_in ho.lo p
  have h1 := ho.k5; have h2 := ho.top; have h3 := ho.lo; have h4 := ho.hi
  have hp := cpn_in p
  have hc : ((c.r / 4096 : Nat) : Int) * cp p = (shr_ c.r p : Nat) := by rw [← hp.2.2]; exact (Int.natCast_mul _ _).symm
  refine sc_in (args := [.pointer (some ⟨b, 0, none⟩), N p]) Try.func46 rfl rfl (Nat.le_of_ble_eq_true rfl) ?_
  refine at_ks [0, 1, 4, 5, 6, 11, 26] (by (try simp only [keep, lk, pd, enumE, Nat.reduceBEq, Nat.reduceAdd, cond_true, cond_false]); exact rfl) ?_
  refine at_seq ?_
  refine at_region ?_
  refine st_l rfl rfl (l_alloc _ y_90) ?_
  rintro _ _ ⟨b4, rfl, rfl⟩
  refine at_hp (by (try simp only [List.take_zero, List.take_succ_cons, List.drop_zero, List.drop_succ_cons, List.drop_nil, List.length_cons, List.length_nil, Nat.zero_add, Nat.reduceAdd, List.set_cons_zero, List.set_cons_succ, List.nil_append, List.cons_append, List.append_nil, pick, List.filterMap_cons, List.filterMap_nil, List.getElem?_cons_zero, List.getElem?_cons_succ]); exact rfl) ?_
  refine at_nil ?_
  refine at_ks [0, 1, 4, 5, 6, 11, 26] (by (try simp only [keep, lk, pd, enumE, Nat.reduceBEq, Nat.reduceAdd, cond_true, cond_false]); exact rfl) ?_
  refine at_then ?_
  refine at_seq ?_
  refine at_region ?_
  refine st_p rfl rfl (p_move rfl) ?_
  refine st_l rfl rfl (l_call (first := []) [1, 2, 3] [0] rfl c_70 rfl (by decide) (fun F1 hF1 hs1 => ahead_calls b cb dv s (c, bad) ho (by simp only; omega) F1)) ?_
  rintro _ _ ⟨_, ⟨rfl, rfl⟩, rfl⟩
  unfold readR refH refR
  refine at_hp (by (try simp only [List.take_zero, List.take_succ_cons, List.drop_zero, List.drop_succ_cons, List.drop_nil, List.length_cons, List.length_nil, Nat.zero_add, Nat.reduceAdd, List.set_cons_zero, List.set_cons_succ, List.nil_append, List.cons_append, List.append_nil, pick, List.filterMap_cons, List.filterMap_nil, List.getElem?_cons_zero, List.getElem?_cons_succ]); exact rfl) ?_
  refine st_l rfl rfl (l_alloc _ y_90) ?_
  rintro _ _ ⟨b5, rfl, rfl⟩
  refine at_hp (by (try simp only [List.take_zero, List.take_succ_cons, List.drop_zero, List.drop_succ_cons, List.drop_nil, List.length_cons, List.length_nil, Nat.zero_add, Nat.reduceAdd, List.set_cons_zero, List.set_cons_succ, List.nil_append, List.cons_append, List.append_nil, pick, List.filterMap_cons, List.filterMap_nil, List.getElem?_cons_zero, List.getElem?_cons_succ]); exact rfl) ?_
  refine st_l rfl rfl (l_obN (us := [U (aheadV s (c, bad) : Nat), N 0, N (gateE s (c, bad) : Nat)]) 0 rfl rfl rfl (by simp [Value.oneCell']) s_90 (by simp)) ?_
  rintro _ _ ⟨rfl, rfl⟩
  refine at_hp (by (try simp only [List.take_zero, List.take_succ_cons, List.drop_zero, List.drop_succ_cons, List.drop_nil, List.length_cons, List.length_nil, Nat.zero_add, Nat.reduceAdd, List.set_cons_zero, List.set_cons_succ, List.nil_append, List.cons_append, List.append_nil, pick, List.filterMap_cons, List.filterMap_nil, List.getElem?_cons_zero, List.getElem?_cons_succ]); exact rfl) ?_
  refine at_nil ?_
  refine at_ks [0, 1, 4, 5, 6, 11, 26] (by (try simp only [keep, lk, pd, enumE, Nat.reduceBEq, Nat.reduceAdd, cond_true, cond_false]); exact rfl) ?_
  refine at_then ?_
  refine at_seq ?_
  refine at_seq ?_
  refine at_region ?_
  refine st_p rfl rfl ((by first | exact p_fa0 rfl o_90_2 | exact p_fa rfl o_90_2)) ?_
  refine st_q rfl rfl ((by first | exact q_ob 0 rfl rfl r_3 (by first | rfl | assumption) | exact q_ob 1 rfl rfl r_3 (by first | rfl | assumption) | exact q_ob 2 rfl rfl r_3 (by first | rfl | assumption) | exact q_ob 3 rfl rfl r_3 (by first | rfl | assumption) | exact q_ob 4 rfl rfl r_3 (by first | rfl | assumption) | exact q_ob 5 rfl rfl r_3 (by first | rfl | assumption) | exact q_sl 0 rfl rfl r_3 (by first | rfl | assumption) | exact q_sl 1 rfl rfl r_3 (by first | rfl | assumption) | exact q_sl 2 rfl rfl r_3 (by first | rfl | assumption) | exact q_sl 3 rfl rfl r_3 (by first | rfl | assumption) | exact q_sl 4 rfl rfl r_3 (by first | rfl | assumption) | exact q_sl 5 rfl rfl r_3 (by first | rfl | assumption) | exact q_fr rfl r_3 (by assumption))) ?_
  refine st_p rfl rfl (p_neq rfl rfl) ?_
  refine at_nil ?_
  refine at_ks [0, 1, 4, 5, 6, 11, 26] (by (try simp only [keep, lk, pd, enumE, Nat.reduceBEq, Nat.reduceAdd, cond_true, cond_false]); exact rfl) ?_
  refine at_then ?_
  refine at_cond rfl (fun ht11 => ?_) (fun ht11 => ?_)
  · (try simp only [decide_eq_true_eq, decide_eq_false_iff_not, Bool.not_eq_true', Bool.not_eq_false', Bool.not_true, Bool.not_false, Bool.or_eq_true, Bool.and_eq_true, Int.not_lt, Int.not_le] at ht11)
    have h0 : gateE s (c, bad) ≠ 0 := by omega
    rw [if_neg h0]
    refine at_seq ?_
    refine at_region ?_
    refine st_q rfl rfl (q_obN (us := [U (aheadV s (c, bad) : Nat), N 0, N (gateE s (c, bad) : Nat)]) 0 rfl rfl r_90 s_90 rfl rfl) ?_
    refine st_l rfl rfl (l_obN (us := [U (aheadV s (c, bad) : Nat), N 0, N (gateE s (c, bad) : Nat)]) 4 rfl rfl rfl (by simp [Value.oneCell']) s_90 (by simp)) ?_
    rintro _ _ ⟨rfl, rfl⟩
    refine at_hp (by (try simp only [List.take_zero, List.take_succ_cons, List.drop_zero, List.drop_succ_cons, List.drop_nil, List.length_cons, List.length_nil, Nat.zero_add, Nat.reduceAdd, List.set_cons_zero, List.set_cons_succ, List.nil_append, List.cons_append, List.append_nil, pick, List.filterMap_cons, List.filterMap_nil, List.getElem?_cons_zero, List.getElem?_cons_succ]); exact rfl) ?_
    refine at_nil ?_
    refine at_ks [0, 1, 4, 5, 6, 11, 26] (by (try simp only [keep, lk, pd, enumE, Nat.reduceBEq, Nat.reduceAdd, cond_true, cond_false]); exact rfl) ?_
    refine at_then ?_
    refine at_retc ?_
    refine at_then_r ?_
    exact fin_cd 4 [1, 2, 3] (by decide) rfl rfl rfl r_90 s_90 ⟨by unfold dBit aheadV; rw [if_neg h0, if_neg h0]; rfl, dv, by unfold dBit; rw [if_neg h0]; rfl⟩
  · (try simp only [decide_eq_true_eq, decide_eq_false_iff_not, Bool.not_eq_true', Bool.not_eq_false', Bool.not_true, Bool.not_false, Bool.or_eq_true, Bool.and_eq_true, Int.not_lt, Int.not_le] at ht11)
    have h0 : gateE s (c, bad) = 0 := by omega
    have hv : aheadV s (c, bad) = valS s c.k - c.n := if_pos h0
    rw [if_pos h0, hv]
    obtain ⟨k0, k1, k2, k3⟩ := gate_ok h0
    simp only at k0 k1 k2 k3
    subst k0
    refine at_skip ?_
    refine at_then ?_
    refine at_seq ?_
    refine at_region ?_
    refine st_p rfl rfl (p_assign rfl) ?_
    refine at_nil ?_
    refine at_ks [0, 1, 4, 5, 6, 11, 26] (by (try simp only [keep, lk, pd, enumE, Nat.reduceBEq, Nat.reduceAdd, cond_true, cond_false]); exact rfl) ?_
    refine at_then ?_
    refine at_seq ?_
    refine at_seq ?_
    refine at_drawH [0, 1, 2, 3, 4, 5, 6, 7, 8, 9, 10, 11, 12, 13] [0, 1, 0, 4, 12, 28, 60, 124, 252, 508, 0, 1024, 4092, 8191] [1, 5, 8, 11] [] mixd (by kernel_rfl) ?_
    refine rd_p rfl rfl rfl rfl rfl ((by first | exact p_fa0 rfl o_90_0 | exact p_fa rfl o_90_0)) ?_
    refine rd_q rfl rfl rfl rfl rfl ((by first | exact q_ob 0 rfl rfl r_52 (by first | rfl | assumption) | exact q_ob 1 rfl rfl r_52 (by first | rfl | assumption) | exact q_ob 2 rfl rfl r_52 (by first | rfl | assumption) | exact q_ob 3 rfl rfl r_52 (by first | rfl | assumption) | exact q_ob 4 rfl rfl r_52 (by first | rfl | assumption) | exact q_ob 5 rfl rfl r_52 (by first | rfl | assumption) | exact q_sl 0 rfl rfl r_52 (by first | rfl | assumption) | exact q_sl 1 rfl rfl r_52 (by first | rfl | assumption) | exact q_sl 2 rfl rfl r_52 (by first | rfl | assumption) | exact q_sl 3 rfl rfl r_52 (by first | rfl | assumption) | exact q_sl 4 rfl rfl r_52 (by first | rfl | assumption) | exact q_sl 5 rfl rfl r_52 (by first | rfl | assumption) | exact q_fr rfl r_52 (by assumption))) (fun _ h => h) ?_
    refine rd_p rfl rfl rfl rfl rfl (p_move rfl) ?_
    refine rd_p rfl rfl rfl rfl rfl ((by first | exact p_nil rfl | exact p_nilf rfl)) ?_
    refine rd_p rfl rfl rfl rfl rfl ((by first | exact p_fa0 rfl o_129_1 | exact p_fa rfl o_129_1)) ?_
    refine rd_q rfl rfl rfl rfl rfl ((by first | exact q_ob 0 rfl rfl r_71 (by first | rfl | assumption) | exact q_ob 1 rfl rfl r_71 (by first | rfl | assumption) | exact q_ob 2 rfl rfl r_71 (by first | rfl | assumption) | exact q_ob 3 rfl rfl r_71 (by first | rfl | assumption) | exact q_ob 4 rfl rfl r_71 (by first | rfl | assumption) | exact q_ob 5 rfl rfl r_71 (by first | rfl | assumption) | exact q_sl 0 rfl rfl r_71 (by first | rfl | assumption) | exact q_sl 1 rfl rfl r_71 (by first | rfl | assumption) | exact q_sl 2 rfl rfl r_71 (by first | rfl | assumption) | exact q_sl 3 rfl rfl r_71 (by first | rfl | assumption) | exact q_sl 4 rfl rfl r_71 (by first | rfl | assumption) | exact q_sl 5 rfl rfl r_71 (by first | rfl | assumption) | exact q_fr rfl r_71 (by assumption))) (fun _ h => h) ?_
    refine rd_p rfl rfl rfl rfl rfl ((by first | exact p_nil rfl | exact p_nilf rfl)) ?_
    refine rd_p rfl rfl rfl rfl rfl ((by first | exact p_fa0 rfl o_120_1 | exact p_fa rfl o_120_1)) ?_
    refine rd_q rfl rfl rfl rfl rfl ((by first | exact q_ob 0 rfl rfl r_52 (by first | rfl | assumption) | exact q_ob 1 rfl rfl r_52 (by first | rfl | assumption) | exact q_ob 2 rfl rfl r_52 (by first | rfl | assumption) | exact q_ob 3 rfl rfl r_52 (by first | rfl | assumption) | exact q_ob 4 rfl rfl r_52 (by first | rfl | assumption) | exact q_ob 5 rfl rfl r_52 (by first | rfl | assumption) | exact q_sl 0 rfl rfl r_52 (by first | rfl | assumption) | exact q_sl 1 rfl rfl r_52 (by first | rfl | assumption) | exact q_sl 2 rfl rfl r_52 (by first | rfl | assumption) | exact q_sl 3 rfl rfl r_52 (by first | rfl | assumption) | exact q_sl 4 rfl rfl r_52 (by first | rfl | assumption) | exact q_sl 5 rfl rfl r_52 (by first | rfl | assumption) | exact q_fr rfl r_52 (by assumption))) (fun _ h => h) ?_
    refine rd_p rfl rfl rfl rfl rfl (p_shr (r := ((c.r / 4096 : Nat) : Int)) rfl rfl (by decide) ((shr12 (by omega)).trans (by omega))) ?_
    refine rd_p rfl rfl rfl rfl rfl (p_move rfl) ?_
    refine rd_q rfl rfl rfl rfl rfl (q_call (first := []) rfl c_61 rfl (fun F1 hF1 hs1 => rchance_calls _ F1)) (fun _ h => h) ?_
    refine rd_p rfl rfl rfl rfl rfl (p_mul rfl rfl ((congrArg _ hc).trans (nwu64 (by omega)))) ?_
    refine rd_p rfl rfl rfl rfl rfl (p_lss rfl rfl) ?_
    refine rd_nil ?_
    refine at_ks [0, 1, 4, 5, 6, 11, 26] (by (try simp only [keep, lk, pd, enumE, Nat.reduceBEq, Nat.reduceAdd, cond_true, cond_false]); exact rfl) ?_
    refine at_then ?_
    refine at_cond rfl (fun ht26 => ?_) (fun ht26 => ?_)
    · (try simp only [decide_eq_true_eq, decide_eq_false_iff_not, Bool.not_eq_true', Bool.not_eq_false', Bool.not_true, Bool.not_false, Bool.or_eq_true, Bool.and_eq_true, Int.not_lt, Int.not_le] at ht26)
      refine at_region ?_
      refine st_p rfl rfl (p_assign rfl) ?_
      refine at_nil ?_
      refine at_ks [0, 1, 4, 5, 6, 11, 26] (by (try simp only [keep, lk, pd, enumE, Nat.reduceBEq, Nat.reduceAdd, cond_true, cond_false]); exact rfl) ?_
      refine at_then ?_
      refine at_seq ?_
      refine at_region ?_
      refine st_p rfl rfl (p_move rfl) ?_
      refine st_p rfl rfl ((by first | exact p_nil rfl | exact p_nilf rfl)) ?_
      refine st_p rfl rfl ((by first | exact p_fa0 rfl o_129_1 | exact p_fa rfl o_129_1)) ?_
      refine st_q rfl rfl ((by first | exact q_ob 0 rfl rfl r_71 (by first | rfl | assumption) | exact q_ob 1 rfl rfl r_71 (by first | rfl | assumption) | exact q_ob 2 rfl rfl r_71 (by first | rfl | assumption) | exact q_ob 3 rfl rfl r_71 (by first | rfl | assumption) | exact q_ob 4 rfl rfl r_71 (by first | rfl | assumption) | exact q_ob 5 rfl rfl r_71 (by first | rfl | assumption) | exact q_sl 0 rfl rfl r_71 (by first | rfl | assumption) | exact q_sl 1 rfl rfl r_71 (by first | rfl | assumption) | exact q_sl 2 rfl rfl r_71 (by first | rfl | assumption) | exact q_sl 3 rfl rfl r_71 (by first | rfl | assumption) | exact q_sl 4 rfl rfl r_71 (by first | rfl | assumption) | exact q_sl 5 rfl rfl r_71 (by first | rfl | assumption) | exact q_fr rfl r_71 (by assumption))) ?_
      refine st_p rfl rfl (p_move rfl) ?_
      refine st_p rfl rfl (p_move rfl) ?_
      refine st_l rfl rfl (l_call (first := []) [2, 3] [0, 1, 4] rfl c_35 rfl (by decide) (fun F1 hF1 hs1 => rBit_calls cb dv c p 1 ho (by omega) F1)) ?_
      rintro _ _ ⟨_, ⟨rfl, dv2, rfl⟩, rfl⟩
      unfold refH refR
      refine at_hp (by (try simp only [List.take_zero, List.take_succ_cons, List.drop_zero, List.drop_succ_cons, List.drop_nil, List.length_cons, List.length_nil, Nat.zero_add, Nat.reduceAdd, List.set_cons_zero, List.set_cons_succ, List.nil_append, List.cons_append, List.append_nil, pick, List.filterMap_cons, List.filterMap_nil, List.getElem?_cons_zero, List.getElem?_cons_succ]); exact rfl) ?_
      refine at_nil ?_
      refine at_ks [0, 1, 4, 5, 6, 11, 26] (by (try simp only [keep, lk, pd, enumE, Nat.reduceBEq, Nat.reduceAdd, cond_true, cond_false]); exact rfl) ?_
      refine at_then ?_
      refine at_seq ?_
      refine at_region ?_
      refine st_p rfl rfl (p_move rfl) ?_
      refine st_p rfl rfl (p_conv rfl Try.underlying3 Try.underlying52 (by first | exact nw64 (by omega) | exact nwu64 (by omega) | exact nwu8 (by omega) | exact nwu16 (by omega) | exact wu64 _ | exact wu8 _ | exact wi64 _ | rfl)) ?_
      refine st_p rfl rfl (p_build (cs := #[U 1, N 0, N 0]) rfl (fun _ => by kernel_rfl)) ?_
      refine st_l rfl rfl (l_obN (us := [U 1, N 0, N 0]) 4 rfl rfl rfl (by simp [Value.oneCell']) s_90 (by simp)) ?_
      rintro _ _ ⟨rfl, rfl⟩
      refine at_hp (by (try simp only [List.take_zero, List.take_succ_cons, List.drop_zero, List.drop_succ_cons, List.drop_nil, List.length_cons, List.length_nil, Nat.zero_add, Nat.reduceAdd, List.set_cons_zero, List.set_cons_succ, List.nil_append, List.cons_append, List.append_nil, pick, List.filterMap_cons, List.filterMap_nil, List.getElem?_cons_zero, List.getElem?_cons_succ]); exact rfl) ?_
      refine at_nil ?_
      refine at_ks [0, 1, 4, 5, 6, 11, 26] (by (try simp only [keep, lk, pd, enumE, Nat.reduceBEq, Nat.reduceAdd, cond_true, cond_false]); exact rfl) ?_
      refine at_then ?_
      refine at_retc ?_
      exact fin_cd 4 [3, 0, 1] (by decide) rfl rfl rfl r_90 s_90 ⟨by unfold dBit; rw [if_pos h0, if_pos (by simp only; omega)], dv2, by unfold dBit; rw [if_pos h0, if_pos (by simp only; omega)]; rfl⟩
    · (try simp only [decide_eq_true_eq, decide_eq_false_iff_not, Bool.not_eq_true', Bool.not_eq_false', Bool.not_true, Bool.not_false, Bool.or_eq_true, Bool.and_eq_true, Int.not_lt, Int.not_le] at ht26)
      refine at_skip ?_
      refine at_then ?_
      refine at_seq ?_
      refine at_region ?_
      refine st_p rfl rfl (p_move rfl) ?_
      refine st_p rfl rfl ((by first | exact p_nil rfl | exact p_nilf rfl)) ?_
      refine st_p rfl rfl ((by first | exact p_fa0 rfl o_129_1 | exact p_fa rfl o_129_1)) ?_
      refine st_q rfl rfl ((by first | exact q_ob 0 rfl rfl r_71 (by first | rfl | assumption) | exact q_ob 1 rfl rfl r_71 (by first | rfl | assumption) | exact q_ob 2 rfl rfl r_71 (by first | rfl | assumption) | exact q_ob 3 rfl rfl r_71 (by first | rfl | assumption) | exact q_ob 4 rfl rfl r_71 (by first | rfl | assumption) | exact q_ob 5 rfl rfl r_71 (by first | rfl | assumption) | exact q_sl 0 rfl rfl r_71 (by first | rfl | assumption) | exact q_sl 1 rfl rfl r_71 (by first | rfl | assumption) | exact q_sl 2 rfl rfl r_71 (by first | rfl | assumption) | exact q_sl 3 rfl rfl r_71 (by first | rfl | assumption) | exact q_sl 4 rfl rfl r_71 (by first | rfl | assumption) | exact q_sl 5 rfl rfl r_71 (by first | rfl | assumption) | exact q_fr rfl r_71 (by assumption))) ?_
      refine st_p rfl rfl (p_move rfl) ?_
      refine st_p rfl rfl (p_move rfl) ?_
      refine st_l rfl rfl (l_call (first := []) [2, 3] [0, 1, 4] rfl c_35 rfl (by decide) (fun F1 hF1 hs1 => rBit_calls cb dv c p 0 ho (by omega) F1)) ?_
      rintro _ _ ⟨_, ⟨rfl, dv2, rfl⟩, rfl⟩
      unfold refH refR
      refine at_hp (by (try simp only [List.take_zero, List.take_succ_cons, List.drop_zero, List.drop_succ_cons, List.drop_nil, List.length_cons, List.length_nil, Nat.zero_add, Nat.reduceAdd, List.set_cons_zero, List.set_cons_succ, List.nil_append, List.cons_append, List.append_nil, pick, List.filterMap_cons, List.filterMap_nil, List.getElem?_cons_zero, List.getElem?_cons_succ]); exact rfl) ?_
      refine at_nil ?_
      refine at_ks [0, 1, 4, 5, 6, 11, 26] (by (try simp only [keep, lk, pd, enumE, Nat.reduceBEq, Nat.reduceAdd, cond_true, cond_false]); exact rfl) ?_
      refine at_then ?_
      refine at_seq ?_
      refine at_region ?_
      refine st_p rfl rfl (p_move rfl) ?_
      refine st_p rfl rfl (p_conv rfl Try.underlying3 Try.underlying52 (by first | exact nw64 (by omega) | exact nwu64 (by omega) | exact nwu8 (by omega) | exact nwu16 (by omega) | exact wu64 _ | exact wu8 _ | exact wi64 _ | rfl)) ?_
      refine st_p rfl rfl (p_build (cs := #[U 0, N 0, N 0]) rfl (fun _ => by kernel_rfl)) ?_
      refine st_l rfl rfl (l_obN (us := [U 0, N 0, N 0]) 4 rfl rfl rfl (by simp [Value.oneCell']) s_90 (by simp)) ?_
      rintro _ _ ⟨rfl, rfl⟩
      refine at_hp (by (try simp only [List.take_zero, List.take_succ_cons, List.drop_zero, List.drop_succ_cons, List.drop_nil, List.length_cons, List.length_nil, Nat.zero_add, Nat.reduceAdd, List.set_cons_zero, List.set_cons_succ, List.nil_append, List.cons_append, List.append_nil, pick, List.filterMap_cons, List.filterMap_nil, List.getElem?_cons_zero, List.getElem?_cons_succ]); exact rfl) ?_
      refine at_nil ?_
      refine at_ks [0, 1, 4, 5, 6, 11, 26] (by (try simp only [keep, lk, pd, enumE, Nat.reduceBEq, Nat.reduceAdd, cond_true, cond_false]); exact rfl) ?_
      refine at_then ?_
      refine at_retc ?_
      exact fin_cd 4 [3, 0, 1] (by decide) rfl rfl rfl r_90 s_90 ⟨by unfold dBit; rw [if_pos h0, if_neg (by simp only; omega)], dv2, by unfold dBit; rw [if_pos h0, if_neg (by simp only; omega)]; rfl⟩

theorem rdDirect_calls (b cb : Nat) (dv : Value) (s : ByteArray) (x : Cd × Bool) (n : Int) (ho : x.1.ok) (hk : x.1.k < 39000000000000) (F : Frm) :
    SC Try.prog 47 #[.pointer (some ⟨b, 0, none⟩), N n] (readR b cb dv s x) F (fun u H' => u = .agg #[U (dDir s x n).1, N 0, N (dDir s x n).2.1] ∧ ∃ dv', H' = readR b cb dv' s (dDir s x n).2.2) := by
  have hn := dirN_in n
  refine sc_in (args := [.pointer (some ⟨b, 0, none⟩), N n]) Try.func47 rfl rfl (Nat.le_of_ble_eq_true rfl) ?_
  refine at_ks [0, 1, 4, 5, 6, 7, 8, 14, 21, 33] (by (try simp only [keep, lk, pd, enumE, Nat.reduceBEq, Nat.reduceAdd, cond_true, cond_false]); exact rfl) ?_
  refine at_seq ?_
  refine at_region ?_
  refine st_l rfl rfl (l_alloc _ y_90) ?_
  rintro _ _ ⟨b4, rfl, rfl⟩
  refine at_hp (by (try simp only [List.take_zero, List.take_succ_cons, List.drop_zero, List.drop_succ_cons, List.drop_nil, List.length_cons, List.length_nil, Nat.zero_add, Nat.reduceAdd, List.set_cons_zero, List.set_cons_succ, List.nil_append, List.cons_append, List.append_nil, pick, List.filterMap_cons, List.filterMap_nil, List.getElem?_cons_zero, List.getElem?_cons_succ]); exact rfl) ?_
  refine at_nil ?_
  refine at_ks [0, 1, 4, 5, 6, 7, 8, 14, 21, 33] (by (try simp only [keep, lk, pd, enumE, Nat.reduceBEq, Nat.reduceAdd, cond_true, cond_false]); exact rfl) ?_
  refine at_then ?_
  refine at_seq ?_
  refine at_region ?_
  refine st_p rfl rfl (p_move rfl) ?_
  refine st_p rfl rfl (p_min rfl rfl (by first | assumption | rfl)) ?_
  refine st_p rfl rfl (p_max (r := ((dirN n : Nat) : Int)) rfl rfl hn.1.symm) ?_
  refine st_p rfl rfl (p_assign rfl) ?_
  refine at_nil ?_
  refine at_ks [0, 1, 4, 5, 6, 7, 8, 14, 21, 33] (by (try simp only [keep, lk, pd, enumE, Nat.reduceBEq, Nat.reduceAdd, cond_true, cond_false]); exact rfl) ?_
  refine at_then ?_
  refine at_seq ?_
  refine at_region ?_
  refine st_p rfl rfl (p_assign rfl) ?_
  refine at_nil ?_
  refine at_ks [0, 1, 4, 5, 6, 7, 8, 14, 21, 33] (by (try simp only [keep, lk, pd, enumE, Nat.reduceBEq, Nat.reduceAdd, cond_true, cond_false]); exact rfl) ?_
  refine at_then ?_
  refine at_seq ?_
  refine at_seq ?_
  refine at_region ?_
  refine st_p rfl rfl (p_assign rfl) ?_
  refine at_nil ?_
  refine at_ks [0, 1, 4, 5, 6, 7, 8, 14, 21, 33] (by (try simp only [keep, lk, pd, enumE, Nat.reduceBEq, Nat.reduceAdd, cond_true, cond_false]); exact rfl) ?_
  refine at_then ?_
  refine at_block ?_
  refine at_ks [0, 1, 4, 5, 6] (by (try simp only [keep, lk, pd, enumE, Nat.reduceBEq, Nat.reduceAdd, cond_true, cond_false]); exact rfl) ?_
  refine at_loop (fun k E H => ∃ (i j acc : Nat) (dv1 : Value) (x1 : Cd × Bool), E = [(0, .pointer (some ⟨b, 0, none⟩)), (1, N (dirN n : Nat)), (4, .pointer (some ⟨b4, 0, none⟩)), (5, U acc), (6, N (i : Int))] ∧ H = .ob b4 [U 0, N 0, N 0] 90 :: readR b cb dv1 s x1 ∧ k = j + 1 ∧ i + j = dirN n ∧ acc < 18446744073709551616 ∧ x1.1.ok ∧ x1.1.k + 2 * j ≤ x.1.k + 128 ∧ dDirG s j acc x1 = dDir s x n) (dirN n + 1) (⟨0, dirN n, 0, dv, x, rfl, rfl, rfl, by omega, by decide, ho, by omega, rfl⟩) ?_
  rintro k _ _ ⟨i, j, acc, dv1, x1, rfl, rfl, rfl, hij, hacc, ho1, hk1, he⟩
  obtain ⟨c, bad⟩ := x1
  simp only at ho1 hk1 ⊢
  unfold readR refH refR
  refine at_seq ?_
  refine at_seq ?_
  refine at_region ?_
  refine st_p rfl rfl (p_move rfl) ?_
  refine st_p rfl rfl (p_move rfl) ?_
  refine st_p rfl rfl (p_lss rfl rfl) ?_
  refine at_nil ?_
  refine at_ks [0, 1, 4, 5, 6, 7, 8, 14, 21, 33] (by (try simp only [keep, lk, pd, enumE, Nat.reduceBEq, Nat.reduceAdd, cond_true, cond_false]); exact rfl) ?_
  refine at_then ?_
  refine at_cond rfl (fun ht14 => ?_) (fun ht14 => ?_)
  · (try simp only [decide_eq_true_eq, decide_eq_false_iff_not, Bool.not_eq_true', Bool.not_eq_false', Bool.not_true, Bool.not_false, Bool.or_eq_true, Bool.and_eq_true, Int.not_lt, Int.not_le] at ht14)
    obtain ⟨j, rfl⟩ : ∃ q, j = q + 1 := ⟨j - 1, by omega⟩
    refine at_skip ?_
    refine at_then ?_
    refine at_seq ?_
    refine at_block ?_
    refine at_seq ?_
    refine at_region ?_
    refine st_p rfl rfl (p_move rfl) ?_
    refine st_l rfl rfl (l_call (first := []) [1, 2, 3] [0] rfl c_70 rfl (by decide) (fun F1 hF1 hs1 => ahead_calls b cb dv1 s (c, bad) ho1 (by simp only; omega) F1)) ?_
    rintro _ _ ⟨_, ⟨rfl, rfl⟩, rfl⟩
    unfold readR refH refR
    refine at_hp (by (try simp only [List.take_zero, List.take_succ_cons, List.drop_zero, List.drop_succ_cons, List.drop_nil, List.length_cons, List.length_nil, Nat.zero_add, Nat.reduceAdd, List.set_cons_zero, List.set_cons_succ, List.nil_append, List.cons_append, List.append_nil, pick, List.filterMap_cons, List.filterMap_nil, List.getElem?_cons_zero, List.getElem?_cons_succ]); exact rfl) ?_
    refine st_l rfl rfl (l_alloc _ y_90) ?_
    rintro _ _ ⟨b7, rfl, rfl⟩
    refine at_hp (by (try simp only [List.take_zero, List.take_succ_cons, List.drop_zero, List.drop_succ_cons, List.drop_nil, List.length_cons, List.length_nil, Nat.zero_add, Nat.reduceAdd, List.set_cons_zero, List.set_cons_succ, List.nil_append, List.cons_append, List.append_nil, pick, List.filterMap_cons, List.filterMap_nil, List.getElem?_cons_zero, List.getElem?_cons_succ]); exact rfl) ?_
    refine st_l rfl rfl (l_obN (us := [U (aheadV s (c, bad) : Nat), N 0, N (gateE s (c, bad) : Nat)]) 0 rfl rfl rfl (by simp [Value.oneCell']) s_90 (by simp)) ?_
    rintro _ _ ⟨rfl, rfl⟩
    refine at_hp (by (try simp only [List.take_zero, List.take_succ_cons, List.drop_zero, List.drop_succ_cons, List.drop_nil, List.length_cons, List.length_nil, Nat.zero_add, Nat.reduceAdd, List.set_cons_zero, List.set_cons_succ, List.nil_append, List.cons_append, List.append_nil, pick, List.filterMap_cons, List.filterMap_nil, List.getElem?_cons_zero, List.getElem?_cons_succ]); exact rfl) ?_
    refine at_nil ?_
    refine at_ks [0, 1, 4, 5, 6, 7, 8, 14, 21, 33] (by (try simp only [keep, lk, pd, enumE, Nat.reduceBEq, Nat.reduceAdd, cond_true, cond_false]); exact rfl) ?_
    refine at_then ?_
    refine at_seq ?_
    refine at_seq ?_
    refine at_region ?_
    refine st_p rfl rfl ((by first | exact p_fa0 rfl o_90_2 | exact p_fa rfl o_90_2)) ?_
    refine st_q rfl rfl ((by first | exact q_ob 0 rfl rfl r_3 (by first | rfl | assumption) | exact q_ob 1 rfl rfl r_3 (by first | rfl | assumption) | exact q_ob 2 rfl rfl r_3 (by first | rfl | assumption) | exact q_ob 3 rfl rfl r_3 (by first | rfl | assumption) | exact q_ob 4 rfl rfl r_3 (by first | rfl | assumption) | exact q_ob 5 rfl rfl r_3 (by first | rfl | assumption) | exact q_sl 0 rfl rfl r_3 (by first | rfl | assumption) | exact q_sl 1 rfl rfl r_3 (by first | rfl | assumption) | exact q_sl 2 rfl rfl r_3 (by first | rfl | assumption) | exact q_sl 3 rfl rfl r_3 (by first | rfl | assumption) | exact q_sl 4 rfl rfl r_3 (by first | rfl | assumption) | exact q_sl 5 rfl rfl r_3 (by first | rfl | assumption) | exact q_fr rfl r_3 (by assumption))) ?_
    refine st_p rfl rfl (p_neq rfl rfl) ?_
    refine at_nil ?_
    refine at_ks [0, 1, 4, 5, 6, 7, 8, 14, 21, 33] (by (try simp only [keep, lk, pd, enumE, Nat.reduceBEq, Nat.reduceAdd, cond_true, cond_false]); exact rfl) ?_
    refine at_then ?_
    refine at_cond rfl (fun ht21 => ?_) (fun ht21 => ?_)
    · (try simp only [decide_eq_true_eq, decide_eq_false_iff_not, Bool.not_eq_true', Bool.not_eq_false', Bool.not_true, Bool.not_false, Bool.or_eq_true, Bool.and_eq_true, Int.not_lt, Int.not_le] at ht21)
      have h0 : gateE s (c, bad) ≠ 0 := by omega
      rw [dDirG, if_neg h0] at he
      rw [if_neg h0]
      refine at_seq ?_
      refine at_region ?_
      refine st_q rfl rfl (q_obN (us := [U (aheadV s (c, bad) : Nat), N 0, N (gateE s (c, bad) : Nat)]) 0 rfl rfl r_90 s_90 rfl rfl) ?_
      refine st_l rfl rfl (l_obN (us := [U (aheadV s (c, bad) : Nat), N 0, N (gateE s (c, bad) : Nat)]) 4 rfl rfl rfl (by simp [Value.oneCell']) s_90 (by simp)) ?_
      rintro _ _ ⟨rfl, rfl⟩
      refine at_hp (by (try simp only [List.take_zero, List.take_succ_cons, List.drop_zero, List.drop_succ_cons, List.drop_nil, List.length_cons, List.length_nil, Nat.zero_add, Nat.reduceAdd, List.set_cons_zero, List.set_cons_succ, List.nil_append, List.cons_append, List.append_nil, pick, List.filterMap_cons, List.filterMap_nil, List.getElem?_cons_zero, List.getElem?_cons_succ]); exact rfl) ?_
      refine at_nil ?_
      refine at_ks [0, 1, 4, 5, 6, 7, 8, 14, 21, 33] (by (try simp only [keep, lk, pd, enumE, Nat.reduceBEq, Nat.reduceAdd, cond_true, cond_false]); exact rfl) ?_
      refine at_then ?_
      refine at_retc ?_
      refine at_then_r ?_
      refine at_inb_r ?_
      refine at_then_r ?_
      refine at_then_r ?_
      refine at_inb_r ?_
      refine at_then_r ?_
      exact fin_cd 4 [1, 2, 3] (by decide) rfl rfl rfl r_90 s_90 ⟨by rw [← he]; unfold aheadV; rw [if_neg h0]; rfl, dv1, by rw [← he]; rfl⟩
    · (try simp only [decide_eq_true_eq, decide_eq_false_iff_not, Bool.not_eq_true', Bool.not_eq_false', Bool.not_true, Bool.not_false, Bool.or_eq_true, Bool.and_eq_true, Int.not_lt, Int.not_le] at ht21)
      have h0 : gateE s (c, bad) = 0 := by omega
      have hv : aheadV s (c, bad) = valS s c.k - c.n := if_pos h0
      rw [if_pos h0, hv]
      obtain ⟨k0, k1, k2, k3⟩ := gate_ok h0
      simp only at k0 k1 k2 k3
      subst k0
      have h3 := ho1.lo
      have h4 := ho1.hi
      rw [dDirG, if_pos h0] at he
      simp only at he
      refine at_skip ?_
      refine at_then ?_
      refine at_seq ?_
      refine at_region ?_
      refine st_p rfl rfl (p_assign rfl) ?_
      refine at_nil ?_
      refine at_ks [0, 1, 4, 5, 6, 7, 8, 14, 21, 33] (by (try simp only [keep, lk, pd, enumE, Nat.reduceBEq, Nat.reduceAdd, cond_true, cond_false]); exact rfl) ?_
      refine at_then ?_
      refine at_seq ?_
      refine at_seq ?_
      refine at_drawH [0, 1, 2, 3, 4, 5, 6, 7, 8, 9, 10] [0, 1, 0, 4, 12, 28, 60, 124, 252, 508, 1023] [1, 5, 8] [] mixd (by kernel_rfl) ?_
      refine rd_p rfl rfl rfl rfl rfl ((by first | exact p_fa0 rfl o_90_0 | exact p_fa rfl o_90_0)) ?_
      refine rd_q rfl rfl rfl rfl rfl ((by first | exact q_ob 0 rfl rfl r_52 (by first | rfl | assumption) | exact q_ob 1 rfl rfl r_52 (by first | rfl | assumption) | exact q_ob 2 rfl rfl r_52 (by first | rfl | assumption) | exact q_ob 3 rfl rfl r_52 (by first | rfl | assumption) | exact q_ob 4 rfl rfl r_52 (by first | rfl | assumption) | exact q_ob 5 rfl rfl r_52 (by first | rfl | assumption) | exact q_sl 0 rfl rfl r_52 (by first | rfl | assumption) | exact q_sl 1 rfl rfl r_52 (by first | rfl | assumption) | exact q_sl 2 rfl rfl r_52 (by first | rfl | assumption) | exact q_sl 3 rfl rfl r_52 (by first | rfl | assumption) | exact q_sl 4 rfl rfl r_52 (by first | rfl | assumption) | exact q_sl 5 rfl rfl r_52 (by first | rfl | assumption) | exact q_fr rfl r_52 (by assumption))) (fun _ h => h) ?_
      refine rd_p rfl rfl rfl rfl rfl (p_move rfl) ?_
      refine rd_p rfl rfl rfl rfl rfl ((by first | exact p_nil rfl | exact p_nilf rfl)) ?_
      refine rd_p rfl rfl rfl rfl rfl ((by first | exact p_fa0 rfl o_129_1 | exact p_fa rfl o_129_1)) ?_
      refine rd_q rfl rfl rfl rfl rfl ((by first | exact q_ob 0 rfl rfl r_71 (by first | rfl | assumption) | exact q_ob 1 rfl rfl r_71 (by first | rfl | assumption) | exact q_ob 2 rfl rfl r_71 (by first | rfl | assumption) | exact q_ob 3 rfl rfl r_71 (by first | rfl | assumption) | exact q_ob 4 rfl rfl r_71 (by first | rfl | assumption) | exact q_ob 5 rfl rfl r_71 (by first | rfl | assumption) | exact q_sl 0 rfl rfl r_71 (by first | rfl | assumption) | exact q_sl 1 rfl rfl r_71 (by first | rfl | assumption) | exact q_sl 2 rfl rfl r_71 (by first | rfl | assumption) | exact q_sl 3 rfl rfl r_71 (by first | rfl | assumption) | exact q_sl 4 rfl rfl r_71 (by first | rfl | assumption) | exact q_sl 5 rfl rfl r_71 (by first | rfl | assumption) | exact q_fr rfl r_71 (by assumption))) (fun _ h => h) ?_
      refine rd_p rfl rfl rfl rfl rfl ((by first | exact p_nil rfl | exact p_nilf rfl)) ?_
      refine rd_p rfl rfl rfl rfl rfl ((by first | exact p_fa0 rfl o_120_1 | exact p_fa rfl o_120_1)) ?_
      refine rd_q rfl rfl rfl rfl rfl ((by first | exact q_ob 0 rfl rfl r_52 (by first | rfl | assumption) | exact q_ob 1 rfl rfl r_52 (by first | rfl | assumption) | exact q_ob 2 rfl rfl r_52 (by first | rfl | assumption) | exact q_ob 3 rfl rfl r_52 (by first | rfl | assumption) | exact q_ob 4 rfl rfl r_52 (by first | rfl | assumption) | exact q_ob 5 rfl rfl r_52 (by first | rfl | assumption) | exact q_sl 0 rfl rfl r_52 (by first | rfl | assumption) | exact q_sl 1 rfl rfl r_52 (by first | rfl | assumption) | exact q_sl 2 rfl rfl r_52 (by first | rfl | assumption) | exact q_sl 3 rfl rfl r_52 (by first | rfl | assumption) | exact q_sl 4 rfl rfl r_52 (by first | rfl | assumption) | exact q_sl 5 rfl rfl r_52 (by first | rfl | assumption) | exact q_fr rfl r_52 (by assumption))) (fun _ h => h) ?_
      refine rd_p rfl rfl rfl rfl rfl (p_shr (r := ((c.r / 2 : Nat) : Int)) rfl rfl (by decide) ((shr1 (by omega)).trans (by omega))) ?_
      refine rd_p rfl rfl rfl rfl rfl (p_geq rfl rfl) ?_
      refine rd_nil ?_
      refine at_ks [0, 1, 4, 5, 6, 7, 8, 14, 21, 33] (by (try simp only [keep, lk, pd, enumE, Nat.reduceBEq, Nat.reduceAdd, cond_true, cond_false]); exact rfl) ?_
      refine at_then ?_
      refine at_cond rfl (fun ht33 => ?_) (fun ht33 => ?_)
      · (try simp only [decide_eq_true_eq, decide_eq_false_iff_not, Bool.not_eq_true', Bool.not_eq_false', Bool.not_true, Bool.not_false, Bool.or_eq_true, Bool.and_eq_true, Int.not_lt, Int.not_le] at ht33)
        rw [if_neg (by omega)] at he
        refine at_region ?_
        refine st_p rfl rfl (p_assign rfl) ?_
        refine at_nil ?_
        refine at_ks [0, 1, 4, 5, 6, 7, 8, 14, 21, 33] (by (try simp only [keep, lk, pd, enumE, Nat.reduceBEq, Nat.reduceAdd, cond_true, cond_false]); exact rfl) ?_
        refine at_then ?_
        refine at_seq ?_
        refine at_region ?_
        refine st_p rfl rfl (p_move rfl) ?_
        refine st_p rfl rfl ((by first | exact p_nil rfl | exact p_nilf rfl)) ?_
        refine st_p rfl rfl ((by first | exact p_fa0 rfl o_129_1 | exact p_fa rfl o_129_1)) ?_
        refine st_q rfl rfl ((by first | exact q_ob 0 rfl rfl r_71 (by first | rfl | assumption) | exact q_ob 1 rfl rfl r_71 (by first | rfl | assumption) | exact q_ob 2 rfl rfl r_71 (by first | rfl | assumption) | exact q_ob 3 rfl rfl r_71 (by first | rfl | assumption) | exact q_ob 4 rfl rfl r_71 (by first | rfl | assumption) | exact q_ob 5 rfl rfl r_71 (by first | rfl | assumption) | exact q_sl 0 rfl rfl r_71 (by first | rfl | assumption) | exact q_sl 1 rfl rfl r_71 (by first | rfl | assumption) | exact q_sl 2 rfl rfl r_71 (by first | rfl | assumption) | exact q_sl 3 rfl rfl r_71 (by first | rfl | assumption) | exact q_sl 4 rfl rfl r_71 (by first | rfl | assumption) | exact q_sl 5 rfl rfl r_71 (by first | rfl | assumption) | exact q_fr rfl r_71 (by assumption))) ?_
        refine st_p rfl rfl (p_move rfl) ?_
        refine st_l rfl rfl (l_call (first := []) [2, 3] [0, 1, 4] rfl c_38 rfl (by decide) (fun F1 hF1 hs1 => rDirect_calls cb dv1 c 1 1 ho1 (by omega) (by decide) F1)) ?_
        rintro _ _ ⟨_, ⟨rfl, dv2, rfl⟩, rfl⟩
        rw [show dirC c 1 (dirN 1) = halfC c 1 from rfl]
        unfold refH refR
        refine at_hp (by (try simp only [List.take_zero, List.take_succ_cons, List.drop_zero, List.drop_succ_cons, List.drop_nil, List.length_cons, List.length_nil, Nat.zero_add, Nat.reduceAdd, List.set_cons_zero, List.set_cons_succ, List.nil_append, List.cons_append, List.append_nil, pick, List.filterMap_cons, List.filterMap_nil, List.getElem?_cons_zero, List.getElem?_cons_succ]); exact rfl) ?_
        refine at_nil ?_
        refine at_ks [0, 1, 4, 5, 6, 7, 8, 14, 21, 33] (by (try simp only [keep, lk, pd, enumE, Nat.reduceBEq, Nat.reduceAdd, cond_true, cond_false]); exact rfl) ?_
        refine at_then ?_
        refine at_region ?_
        refine st_p rfl rfl (p_move rfl) ?_
        refine st_p rfl rfl (p_shl (r := ((acc * 2 % 18446744073709551616 : Nat) : Int)) rfl rfl (by decide) (by rw [wu64]; simp [IntKind.bits])) ?_
        refine st_p rfl rfl (p_move rfl) ?_
        refine st_p rfl rfl (p_or (r := ((acc * 2 % 18446744073709551616 + 1 : Nat) : Int)) rfl rfl (or1b (b := 1) (by decide) (by omega) (by omega))) ?_
        refine st_p rfl rfl (p_assign rfl) ?_
        refine at_nil ?_
        refine at_ks [0, 1, 4, 5, 6, 7, 8, 14, 21, 33] (by (try simp only [keep, lk, pd, enumE, Nat.reduceBEq, Nat.reduceAdd, cond_true, cond_false]); exact rfl) ?_
        refine at_inb ?_
        refine at_then ?_
        refine at_region ?_
        refine st_p rfl rfl (p_move rfl) ?_
        refine st_p rfl rfl (p_add rfl rfl (by first | exact nw64 (by omega) | exact nwu64 (by omega) | exact nwu8 (by omega) | exact nwu16 (by omega) | exact wu64 _ | exact wu8 _ | exact wi64 _ | rfl)) ?_
        refine st_p rfl rfl (p_assign rfl) ?_
        refine at_nil ?_
        refine at_ks [0, 1, 4, 5, 6, 7, 8, 14, 21, 33] (by (try simp only [keep, lk, pd, enumE, Nat.reduceBEq, Nat.reduceAdd, cond_true, cond_false]); exact rfl) ?_
        refine at_ks [0, 1, 4, 5, 6] (by (try simp only [keep, lk, pd, enumE, Nat.reduceBEq, Nat.reduceAdd, cond_true, cond_false]); exact rfl) ?_
        refine at_re [4, 3, 0, 1] (by decide) ?_
        refine at_back (j + 1) (by omega) ⟨i + 1, j, acc * 2 % 18446744073709551616 + 1, dv2, (halfC c 1, false), rfl, rfl, rfl, by omega, by omega, ho1.half _, ?_, he⟩
        have := halfC_k c 1
        simp only; omega
      · (try simp only [decide_eq_true_eq, decide_eq_false_iff_not, Bool.not_eq_true', Bool.not_eq_false', Bool.not_true, Bool.not_false, Bool.or_eq_true, Bool.and_eq_true, Int.not_lt, Int.not_le] at ht33)
        rw [if_pos (by omega)] at he
        refine at_skip ?_
        refine at_then ?_
        refine at_seq ?_
        refine at_region ?_
        refine st_p rfl rfl (p_move rfl) ?_
        refine st_p rfl rfl ((by first | exact p_nil rfl | exact p_nilf rfl)) ?_
        refine st_p rfl rfl ((by first | exact p_fa0 rfl o_129_1 | exact p_fa rfl o_129_1)) ?_
        refine st_q rfl rfl ((by first | exact q_ob 0 rfl rfl r_71 (by first | rfl | assumption) | exact q_ob 1 rfl rfl r_71 (by first | rfl | assumption) | exact q_ob 2 rfl rfl r_71 (by first | rfl | assumption) | exact q_ob 3 rfl rfl r_71 (by first | rfl | assumption) | exact q_ob 4 rfl rfl r_71 (by first | rfl | assumption) | exact q_ob 5 rfl rfl r_71 (by first | rfl | assumption) | exact q_sl 0 rfl rfl r_71 (by first | rfl | assumption) | exact q_sl 1 rfl rfl r_71 (by first | rfl | assumption) | exact q_sl 2 rfl rfl r_71 (by first | rfl | assumption) | exact q_sl 3 rfl rfl r_71 (by first | rfl | assumption) | exact q_sl 4 rfl rfl r_71 (by first | rfl | assumption) | exact q_sl 5 rfl rfl r_71 (by first | rfl | assumption) | exact q_fr rfl r_71 (by assumption))) ?_
        refine st_p rfl rfl (p_move rfl) ?_
        refine st_l rfl rfl (l_call (first := []) [2, 3] [0, 1, 4] rfl c_38 rfl (by decide) (fun F1 hF1 hs1 => rDirect_calls cb dv1 c 0 1 ho1 (by omega) (by decide) F1)) ?_
        rintro _ _ ⟨_, ⟨rfl, dv2, rfl⟩, rfl⟩
        rw [show dirC c 0 (dirN 1) = halfC c 0 from rfl]
        unfold refH refR
        refine at_hp (by (try simp only [List.take_zero, List.take_succ_cons, List.drop_zero, List.drop_succ_cons, List.drop_nil, List.length_cons, List.length_nil, Nat.zero_add, Nat.reduceAdd, List.set_cons_zero, List.set_cons_succ, List.nil_append, List.cons_append, List.append_nil, pick, List.filterMap_cons, List.filterMap_nil, List.getElem?_cons_zero, List.getElem?_cons_succ]); exact rfl) ?_
        refine at_nil ?_
        refine at_ks [0, 1, 4, 5, 6, 7, 8, 14, 21, 33] (by (try simp only [keep, lk, pd, enumE, Nat.reduceBEq, Nat.reduceAdd, cond_true, cond_false]); exact rfl) ?_
        refine at_then ?_
        refine at_region ?_
        refine st_p rfl rfl (p_move rfl) ?_
        refine st_p rfl rfl (p_shl (r := ((acc * 2 % 18446744073709551616 : Nat) : Int)) rfl rfl (by decide) (by rw [wu64]; simp [IntKind.bits])) ?_
        refine st_p rfl rfl (p_move rfl) ?_
        refine st_p rfl rfl (p_or (r := ((acc * 2 % 18446744073709551616 + 0 : Nat) : Int)) rfl rfl (or1b (b := 0) (by decide) (by omega) (by omega))) ?_
        refine st_p rfl rfl (p_assign rfl) ?_
        refine at_nil ?_
        refine at_ks [0, 1, 4, 5, 6, 7, 8, 14, 21, 33] (by (try simp only [keep, lk, pd, enumE, Nat.reduceBEq, Nat.reduceAdd, cond_true, cond_false]); exact rfl) ?_
        refine at_inb ?_
        refine at_then ?_
        refine at_region ?_
        refine st_p rfl rfl (p_move rfl) ?_
        refine st_p rfl rfl (p_add rfl rfl (by first | exact nw64 (by omega) | exact nwu64 (by omega) | exact nwu8 (by omega) | exact nwu16 (by omega) | exact wu64 _ | exact wu8 _ | exact wi64 _ | rfl)) ?_
        refine st_p rfl rfl (p_assign rfl) ?_
        refine at_nil ?_
        refine at_ks [0, 1, 4, 5, 6, 7, 8, 14, 21, 33] (by (try simp only [keep, lk, pd, enumE, Nat.reduceBEq, Nat.reduceAdd, cond_true, cond_false]); exact rfl) ?_
        refine at_ks [0, 1, 4, 5, 6] (by (try simp only [keep, lk, pd, enumE, Nat.reduceBEq, Nat.reduceAdd, cond_true, cond_false]); exact rfl) ?_
        refine at_re [4, 3, 0, 1] (by decide) ?_
        refine at_back (j + 1) (by omega) ⟨i + 1, j, acc * 2 % 18446744073709551616 + 0, dv2, (halfC c 0, false), rfl, rfl, rfl, by omega, by omega, ho1.half _, ?_, he⟩
        have := halfC_k c 0
        simp only; omega
  · (try simp only [decide_eq_true_eq, decide_eq_false_iff_not, Bool.not_eq_true', Bool.not_eq_false', Bool.not_true, Bool.not_false, Bool.or_eq_true, Bool.and_eq_true, Int.not_lt, Int.not_le] at ht14)
    obtain rfl : j = 0 := by omega
    refine at_exit ?_
    refine at_then_x ?_
    refine at_then_x ?_
    refine at_inb_exit ?_
    refine at_then ?_
    refine at_seq ?_
    refine at_region ?_
    refine st_p rfl rfl (p_move rfl) ?_
    refine st_p rfl rfl (p_build (cs := #[U (acc : Nat), N 0, N 0]) rfl (fun _ => by kernel_rfl)) ?_
    refine st_l rfl rfl (l_obN (us := [U (acc : Nat), N 0, N 0]) 0 rfl rfl rfl (by simp [Value.oneCell']) s_90 (by simp)) ?_
    rintro _ _ ⟨rfl, rfl⟩
    refine at_hp (by (try simp only [List.take_zero, List.take_succ_cons, List.drop_zero, List.drop_succ_cons, List.drop_nil, List.length_cons, List.length_nil, Nat.zero_add, Nat.reduceAdd, List.set_cons_zero, List.set_cons_succ, List.nil_append, List.cons_append, List.append_nil, pick, List.filterMap_cons, List.filterMap_nil, List.getElem?_cons_zero, List.getElem?_cons_succ]); exact rfl) ?_
    refine at_nil ?_
    refine at_ks [0, 1, 4, 5, 6, 7, 8, 14, 21, 33] (by (try simp only [keep, lk, pd, enumE, Nat.reduceBEq, Nat.reduceAdd, cond_true, cond_false]); exact rfl) ?_
    refine at_then ?_
    refine at_retc ?_
    exact fin_cd 0 [1, 2, 3] (by decide) rfl rfl rfl r_90 s_90 ⟨by rw [← he]; rfl, dv1, by rw [← he]; rfl⟩

theorem rdEnd_calls (b cb : Nat) (dv : Value) (s : ByteArray) (x : Cd × Bool) (ho : x.1.ok) (hk : x.1.k < 40000000000000) (F : Frm) :
    SC Try.prog 48 #[.pointer (some ⟨b, 0, none⟩)] (readR b cb dv s x) F (fun u H' => u = N (dEnd s x) ∧ H' = []) := by
  obtain ⟨c, bad⟩ := x
  simp only at ho hk ⊢
  unfold readR refH refR
  have h4 := ho.hi; have h6 := ho.top
  have hnk := (top_lt ho.k5 (m := c.n) (by omega)).1
  refine sc_in (args := [.pointer (some ⟨b, 0, none⟩)]) Try.func48 rfl rfl (Nat.le_of_ble_eq_true rfl) ?_
  refine at_ks [0, 2, 3, 8, 20] (by (try simp only [keep, lk, pd, enumE, Nat.reduceBEq, Nat.reduceAdd, cond_true, cond_false]); exact rfl) ?_
  refine at_seq ?_
  refine at_region ?_
  refine st_p rfl rfl (p_assign rfl) ?_
  refine at_nil ?_
  refine at_ks [0, 2, 3, 8, 20] (by (try simp only [keep, lk, pd, enumE, Nat.reduceBEq, Nat.reduceAdd, cond_true, cond_false]); exact rfl) ?_
  refine at_then ?_
  refine at_seq ?_
  refine at_region ?_
  refine st_p rfl rfl (p_move rfl) ?_
  refine st_l rfl rfl (l_call (first := []) [0, 1, 2] [] rfl c_70 rfl (by decide) (fun F1 hF1 hs1 => ahead_calls b cb dv s (c, bad) ho (by simp only; omega) F1)) ?_
  rintro _ _ ⟨_, ⟨rfl, rfl⟩, rfl⟩
  unfold readR refH refR
  refine at_hp (by (try simp only [List.take_zero, List.take_succ_cons, List.drop_zero, List.drop_succ_cons, List.drop_nil, List.length_cons, List.length_nil, Nat.zero_add, Nat.reduceAdd, List.set_cons_zero, List.set_cons_succ, List.nil_append, List.cons_append, List.append_nil, pick, List.filterMap_cons, List.filterMap_nil, List.getElem?_cons_zero, List.getElem?_cons_succ]); exact rfl) ?_
  refine st_l rfl rfl (l_alloc _ y_90) ?_
  rintro _ _ ⟨b3, rfl, rfl⟩
  refine at_hp (by (try simp only [List.take_zero, List.take_succ_cons, List.drop_zero, List.drop_succ_cons, List.drop_nil, List.length_cons, List.length_nil, Nat.zero_add, Nat.reduceAdd, List.set_cons_zero, List.set_cons_succ, List.nil_append, List.cons_append, List.append_nil, pick, List.filterMap_cons, List.filterMap_nil, List.getElem?_cons_zero, List.getElem?_cons_succ]); exact rfl) ?_
  refine st_l rfl rfl (l_obN (us := [U (aheadV s (c, bad) : Nat), N 0, N (gateE s (c, bad) : Nat)]) 0 rfl rfl rfl (by simp [Value.oneCell']) s_90 (by simp)) ?_
  rintro _ _ ⟨rfl, rfl⟩
  refine at_hp (by (try simp only [List.take_zero, List.take_succ_cons, List.drop_zero, List.drop_succ_cons, List.drop_nil, List.length_cons, List.length_nil, Nat.zero_add, Nat.reduceAdd, List.set_cons_zero, List.set_cons_succ, List.nil_append, List.cons_append, List.append_nil, pick, List.filterMap_cons, List.filterMap_nil, List.getElem?_cons_zero, List.getElem?_cons_succ]); exact rfl) ?_
  refine at_nil ?_
  refine at_ks [0, 2, 3, 8, 20] (by (try simp only [keep, lk, pd, enumE, Nat.reduceBEq, Nat.reduceAdd, cond_true, cond_false]); exact rfl) ?_
  refine at_then ?_
  refine at_seq ?_
  refine at_seq ?_
  refine at_region ?_
  refine st_p rfl rfl ((by first | exact p_fa0 rfl o_90_2 | exact p_fa rfl o_90_2)) ?_
  refine st_q rfl rfl ((by first | exact q_ob 0 rfl rfl r_3 (by first | rfl | assumption) | exact q_ob 1 rfl rfl r_3 (by first | rfl | assumption) | exact q_ob 2 rfl rfl r_3 (by first | rfl | assumption) | exact q_ob 3 rfl rfl r_3 (by first | rfl | assumption) | exact q_ob 4 rfl rfl r_3 (by first | rfl | assumption) | exact q_ob 5 rfl rfl r_3 (by first | rfl | assumption) | exact q_sl 0 rfl rfl r_3 (by first | rfl | assumption) | exact q_sl 1 rfl rfl r_3 (by first | rfl | assumption) | exact q_sl 2 rfl rfl r_3 (by first | rfl | assumption) | exact q_sl 3 rfl rfl r_3 (by first | rfl | assumption) | exact q_sl 4 rfl rfl r_3 (by first | rfl | assumption) | exact q_sl 5 rfl rfl r_3 (by first | rfl | assumption) | exact q_fr rfl r_3 (by assumption))) ?_
  refine st_p rfl rfl (p_neq rfl rfl) ?_
  refine at_nil ?_
  refine at_ks [0, 2, 3, 8, 20] (by (try simp only [keep, lk, pd, enumE, Nat.reduceBEq, Nat.reduceAdd, cond_true, cond_false]); exact rfl) ?_
  refine at_then ?_
  refine at_cond rfl (fun ht8 => ?_) (fun ht8 => ?_)
  · (try simp only [decide_eq_true_eq, decide_eq_false_iff_not, Bool.not_eq_true', Bool.not_eq_false', Bool.not_true, Bool.not_false, Bool.or_eq_true, Bool.and_eq_true, Int.not_lt, Int.not_le] at ht8)
    have h0 : gateE s (c, bad) ≠ 0 := by omega
    refine at_seq ?_
    refine at_region ?_
    refine st_p rfl rfl ((by first | exact p_fa0 rfl o_90_2 | exact p_fa rfl o_90_2)) ?_
    refine st_q rfl rfl ((by first | exact q_ob 0 rfl rfl r_3 (by first | rfl | assumption) | exact q_ob 1 rfl rfl r_3 (by first | rfl | assumption) | exact q_ob 2 rfl rfl r_3 (by first | rfl | assumption) | exact q_ob 3 rfl rfl r_3 (by first | rfl | assumption) | exact q_ob 4 rfl rfl r_3 (by first | rfl | assumption) | exact q_ob 5 rfl rfl r_3 (by first | rfl | assumption) | exact q_sl 0 rfl rfl r_3 (by first | rfl | assumption) | exact q_sl 1 rfl rfl r_3 (by first | rfl | assumption) | exact q_sl 2 rfl rfl r_3 (by first | rfl | assumption) | exact q_sl 3 rfl rfl r_3 (by first | rfl | assumption) | exact q_sl 4 rfl rfl r_3 (by first | rfl | assumption) | exact q_sl 5 rfl rfl r_3 (by first | rfl | assumption) | exact q_fr rfl r_3 (by assumption))) ?_
    refine st_p rfl rfl (p_assign rfl) ?_
    refine at_nil ?_
    refine at_ks [0, 2, 3, 8, 20] (by (try simp only [keep, lk, pd, enumE, Nat.reduceBEq, Nat.reduceAdd, cond_true, cond_false]); exact rfl) ?_
    refine at_then ?_
    refine at_retc ?_
    refine at_then_r ?_
    refine at_re [] (by decide) ?_
    exact fin_1 rfl rfl (by
        unfold dEnd
        rw [if_neg h0]
        exact ⟨rfl, rfl⟩)
  · (try simp only [decide_eq_true_eq, decide_eq_false_iff_not, Bool.not_eq_true', Bool.not_eq_false', Bool.not_true, Bool.not_false, Bool.or_eq_true, Bool.and_eq_true, Int.not_lt, Int.not_le] at ht8)
    have h0 : gateE s (c, bad) = 0 := by omega
    have hv : aheadV s (c, bad) = valS s c.k - c.n := if_pos h0
    rw [if_pos h0, hv]
    obtain ⟨k0, k1, k2, k3⟩ := gate_ok h0
    simp only at k0 k1 k2 k3
    subst k0
    have he := end_eq (s := s) (k := c.k) (n := c.n) k1 hnk
    refine at_skip ?_
    refine at_then ?_
    refine at_seq ?_
    refine at_seq ?_
    refine at_drawH [0, 1, 2, 3, 4, 5, 6, 7, 8, 9] [0, 1, 3, 7, 0, 16, 48, 112, 240, 511] [3, 7] [8] mixd (by kernel_rfl) ?_
    refine rd_p rfl rfl rfl rfl rfl (p_move rfl) ?_
    refine rd_p rfl rfl rfl rfl rfl ((by first | exact p_nil rfl | exact p_nilf rfl)) ?_
    refine rd_p rfl rfl rfl rfl rfl ((by first | exact p_fa0 rfl o_129_0 | exact p_fa rfl o_129_0)) ?_
    refine rd_q rfl rfl rfl rfl rfl ((by first | exact q_ob 0 rfl rfl r_9 (by first | rfl | assumption) | exact q_ob 1 rfl rfl r_9 (by first | rfl | assumption) | exact q_ob 2 rfl rfl r_9 (by first | rfl | assumption) | exact q_ob 3 rfl rfl r_9 (by first | rfl | assumption) | exact q_ob 4 rfl rfl r_9 (by first | rfl | assumption) | exact q_ob 5 rfl rfl r_9 (by first | rfl | assumption) | exact q_sl 0 rfl rfl r_9 (by first | rfl | assumption) | exact q_sl 1 rfl rfl r_9 (by first | rfl | assumption) | exact q_sl 2 rfl rfl r_9 (by first | rfl | assumption) | exact q_sl 3 rfl rfl r_9 (by first | rfl | assumption) | exact q_sl 4 rfl rfl r_9 (by first | rfl | assumption) | exact q_sl 5 rfl rfl r_9 (by first | rfl | assumption) | exact q_fr rfl r_9 (by assumption))) (fun _ h => h) ?_
    refine rd_p rfl rfl rfl rfl rfl (p_move rfl) ?_
    refine rd_p rfl rfl rfl rfl rfl ((by first | exact p_nil rfl | exact p_nilf rfl)) ?_
    refine rd_p rfl rfl rfl rfl rfl ((by first | exact p_fa0 rfl o_129_1 | exact p_fa rfl o_129_1)) ?_
    refine rd_q rfl rfl rfl rfl rfl ((by first | exact q_ob 0 rfl rfl r_71 (by first | rfl | assumption) | exact q_ob 1 rfl rfl r_71 (by first | rfl | assumption) | exact q_ob 2 rfl rfl r_71 (by first | rfl | assumption) | exact q_ob 3 rfl rfl r_71 (by first | rfl | assumption) | exact q_ob 4 rfl rfl r_71 (by first | rfl | assumption) | exact q_ob 5 rfl rfl r_71 (by first | rfl | assumption) | exact q_sl 0 rfl rfl r_71 (by first | rfl | assumption) | exact q_sl 1 rfl rfl r_71 (by first | rfl | assumption) | exact q_sl 2 rfl rfl r_71 (by first | rfl | assumption) | exact q_sl 3 rfl rfl r_71 (by first | rfl | assumption) | exact q_sl 4 rfl rfl r_71 (by first | rfl | assumption) | exact q_sl 5 rfl rfl r_71 (by first | rfl | assumption) | exact q_fr rfl r_71 (by assumption))) (fun _ h => h) ?_
    refine rd_l rfl rfl rfl rfl (l_call (first := []) [2, 3] [0, 1] rfl c_39 rfl (by decide) (fun F1 hF1 hs1 => rBytes_calls cb dv c F1)) (fun _ => by rintro _ _ ⟨_, ⟨rfl, rfl⟩, rfl⟩; unfold refH refR; exact (sub_re [2, 3, 0, 1] (by decide) rfl)) ?_
    rintro _ _ ⟨_, ⟨rfl, rfl⟩, rfl⟩; unfold refH refR
    refine rd_hp (by (try simp only [List.take_zero, List.take_succ_cons, List.drop_zero, List.drop_succ_cons, List.drop_nil, List.length_cons, List.length_nil, Nat.zero_add, Nat.reduceAdd, List.set_cons_zero, List.set_cons_succ, List.nil_append, List.cons_append, List.append_nil, pick, List.filterMap_cons, List.filterMap_nil, List.getElem?_cons_zero, List.getElem?_cons_succ]); exact rfl) ?_
    refine rd_p rfl rfl rfl rfl rfl (p_nes rfl rfl) ?_
    refine rd_nil ?_
    refine at_ks [0, 2, 3, 8, 20] (by (try simp only [keep, lk, pd, enumE, Nat.reduceBEq, Nat.reduceAdd, cond_true, cond_false]); exact rfl) ?_
    refine at_then ?_
    refine at_cond rfl (fun ht20 => ?_) (fun ht20 => ?_)
    · (try simp only [decide_eq_true_eq, decide_eq_false_iff_not, Bool.not_eq_true', Bool.not_eq_false', Bool.not_true, Bool.not_false, Bool.or_eq_true, Bool.and_eq_true, Int.not_lt, Int.not_le] at ht20)
      refine at_seq ?_
      refine at_region ?_
      refine st_p rfl rfl (p_move rfl) ?_
      refine st_p rfl rfl ((by first | exact p_nil rfl | exact p_nilf rfl)) ?_
      refine st_p rfl rfl ((by first | exact p_fa0 rfl o_129_2 | exact p_fa rfl o_129_2)) ?_
      refine st_l rfl rfl ((by first | exact l_ob 0 rfl rfl rfl (by first | rfl | assumption) (by first | rfl | assumption) s_4 (by first | decide | omega | (simp only [List.length_cons, List.length_nil]; omega) | (simp; omega) | (simp; done)) | exact l_ob 1 rfl rfl rfl (by first | rfl | assumption) (by first | rfl | assumption) s_4 (by first | decide | omega | (simp only [List.length_cons, List.length_nil]; omega) | (simp; omega) | (simp; done)) | exact l_ob 2 rfl rfl rfl (by first | rfl | assumption) (by first | rfl | assumption) s_4 (by first | decide | omega | (simp only [List.length_cons, List.length_nil]; omega) | (simp; omega) | (simp; done)) | exact l_ob 3 rfl rfl rfl (by first | rfl | assumption) (by first | rfl | assumption) s_4 (by first | decide | omega | (simp only [List.length_cons, List.length_nil]; omega) | (simp; omega) | (simp; done)) | exact l_ob 4 rfl rfl rfl (by first | rfl | assumption) (by first | rfl | assumption) s_4 (by first | decide | omega | (simp only [List.length_cons, List.length_nil]; omega) | (simp; omega) | (simp; done)) | exact l_ob 5 rfl rfl rfl (by first | rfl | assumption) (by first | rfl | assumption) s_4 (by first | decide | omega | (simp only [List.length_cons, List.length_nil]; omega) | (simp; omega) | (simp; done)) | exact l_sl 0 rfl rfl rfl (by first | rfl | assumption) (by first | rfl | assumption) s_4 (by first | decide | omega | (simp only [List.length_cons, List.length_nil]; omega) | (simp; omega) | (simp; done)) | exact l_sl 1 rfl rfl rfl (by first | rfl | assumption) (by first | rfl | assumption) s_4 (by first | decide | omega | (simp only [List.length_cons, List.length_nil]; omega) | (simp; omega) | (simp; done)) | exact l_sl 2 rfl rfl rfl (by first | rfl | assumption) (by first | rfl | assumption) s_4 (by first | decide | omega | (simp only [List.length_cons, List.length_nil]; omega) | (simp; omega) | (simp; done)) | exact l_sl 3 rfl rfl rfl (by first | rfl | assumption) (by first | rfl | assumption) s_4 (by first | decide | omega | (simp only [List.length_cons, List.length_nil]; omega) | (simp; omega) | (simp; done)) | exact l_sl 4 rfl rfl rfl (by first | rfl | assumption) (by first | rfl | assumption) s_4 (by first | decide | omega | (simp only [List.length_cons, List.length_nil]; omega) | (simp; omega) | (simp; done)) | exact l_sl 5 rfl rfl rfl (by first | rfl | assumption) (by first | rfl | assumption) s_4 (by first | decide | omega | (simp only [List.length_cons, List.length_nil]; omega) | (simp; omega) | (simp; done)))) ?_
      rintro _ _ ⟨rfl, rfl⟩
      refine at_hp (by (try simp only [List.take_zero, List.take_succ_cons, List.drop_zero, List.drop_succ_cons, List.drop_nil, List.length_cons, List.length_nil, Nat.zero_add, Nat.reduceAdd, List.set_cons_zero, List.set_cons_succ, List.nil_append, List.cons_append, List.append_nil, pick, List.filterMap_cons, List.filterMap_nil, List.getElem?_cons_zero, List.getElem?_cons_succ]); exact rfl) ?_
      refine at_nil ?_
      refine at_ks [0, 2, 3, 8, 20] (by (try simp only [keep, lk, pd, enumE, Nat.reduceBEq, Nat.reduceAdd, cond_true, cond_false]); exact rfl) ?_
      refine at_then ?_
      refine at_seq ?_
      refine at_region ?_
      refine st_p rfl rfl (p_assign rfl) ?_
      refine at_nil ?_
      refine at_ks [0, 2, 3, 8, 20] (by (try simp only [keep, lk, pd, enumE, Nat.reduceBEq, Nat.reduceAdd, cond_true, cond_false]); exact rfl) ?_
      refine at_then ?_
      refine at_retc ?_
      refine at_then_r ?_
      refine at_re [] (by decide) ?_
      exact fin_1 rfl rfl (by
          unfold dEnd
          rw [if_pos h0, if_neg (fun h => ht20 (he.2 h))]
          exact ⟨rfl, rfl⟩)
    · (try simp only [decide_eq_true_eq, decide_eq_false_iff_not, Bool.not_eq_true', Bool.not_eq_false', Bool.not_true, Bool.not_false, Bool.or_eq_true, Bool.and_eq_true, Int.not_lt, Int.not_le] at ht20)
      refine at_skip ?_
      refine at_then ?_
      refine at_seq ?_
      refine at_region ?_
      refine st_p rfl rfl (p_assign rfl) ?_
      refine at_nil ?_
      refine at_ks [0, 2, 3, 8, 20] (by (try simp only [keep, lk, pd, enumE, Nat.reduceBEq, Nat.reduceAdd, cond_true, cond_false]); exact rfl) ?_
      refine at_then ?_
      refine at_retc ?_
      refine at_re [] (by decide) ?_
      exact fin_1 rfl rfl (by
          unfold dEnd
          rw [if_pos h0, if_pos (he.1 ht20)]
          exact ⟨rfl, rfl⟩)

end Go.Proofs.Ytbpbhjnkmonlbaa