/- The model: a class told forth. No condition. -/
import Derived.Test.YtbpbhjnkmonlbaaMo2
namespace Go.Proofs.Ytbpbhjnkmonlbaa
open Go.RowKit Sl
set_option linter.unusedVariables false
set_option linter.unusedSimpArgs false
set_option maxRecDepth 10000
theorem perm_mid {α : Type} (X Y Z : List α) : (X ++ (Y ++ Z)).Perm ((Y ++ (X ++ Z)) ++ []) := by
  rw [List.append_nil, ← List.append_assoc, ← List.append_assoc]
  exact List.perm_append_comm.append_right Z

theorem forth_calls {σ : Type} (HPp : σ → Hp → Prop) (put : Put σ) (pf : FuncId) (pfirst : List Value) (hpf : callB Try.prog pf = true) (hput : ∀ s p b H F s', HPp s H → put s p b = some s' → SC Try.prog pf (pfirst ++ [N p, N b]).toArray H F (fun v H' => v = .tuple #[] ∧ HPp s' H')) (mb : Nat) (HM HP : Hp) (m m' : Ms) (c : Nat) (s s' : σ) (F : Frm) (hM : modH mb m HM) (hm : m.ok) (hs : HPp s HP) (hc : c < 65) (h : forthS put m c s = some (m', s')) :
    SC Try.prog 26 #[.pointer (some ⟨mb, 0, none⟩), N c, .func (.func pf) pfirst.toArray #[]] (HM ++ HP) F (fun v H' => v = .tuple #[] ∧ ∃ HM' HP', H' = HM' ++ HP' ∧ modH mb m' HM' ∧ HPp s' HP') := by
  have hcl := told_class hc h
  refine sc_in (args := [.pointer (some ⟨mb, 0, none⟩), N c, .func (.func pf) pfirst.toArray #[]]) Try.func26 rfl rfl (Nat.le_of_ble_eq_true rfl) ?_
  refine at_ks [0, 1, 2, 7, 8] (by (try simp only [keep, lk, pd, enumE, Nat.reduceBEq, Nat.reduceAdd, cond_true, cond_false]); exact rfl) ?_
  refine at_seq ?_
  refine at_region ?_
  refine st_p rfl rfl (p_move rfl) ?_
  refine st_l rfl rfl (l_callP (first := []) (H1 := []) (H2 := _) (List.Perm.refl _) rfl c_53 rfl (fun F1 hF1 hs1 => nodes_calls c (by omega) (by omega) F1)) ?_
  rintro _ _ ⟨_, ⟨v1, v2, rfl, rfl⟩, rfl⟩
  refine at_hp (by (try simp only [List.take_zero, List.take_succ_cons, List.drop_zero, List.drop_succ_cons, List.drop_nil, List.length_cons, List.length_nil, Nat.zero_add, Nat.reduceAdd, List.set_cons_zero, List.set_cons_succ, List.nil_append, List.cons_append, List.append_nil, pick, List.filterMap_cons, List.filterMap_nil, List.getElem?_cons_zero, List.getElem?_cons_succ]); exact rfl) ?_
  refine st_p rfl rfl (p_move rfl) ?_
  refine st_p rfl rfl (p_ext rfl rfl) ?_
  refine st_p rfl rfl (p_ext rfl rfl) ?_
  refine st_p rfl rfl (p_assign rfl) ?_
  refine st_p rfl rfl (p_assign rfl) ?_
  refine at_nil ?_
  refine at_ks [0, 1, 2, 7, 8] (by (try simp only [keep, lk, pd, enumE, Nat.reduceBEq, Nat.reduceAdd, cond_true, cond_false]); exact rfl) ?_
  refine at_then ?_
  refine at_seq ?_
  refine at_dropAt 0 rfl rfl ?_
  refine at_shapeM 0 rfl fun A cp hv hcp hcm hA => ?_
  obtain ⟨g, rfl⟩ := hA (by decide)
  subst hv
  refine at_region ?_
  refine st_p rfl rfl (p_move rfl) ?_
  refine st_p rfl rfl (p_move rfl) ?_
  refine st_p rfl rfl (p_build (cs := #[.slice (some ⟨g, 0, none⟩) 7 cp, .func (.func pf) pfirst.toArray #[]]) rfl (fun _ => by kernel_rfl)) ?_
  refine st_l rfl rfl (l_box [.slice (some ⟨g, 0, none⟩) 7 cp, .func (.func pf) pfirst.toArray #[]] rfl rfl) ?_
  rintro _ _ ⟨b17, rfl, rfl⟩
  refine at_hp (by (try simp only [List.take_zero, List.take_succ_cons, List.drop_zero, List.drop_succ_cons, List.drop_nil, List.length_cons, List.length_nil, Nat.zero_add, Nat.reduceAdd, List.set_cons_zero, List.set_cons_succ, List.nil_append, List.cons_append, List.append_nil, pick, List.filterMap_cons, List.filterMap_nil, List.getElem?_cons_zero, List.getElem?_cons_succ]); exact rfl) ?_
  refine st_p rfl rfl (p_assign rfl) ?_
  refine at_nil ?_
  refine at_ks [0, 1, 2, 7, 8] (by (try simp only [keep, lk, pd, enumE, Nat.reduceBEq, Nat.reduceAdd, cond_true, cond_false]); exact rfl) ?_
  refine at_then ?_
  refine at_region ?_
  refine st_p rfl rfl (p_move rfl) ?_
  refine st_p rfl rfl (p_move rfl) ?_
  refine st_p rfl rfl (p_fn1 rfl) ?_
  refine st_l rfl rfl (l_callP (first := []) (H1 := HM ++ (_ :: _ :: HP)) (H2 := []) (perm_mid [_, _] HM HP) rfl c_42 rfl (fun F1 hF1 hs1 => class_calls (toldH b17 pf pfirst HPp) (toldStep put) 54 [.pointer (some ⟨b17, 0, none⟩)] c_54 (fun s p H F b e s' hH _ _ hst => next_calls HPp put pf pfirst hpf hput b17 s s' p b e H F hH hst) (told_bit put) mb HM _ m m' (bitsv c 7, s) ([], s') c 0 F1 hM hm ⟨some ⟨g, 0, none⟩, cp, .slice (some ⟨g, 0, none⟩) 7 cp, bitsv c 7, HP, by simp only [bitsv_len]; exact hcp, hcm, bitsv_len _ _, fun _ => ⟨g, 0, cp, rfl, rfl, by simp only [bitsv_len], rfl⟩, hs, rfl⟩ hcl)) ?_
  rintro _ _ ⟨_, ⟨rfl, HM2, HB2, rfl, hM2, ⟨A2, cA2, vb2, L2, HP2, _, _, _, _, hP2, rfl⟩⟩, rfl⟩
  refine at_hp (by (try simp only [List.take_zero, List.take_succ_cons, List.drop_zero, List.drop_succ_cons, List.drop_nil, List.length_cons, List.length_nil, Nat.zero_add, Nat.reduceAdd, List.set_cons_zero, List.set_cons_succ, List.nil_append, List.cons_append, List.append_nil, pick, List.filterMap_cons, List.filterMap_nil, List.getElem?_cons_zero, List.getElem?_cons_succ]); exact rfl) ?_
  refine at_nil ?_
  refine at_ks [0, 1, 2, 7, 8] (by (try simp only [keep, lk, pd, enumE, Nat.reduceBEq, Nat.reduceAdd, cond_true, cond_false]); exact rfl) ?_
  refine at_perm List.perm_middle ?_
  refine at_drop ?_
  refine at_perm List.perm_middle ?_
  refine at_drop ?_
  exact fin_n rfl (by
      exact ⟨rfl, HM2, HP2, rfl, hM2, hP2⟩)

end Go.Proofs.Ytbpbhjnkmonlbaa