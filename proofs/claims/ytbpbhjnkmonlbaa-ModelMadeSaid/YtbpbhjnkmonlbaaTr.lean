/- The chances of classes: how many, their bounds, beginnings. No condition. -/
import Derived.Test.YtbpbhjnkmonlbaaLa
namespace Go.Proofs.Ytbpbhjnkmonlbaa
open Sl Go
set_option linter.unusedVariables false
set_option maxRecDepth 10000
def trB : List Int → Nat → Nat → Ms → List Int × Ms
  | [], _, _, m => ([], m)
  | b :: bs, d, node, m => (m.chance d node :: (trB bs (d + 1) (2 * node + b.toNat) (m.learn d node (m.chance d node) b)).1, (trB bs (d + 1) (2 * node + b.toNat) (m.learn d node (m.chance d node) b)).2)
theorem forthGo_trac : ∀ (bs : List Int) (d node : Nat) (m : Ms) (l : List Int), l.length + bs.length ≤ 1000000000 → forthGo tracP bs d node m l = some ((trB bs d node m).2, l ++ (trB bs d node m).1)
  | [], d, node, m, l, _ => by simp [forthGo, trB]
  | b :: bs, d, node, m, l, h => by
    simp only [List.length_cons] at h
    simp only [forthGo, tracP, if_pos (show l.length < 1000000000 by omega)]
    rw [forthGo_trac bs _ _ _ _ (by simp; omega)]
    simp [trB]
theorem trB_len : ∀ (bs : List Int) (d node : Nat) (m : Ms), (trB bs d node m).1.length = bs.length
  | [], _, _, _ => rfl
  | b :: bs, d, node, m => by simp [trB, trB_len bs]
theorem trB_in : ∀ (bs : List Int) (d node : Nat) (m : Ms) (x : Int), x ∈ (trB bs d node m).1 → 1 ≤ x ∧ x ≤ 4095
  | [], _, _, _, x, h => by simp [trB] at h
  | b :: bs, d, node, m, x, h => by
    simp only [trB, List.mem_cons] at h
    rcases h with rfl | h
    · exact sqv_in _
    · exact trB_in bs _ _ _ x h
def trC : List Int → Ms → List Int
  | [], _ => []
  | c :: cs, m => (trB (bitsv c 7) 0 1 m).1 ++ trC cs ((trB (bitsv c 7) 0 1 m).2.came c.toNat)
theorem traceGo_trC : ∀ (cs : List Int) (m : Ms) (l : List Int), (∀ c ∈ cs, 0 ≤ c ∧ c < 65) → l.length + 7 * cs.length ≤ 1000000000 → traceGo cs m l = some (l ++ trC cs m)
  | [], m, l, _, _ => by simp [traceGo, trC]
  | c :: cs, m, l, hc, hl => by
    have h0 := hc c List.mem_cons_self
    simp only [List.length_cons] at hl
    have e : ((c.toNat : Nat) : Int) = c := by omega
    simp only [traceGo, if_pos h0, forthS, e]
    rw [forthGo_trac _ _ _ _ _ (by rw [bitsv_len]; omega)]
    simp only
    rw [traceGo_trC cs _ _ (fun x hx => hc x (List.mem_cons_of_mem _ hx)) (by rw [List.length_append, trB_len, bitsv_len]; omega)]
    simp [trC]
theorem traceGo_bad : ∀ (cs : List Int) (m : Ms) (l : List Int), (∀ c ∈ cs, 0 ≤ c ∧ c < 65) → l.length + 7 * cs.length ≤ 1000000000 → traceGo (cs ++ [65]) m l = some []
  | [], m, l, _, _ => by simp [traceGo]
  | c :: cs, m, l, hc, hl => by
    have h0 := hc c List.mem_cons_self
    simp only [List.length_cons] at hl
    have e : ((c.toNat : Nat) : Int) = c := by omega
    simp only [List.cons_append, traceGo, if_pos h0, forthS, e]
    rw [forthGo_trac _ _ _ _ _ (by rw [bitsv_len]; omega)]
    simp only
    exact traceGo_bad cs _ _ (fun x hx => hc x (List.mem_cons_of_mem _ hx)) (by rw [List.length_append, trB_len, bitsv_len]; omega)
theorem trC_len : ∀ (cs : List Int) (m : Ms), (trC cs m).length = 7 * cs.length
  | [], _ => rfl
  | c :: cs, m => by simp only [trC, List.length_append, trB_len, bitsv_len, trC_len cs, List.length_cons]; omega
theorem trC_in : ∀ (cs : List Int) (m : Ms) (x : Int), x ∈ trC cs m → 1 ≤ x ∧ x ≤ 4095
  | [], _, x, h => by simp [trC] at h
  | c :: cs, m, x, h => by
    simp only [trC, List.mem_append] at h
    rcases h with h | h
    · exact trB_in _ _ _ _ x h
    · exact trC_in cs _ x h
theorem trC_take : ∀ (cs : List Int) (m : Ms) (k : Nat), trC (cs.take k) m = (trC cs m).take (7 * k)
  | [], m, k => by simp [trC]
  | c :: cs, m, 0 => by simp [trC]
  | c :: cs, m, k + 1 => by
    simp only [List.take_succ_cons, trC]
    rw [List.take_append, trB_len, bitsv_len, List.take_of_length_le (l := (trB (bitsv c 7) 0 1 m).1) (by rw [trB_len, bitsv_len]; omega), trC_take cs _ k, show 7 * (k + 1) - 7 = 7 * k by omega]
def classesV (ns : List Int) : List Int := (ns.take 60).map (· % 65)
theorem classesV_in {ns : List Int} {c : Int} (h : c ∈ classesV ns) : 0 ≤ c ∧ c < 65 := by
  obtain ⟨x, _, rfl⟩ := List.mem_map.1 h
  exact ⟨Int.emod_nonneg _ (by decide), Int.emod_lt_of_pos _ (by decide)⟩
theorem classesV_len (ns : List Int) : (classesV ns).length = min 60 ns.length := by simp [classesV]
end Go.Proofs.Ytbpbhjnkmonlbaa
