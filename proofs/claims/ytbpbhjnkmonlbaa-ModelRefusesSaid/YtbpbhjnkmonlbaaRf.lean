/- What is refused, computed. No condition. -/
import Derived.Test.YtbpbhjnkmonlbaaLa
namespace Go.Proofs.Ytbpbhjnkmonlbaa
open Sl Go
set_option maxRecDepth 100000
theorem rf_zero : (match forthS encP ms0 0 cd0 with | some (_, c) => decide (c.k < 30000000000000) | none => false) = true := by decide +kernel
theorem rf_put {k : Int} (h : k < 0 ∨ 65 ≤ k) : putGo [(0, 0), (k, 0)] ms0 cd0 = some ([], 1) := by
  have h0 := rf_zero
  have hk : mayv k 0 = false := by unfold mayv; rw [decide_eq_false_iff_not]; omega
  simp only [putGo, show mayv 0 0 = true from by decide, if_true, Int.toNat_zero]
  cases hf : forthS encP ms0 0 cd0 with
  | none => rw [hf] at h0; cases h0
  | some r =>
    rw [hf] at h0
    simp only [decide_eq_true_eq] at h0
    simp only [if_pos h0, hk, Bool.false_eq_true, if_false]
theorem rf_one : putGo [(1, 1)] ms0 cd0 = some ([], 1) := by
  simp only [putGo, show mayv 1 1 = false from by decide, Bool.false_eq_true, if_false]
theorem rf_less {s : ByteArray} {n : Int} (h : n < 0 ∨ 4096 < n) : getS s n = some ([], 1) := if_pos h
theorem rf_short : ∀ k < 5, getS (strOfNums (List.replicate k 0)) 1 = some ([], 2) := by decide +kernel
theorem rf_five : getS (strOfNums [0, 0, 0, 0, 0]) 0 = some ([], 0) := by decide +kernel
theorem rf_six : getS (strOfNums [0, 0, 0, 0, 0, 0]) 0 = some ([], 3) := by decide +kernel
end Go.Proofs.Ytbpbhjnkmonlbaa
