/- Numbers by numbers, and their parts. No condition. -/
import Derived.Test.YtbpbhjnkmonlbaaLa
namespace Go.Proofs.Ytbpbhjnkmonlbaa
open Sl Go
set_option linter.unusedVariables false
set_option maxRecDepth 10000
def splitv (v : Int) : Int × Int := if lenv (mapv v) = 0 then (0, 0) else (lenv (mapv v), mapv v - 2 ^ (lenv (mapv v) - 1).toNat)
theorem mapv_in {v : Int} (h0 : -9223372036854775808 ≤ v) (h1 : v ≤ 9223372036854775807) : 0 ≤ mapv v ∧ mapv v < 18446744073709551616 := by unfold mapv; split <;> omega
theorem split_ok {v : Int} (h0 : -9223372036854775808 ≤ v) (h1 : v ≤ 9223372036854775807) : mayv (splitv v).1 (splitv v).2 = true ∧ 0 ≤ (splitv v).2 ∧ (splitv v).2 < 18446744073709551616 := by
  have hm := mapv_in h0 h1
  have hb := bl_in 64 (mapv v) hm.1 hm.2
  unfold splitv
  split
  · exact ⟨by decide, by decide, by decide⟩
  · rename_i hn
    have h2 : 0 < mapv v := by
      rcases Int.lt_or_eq_of_le hm.1 with h | h
      · exact h
      · exact absurd (by rw [← h]; rfl) hn
    obtain ⟨h3, h4, h5⟩ := hb.2.2 h2
    unfold lenv at *
    refine ⟨?_, by simp only; omega, by simp only; have := (pow_in (n := (bl 64 (mapv v) - 1).toNat) (by omega)).1; omega⟩
    unfold mayv
    simp only [decide_eq_true_eq]
    right
    exact ⟨h3, hb.2.1, by omega⟩
def numV (x : Int) : Int :=
  if x / 1024 % 6 = 0 then x % 1024 % 3 else if x / 1024 % 6 = 1 then -(x % 1024) else if x / 1024 % 6 = 2 then IntKind.i64.wrap (x % 1024 * 2 ^ (x % 53).toNat) else if x / 1024 % 6 = 3 then IntKind.i64.wrap (-(x % 1024) * 2 ^ (x % 54).toNat) else x % 1024
theorem wrap_in (x : Int) : -9223372036854775808 ≤ IntKind.i64.wrap x ∧ IntKind.i64.wrap x ≤ 9223372036854775807 := by rw [IntKind.wrap_i64]; omega
theorem numV_in (x : Int) : -9223372036854775808 ≤ numV x ∧ numV x ≤ 9223372036854775807 := by
  have h1 := wrap_in (x % 1024 * 2 ^ (x % 53).toNat)
  have h2 := wrap_in (-(x % 1024) * 2 ^ (x % 54).toNat)
  unfold numV
  repeat' split
  all_goals omega
def numsV (ns : List Int) : List Int := (ns.take 60).map numV
theorem take_map_next {α : Type} {ns : List Int} {i : Nat} (f : Int → α) (h : i < ns.length) : (ns.take (i + 1)).map f = (ns.take i).map f ++ [f (gi ns i)] := by
  have e1 := gi_get (xs := ns) (i := (i : Int)) (by omega) (by omega)
  rw [Int.toNat_natCast] at e1
  rw [List.take_add_one, e1]; simp
end Go.Proofs.Ytbpbhjnkmonlbaa
