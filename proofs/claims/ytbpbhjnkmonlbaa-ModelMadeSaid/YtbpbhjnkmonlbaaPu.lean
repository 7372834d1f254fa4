/- What the small functions compute: numbers alone, no program. No condition. -/
import Derived.KernelRfl
namespace Go.Proofs.Ytbpbhjnkmonlbaa
set_option linter.unusedVariables false
set_option maxRecDepth 10000
def mn (a b : Int) : Int := if b < a then b else a
def mx (a b : Int) : Int := if a < b then b else a
/-- A number to a limit on either side. -/
def cl (m x : Int) : Int := mx (-m) (mn x m)
/-- A chance that may be. -/
def cp (p : Int) : Int := mx 1 (mn p 4095)
theorem cl_in {m : Int} (h : 0 ≤ m) (x : Int) : -m ≤ cl m x ∧ cl m x ≤ m := by unfold cl mx mn; omega
theorem cl_id {m x : Int} (h : -m ≤ x) (h' : x ≤ m) : cl m x = x := by unfold cl mx mn; omega
theorem cl_cl {m : Int} (h : 0 ≤ m) (x : Int) : cl m (cl m x) = cl m x := cl_id (cl_in h x).1 (cl_in h x).2
theorem cp_in (p : Int) : 1 ≤ cp p ∧ cp p ≤ 4095 := by unfold cp mx mn; omega
theorem cp_id {p : Int} (h : 1 ≤ p) (h' : p ≤ 4095) : cp p = p := by unfold cp mx mn; omega
/-- Squash of a number from nought to its limit. -/
def sqn (x : Int) : Int :=
  let e := (65536 : Int) / 2 ^ (x / 256).toNat
  268435456 / (65536 + (e - e / 2 * (x % 256) / 256))
/-- The chance of a logit. -/
def sqv (x : Int) : Int := if cl 2047 x < 0 then 4096 - sqn (-cl 2047 x) else sqn (cl 2047 x)
/-- What the walks find. -/
def w64 (x : Int) : Int := (x + 9223372036854775808) % 18446744073709551616 - 9223372036854775808
def sqw1 (x : Int) : Int := (65536 : Int).fdiv (2 ^ min (w64 (x.tdiv 256)).toNat 64)
def sqw2 (x e : Int) : Int := w64 (e - w64 ((w64 (w64 (e.tdiv 2) * x.tmod 256)).tdiv 256))
def sqw (x : Int) : Int := w64 ((268435456 : Int).tdiv (w64 (65536 + sqw2 x (sqw1 x))))
def chkS (i : Nat) : Bool := decide (sqw i = sqn i) && decide (1 ≤ sqn i) && decide (sqn i ≤ 4095) && decide (w64 (65536 + sqw2 i (sqw1 i)) ≠ 0) && decide (0 ≤ w64 ((i : Int).tdiv 256))
theorem allS : (List.range 2048).all chkS = true := by decide +kernel
theorem sqw_ok {x : Int} (h : 0 ≤ x) (h' : x ≤ 2047) : sqw x = sqn x ∧ 1 ≤ sqn x ∧ sqn x ≤ 4095 ∧ w64 (65536 + sqw2 x (sqw1 x)) ≠ 0 ∧ 0 ≤ w64 (x.tdiv 256) := by
  have hk := List.all_eq_true.1 allS x.toNat (List.mem_range.2 (by omega))
  have e : ((x.toNat : Nat) : Int) = x := by omega
  unfold chkS at hk
  simp only [e, Bool.and_eq_true, decide_eq_true_eq] at hk
  exact ⟨hk.1.1.1.1, hk.1.1.1.2, hk.1.1.2, hk.1.2, hk.2⟩
theorem sqv_in (x : Int) : 1 ≤ sqv x ∧ sqv x ≤ 4095 := by
  have := cl_in (m := 2047) (by decide) x
  unfold sqv
  split
  · have := sqw_ok (x := -cl 2047 x) (by omega) (by omega); omega
  · have := sqw_ok (x := cl 2047 x) (by omega) (by omega); omega
theorem sqv_cl (x : Int) : sqv (cl 2047 x) = sqv x := by unfold sqv; rw [cl_cl (by decide)]
/-- The search of a logit, k rounds at most. -/
def stf : Nat → Int → Int → Int → Option Int
  | 0, _, _, _ => none
  | k + 1, p, i, j => if i < j then (if sqv ((i + j) / 2 - 2047) < p then stf k p ((i + j) / 2 + 1) j else stf k p i ((i + j) / 2)) else some i
/-- The logit of a chance. -/
def stv (p : Int) : Int := mn ((stf 20 (cp p) 0 4095).getD 0 - 2047) 2047
/-- The search between the two ends. -/
def rtf : Nat → Int → Int → Int → Option Int
  | 0, _, _, _ => none
  | k + 1, p, i, j => if i < j then (if p ≤ sqv ((i + j + 4094) / 2 - 2047) then rtf k p i ((i + j + 4094) / 2 - 2047) else rtf k p ((i + j + 4094) / 2 - 2047 + 1) j) else some i
def chkT (i : Nat) : Bool := (stf 20 ((i : Int) + 1) 0 4095).isSome && decide (rtf 20 ((i : Int) + 1) (-2047) 2047 = some (stv ((i : Int) + 1))) && decide (-2047 ≤ stv ((i : Int) + 1)) && decide (stv ((i : Int) + 1) ≤ 2047)
theorem allT : (List.range 4095).all chkT = true := by decide +kernel
theorem stv_cp (p : Int) : stv (cp p) = stv p := by unfold stv; rw [cp_id (cp_in p).1 (cp_in p).2]
theorem stv_ok (p : Int) : (∃ r, stf 20 (cp p) 0 4095 = some r ∧ stv p = mn (r - 2047) 2047) ∧ rtf 20 (cp p) (-2047) 2047 = some (stv p) ∧ -2047 ≤ stv p ∧ stv p ≤ 2047 := by
  have hp := cp_in p
  have hk := List.all_eq_true.1 allT (cp p - 1).toNat (List.mem_range.2 (by omega))
  have e : (((cp p - 1).toNat : Nat) : Int) + 1 = cp p := by omega
  unfold chkT at hk
  simp only [e, Bool.and_eq_true, decide_eq_true_eq, stv_cp] at hk
  obtain ⟨r, hr⟩ := Option.isSome_iff_exists.1 hk.1.1.1
  exact ⟨⟨r, hr, by unfold stv; rw [hr]; rfl⟩, hk.1.1.2, hk.1.2, hk.2⟩
end Go.Proofs.Ytbpbhjnkmonlbaa
