/- What the mixer, and a class' nodes, compute: numbers alone. No condition. -/
import Derived.Test.YtbpbhjnkmonlbaaPu
import Derived.Test.YtbpbhjnkmonlbaaSt
namespace Go.Proofs.Ytbpbhjnkmonlbaa
open Sl
set_option linter.unusedVariables false
set_option maxRecDepth 10000
/-- A chance behind a bit. -/
def mvv (p b s : Int) : Int :=
  let p := mx 0 (mn p 4096)
  if b = 0 then p - p / 2 ^ (mx 1 (mn s 12)).toNat else p + (4096 - p) / 2 ^ (mx 1 (mn s 12)).toNat
theorem mvv_in (p b s : Int) : 0 ≤ mvv p b s ∧ mvv p b s ≤ 4096 := by
  have h1 : 0 ≤ mx 0 (mn p 4096) ∧ mx 0 (mn p 4096) ≤ 4096 := by unfold mx mn; omega
  have hd : ∀ x : Int, 0 ≤ x → 0 ≤ x / 2 ^ (mx 1 (mn s 12)).toNat ∧ x / 2 ^ (mx 1 (mn s 12)).toNat ≤ x := fun x hx =>
    ⟨Int.ediv_nonneg hx (Int.pow_nonneg (by decide)), Int.ediv_le_self _ hx⟩
  simp only [mvv]
  generalize mx 0 (mn p 4096) = q at h1 ⊢
  have h2 := hd q h1.1
  have h3 := hd (4096 - q) (by omega)
  split <;> omega
/-- The sum of the first i weighed inputs. -/
def mxs (ws xs : List Int) : Nat → Int
  | 0 => 0
  | i + 1 => mxs ws xs i + cl 1048576 (gi ws i) * cl 2047 (gi xs i)
theorem mul_in {a b A B : Int} (ha : -A ≤ a ∧ a ≤ A) (hb : -B ≤ b ∧ b ≤ B) : -(A * B) ≤ a * b ∧ a * b ≤ A * B := by
  have hA : 0 ≤ A := by omega
  have hB : 0 ≤ B := by omega
  have h : (a * b).natAbs ≤ (A * B).natAbs := by
    rw [Int.natAbs_mul, Int.natAbs_mul]; exact Nat.mul_le_mul (by omega) (by omega)
  have h2 : 0 ≤ A * B := Int.mul_nonneg hA hB
  omega
theorem mxs_in (ws xs : List Int) : ∀ i, -(i * 2146435072) ≤ mxs ws xs i ∧ mxs ws xs i ≤ i * 2146435072
  | 0 => by simp [mxs]
  | i + 1 => by
    have ih := mxs_in ws xs i
    have h := mul_in (cl_in (m := 1048576) (by decide) (gi ws i)) (cl_in (m := 2047) (by decide) (gi xs i))
    have e : (1048576 : Int) * 2047 = 2146435072 := by decide
    rw [e] at h
    simp only [mxs]; push_cast; omega
/-- The chance of weighed inputs. -/
def mixv (ws xs : List Int) : Int := sqv (mxs ws xs (min ws.length xs.length) / 65536)
/-- A weight behind a bit. -/
def trw (lack w x : Int) : Int := cl 1048576 (cl 1048576 w + cl 2047 x * lack / 1024)
def lackv (p b : Int) : Int := if b = 0 then -mx 0 (mn p 4096) else -mx 0 (mn p 4096) + 4096
theorem lackv_in (p b : Int) : -4096 ≤ lackv p b ∧ lackv p b ≤ 4096 := by unfold lackv mx mn; split <;> omega
/-- The first i weights behind a bit. -/
def trv (lack : Int) (ws xs : List Int) : Nat → List Int
  | 0 => []
  | i + 1 => trv lack ws xs i ++ [trw lack (gi ws i) (gi xs i)]
theorem trv_len (lack : Int) (ws xs : List Int) : ∀ i, (trv lack ws xs i).length = i
  | 0 => rfl
  | i + 1 => by simp [trv, trv_len lack ws xs i]
def trainv (ws xs : List Int) (p b : Int) : List Int := trv (lackv p b) ws xs ws.length
/-- A class' node, and its bit, at a depth. -/
def ndv (c : Int) (j : Nat) : Int := 2 ^ j + c / 2 ^ (7 - j)
def btv (c : Int) (j : Nat) : Int := c / 2 ^ (6 - j) % 2
theorem ndv_next (c : Int) {j : Nat} (h : j < 7) : ndv c (j + 1) = 2 * ndv c j + btv c j := by
  have : j = 0 ∨ j = 1 ∨ j = 2 ∨ j = 3 ∨ j = 4 ∨ j = 5 ∨ j = 6 := by omega
  unfold ndv btv
  rcases this with rfl | rfl | rfl | rfl | rfl | rfl | rfl <;> simp <;> omega
theorem ndv_in {c : Int} (h0 : 0 ≤ c) (h1 : c < 128) {j : Nat} (h : j ≤ 7) : 1 ≤ ndv c j ∧ ndv c j < 2 ^ (j + 1) ∧ ndv c j < 256 := by
  have : j = 0 ∨ j = 1 ∨ j = 2 ∨ j = 3 ∨ j = 4 ∨ j = 5 ∨ j = 6 ∨ j = 7 := by omega
  unfold ndv
  rcases this with rfl | rfl | rfl | rfl | rfl | rfl | rfl | rfl <;> simp <;> omega
theorem btv_in (c : Int) (j : Nat) : btv c j = 0 ∨ btv c j = 1 := by unfold btv; omega
def nodesv (c : Int) (k : Nat) : List Int := (List.range k).map (ndv c)
def bitsv (c : Int) (k : Nat) : List Int := (List.range k).map (btv c)
theorem nodesv_succ (c : Int) (k : Nat) : nodesv c (k + 1) = nodesv c k ++ [ndv c k] := by simp [nodesv, List.range_succ]
theorem bitsv_succ (c : Int) (k : Nat) : bitsv c (k + 1) = bitsv c k ++ [btv c k] := by simp [bitsv, List.range_succ]
theorem nodesv_len (c : Int) (k : Nat) : (nodesv c k).length = k := by simp [nodesv]
theorem bitsv_len (c : Int) (k : Nat) : (bitsv c k).length = k := by simp [bitsv]
/-- A number's map. -/
def mapv (v : Int) : Int := if v < 0 then 2 * -(v + 1) + 1 else 2 * v
/-- How many bits, k at most. -/
def bl : Nat → Int → Int
  | 0, _ => 0
  | k + 1, u => if 0 < u then bl k (u / 2) + 1 else 0
def lenv (u : Int) : Int := bl 64 u
theorem bl_in : ∀ (k : Nat) (u : Int), 0 ≤ u → u < 2 ^ k → 0 ≤ bl k u ∧ bl k u ≤ k ∧ (0 < u → 1 ≤ bl k u ∧ 2 ^ (bl k u - 1).toNat ≤ u ∧ u < 2 * 2 ^ (bl k u - 1).toNat)
  | 0, u, h0, h1 => by simp [bl]; simp at h1; omega
  | k + 1, u, h0, h1 => by
    rw [Int.pow_succ] at h1
    have ih := bl_in k (u / 2) (by omega) (by omega)
    unfold bl
    split
    · rename_i hu
      refine ⟨by omega, by push_cast; omega, fun _ => ⟨by omega, ?_⟩⟩
      rw [show (bl k (u / 2) + 1 - 1).toNat = (bl k (u / 2)).toNat by omega]
      by_cases h2 : 0 < u / 2
      · obtain ⟨h3, h4, h5⟩ := ih.2.2 h2
        rw [show (bl k (u / 2)).toNat = (bl k (u / 2) - 1).toNat + 1 by omega, Int.pow_succ]
        generalize (2 : Int) ^ (bl k (u / 2) - 1).toNat = q at *
        omega
      · have : u = 1 := by omega
        subst this
        have h6 : bl k (1 / 2) = 0 := by
          cases k with
          | zero => rfl
          | succ k => simp [bl]
        rw [h6]; decide
    · refine ⟨by omega, by push_cast; omega, fun h => by omega⟩
/-- May a part be? -/
def mayv (c r : Int) : Bool := decide ((c = 0 ∧ r = 0) ∨ (1 ≤ c ∧ c ≤ 64 ∧ r < 2 ^ (c - 1).toNat))
theorem pow_in {n : Nat} (h : n ≤ 63) : 1 ≤ (2 : Int) ^ n ∧ (2 : Int) ^ n ≤ 9223372036854775808 := by
  have h1 : (2 : Nat) ^ n ≤ 2 ^ 63 := Nat.pow_le_pow_right (by decide) h
  have h2 : 0 < (2 : Nat) ^ n := Nat.pow_pos (by decide)
  have e : ((2 ^ n : Nat) : Int) = (2 : Int) ^ n := by push_cast; rfl
  omega
theorem div_pow_zero {r : Int} {n : Nat} (h0 : 0 ≤ r) : r / 2 ^ n = 0 ↔ r < 2 ^ n := by
  have hp : (0 : Int) < 2 ^ n := Int.pow_pos (by decide)
  constructor
  · intro h
    have h1 := Int.emod_add_mul_ediv r (2 ^ n)
    have h2 := Int.emod_lt_of_pos r hp
    rw [h, Int.mul_zero] at h1; omega
  · intro h; exact Int.ediv_eq_zero_of_lt h0 h
end Go.Proofs.Ytbpbhjnkmonlbaa
