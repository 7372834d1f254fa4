/- What the coder computes: numbers alone. No condition. -/
import Derived.Test.YtbpbhjnkmonlbaaPv
namespace Go.Proofs.Ytbpbhjnkmonlbaa
open Sl Go
set_option linter.unusedVariables false
set_option maxRecDepth 10000
/-- The last k bytes of a number, the highest first. -/
def be : Nat → Nat → List Int
  | 0, _ => []
  | k + 1, n => be k (n / 256) ++ [((n % 256 : Nat) : Int)]
theorem be_len : ∀ k n, (be k n).length = k
  | 0, _ => rfl
  | k + 1, n => by simp [be, be_len k]
theorem be_in : ∀ (k n : Nat) (x : Int), x ∈ be k n → 0 ≤ x ∧ x ≤ 255
  | 0, _, _, h => by simp [be] at h
  | k + 1, n, x, h => by
    simp only [be, List.mem_append, List.mem_singleton] at h
    rcases h with h | rfl
    · exact be_in k _ x h
    · omega
theorem be_4 (j n : Nat) : be (j + 4) n = be j (n / 4294967296) ++ [((n / 16777216 % 256 : Nat) : Int), ((n / 65536 % 256 : Nat) : Int), ((n / 256 % 256 : Nat) : Int), ((n % 256 : Nat) : Int)] := by
  simp only [be, Nat.div_div_eq_div_mul, List.append_assoc, List.cons_append, List.nil_append, Nat.reduceMul]
theorem be_zero : ∀ k, be k 0 = List.replicate k 0
  | 0 => rfl
  | k + 1 => by simp [be, be_zero k, List.replicate_succ']
/-- One more, where the last byte is full. -/
theorem be_carry (i X : Nat) (h : X % 256 = 255) : be (i + 1) (X + 1) = be i (X / 256 + 1) ++ [0] := by
  have e1 : (X + 1) / 256 = X / 256 + 1 := by omega
  have e2 : (X + 1) % 256 = 0 := by omega
  simp only [be, e1, e2]; rfl
theorem be_next (i X : Nat) (h : X % 256 ≠ 255) : be (i + 1) (X + 1) = be i (X / 256) ++ [((X % 256 : Nat) : Int) + 1] := by
  have e1 : (X + 1) / 256 = X / 256 := by omega
  have e2 : (X + 1) % 256 = X % 256 + 1 := by omega
  simp only [be, e1, e2]; rfl
theorem at_last (i X : Nat) (t : List Int) : (be (i + 1) X ++ t)[i]? = some ((X % 256 : Nat) : Int) := by
  rw [be, List.append_assoc, List.getElem?_append_right (by rw [be_len]; omega), be_len]; simp
theorem set_last (i X : Nat) (t : List Int) (v : Int) : (be (i + 1) X ++ t).set i v = be i (X / 256) ++ v :: t := by
  rw [be, List.append_assoc, List.set_append_right _ _ (by rw [be_len]; omega), be_len]; simp
/-- A coder: how many bytes its number has, the number, the range. -/
structure Cd where
  k : Nat
  n : Nat
  r : Nat
def cd0 : Cd := ⟨5, 0, 4294967295⟩
def growC (c : Cd) : Cd := if c.r < 65536 then ⟨c.k + 2, c.n * 65536, c.r * 65536⟩ else if c.r < 16777216 then ⟨c.k + 1, c.n * 256, c.r * 256⟩ else c
def cpn (p : Int) : Nat := (cp p).toNat
theorem cpn_in (p : Int) : 1 ≤ cpn p ∧ cpn p ≤ 4095 ∧ ((cpn p : Nat) : Int) = cp p := by have := cp_in p; unfold cpn; omega
def shr_ (r : Nat) (p : Int) : Nat := r / 4096 * cpn p
def bitC (c : Cd) (p b : Int) : Cd := growC (if b = 0 then ⟨c.k, c.n + shr_ c.r p, c.r - shr_ c.r p⟩ else ⟨c.k, c.n, shr_ c.r p⟩)
def halfC (c : Cd) (b : Nat) : Cd := growC ⟨c.k, c.n + (if b = 1 then c.r / 2 else 0), c.r / 2⟩
/-- The lowest i bits of a number, the highest first. -/
def dirC (c : Cd) (v : Nat) : Nat → Cd
  | 0 => c
  | i + 1 => dirC (halfC c (v / 2 ^ i % 2)) v i
/-- What holds of a coder between bits. -/
structure Cd.ok (c : Cd) : Prop where
  k5 : 5 ≤ c.k
  top : c.n + c.r ≤ 4294967295 * 256 ^ (c.k - 5)
  lo : 16777216 ≤ c.r
  hi : c.r < 4294967296
theorem cd0_ok : cd0.ok := ⟨by decide, by decide, by decide, by decide⟩
theorem top_lt {c : Cd} (k5 : 5 ≤ c.k) {m : Nat} (h : m ≤ 4294967295 * 256 ^ (c.k - 5)) : m < 256 ^ c.k ∧ m / 4294967296 < 256 ^ (c.k - 5) := by
  have e : 256 ^ c.k = 1099511627776 * 256 ^ (c.k - 5) := by
    rw [show (1099511627776 : Nat) = 256 ^ 5 by decide, ← Nat.pow_add]; congr 1; omega
  have hp : 0 < 256 ^ (c.k - 5) := Nat.pow_pos (by decide)
  omega
theorem grow_ok {c : Cd} (k5 : 5 ≤ c.k) (top : c.n + c.r ≤ 4294967295 * 256 ^ (c.k - 5)) (lo : 4096 ≤ c.r) (hi : c.r < 4294967296) : (growC c).ok := by
  have e1 : 256 ^ (c.k + 1 - 5) = 256 * 256 ^ (c.k - 5) := by rw [show c.k + 1 - 5 = (c.k - 5) + 1 by omega, Nat.pow_succ]; omega
  have e2 : 256 ^ (c.k + 2 - 5) = 65536 * 256 ^ (c.k - 5) := by rw [show c.k + 2 - 5 = (c.k - 5) + 2 by omega, Nat.pow_add]; omega
  unfold growC
  split
  · exact ⟨by simp only; omega, by simp only [e2]; omega, by simp only; omega, by simp only; omega⟩
  · split
    · exact ⟨by simp only; omega, by simp only [e1]; omega, by simp only; omega, by simp only; omega⟩
    · exact ⟨k5, top, by omega, hi⟩
theorem shr_in {r : Nat} (lo : 16777216 ≤ r) (p : Int) : 4096 ≤ shr_ r p ∧ shr_ r p + 4096 ≤ r := by
  have h := cpn_in p
  have h1 : r / 4096 * 1 ≤ r / 4096 * cpn p := Nat.mul_le_mul_left _ h.1
  have h2 : r / 4096 * cpn p ≤ r / 4096 * 4095 := Nat.mul_le_mul_left _ h.2.1
  unfold shr_
  omega
theorem Cd.ok.bit {c : Cd} (h : c.ok) (p b : Int) : (bitC c p b).ok := by
  have hs := shr_in h.lo p
  have := h.top; have := h.hi; have := h.k5
  unfold bitC
  split
  · exact grow_ok h.k5 (by simp only; omega) (by simp only; omega) (by simp only; omega)
  · exact grow_ok h.k5 (by simp only; omega) (by simp only; omega) (by simp only; omega)
theorem Cd.ok.half {c : Cd} (h : c.ok) (b : Nat) : (halfC c b).ok := by
  have := h.top; have := h.hi; have := h.lo
  unfold halfC
  exact grow_ok h.k5 (by simp only; split <;> omega) (by simp only; omega) (by simp only; omega)
theorem Cd.ok.dir {c : Cd} (h : c.ok) (v : Nat) : ∀ i, (dirC c v i).ok
  | 0 => h
  | i + 1 => (h.half _).dir v i
theorem growC_k (c : Cd) : c.k ≤ (growC c).k ∧ (growC c).k ≤ c.k + 2 := by
  unfold growC; split
  · simp only; omega
  · split
    · simp only; omega
    · omega
theorem bitC_k (c : Cd) (p b : Int) : c.k ≤ (bitC c p b).k ∧ (bitC c p b).k ≤ c.k + 2 := by
  unfold bitC
  split
  · exact growC_k ⟨c.k, c.n + shr_ c.r p, c.r - shr_ c.r p⟩
  · exact growC_k ⟨c.k, c.n, shr_ c.r p⟩
theorem halfC_k (c : Cd) (b : Nat) : c.k ≤ (halfC c b).k ∧ (halfC c b).k ≤ c.k + 2 := growC_k ⟨c.k, c.n + (if b = 1 then c.r / 2 else 0), c.r / 2⟩
theorem dirC_k (c : Cd) (v : Nat) : ∀ i, c.k ≤ (dirC c v i).k ∧ (dirC c v i).k ≤ c.k + 2 * i
  | 0 => by simp [dirC]
  | i + 1 => by
    have h1 := halfC_k c (v / 2 ^ i % 2)
    have h2 := dirC_k (halfC c (v / 2 ^ i % 2)) v i
    simp only [dirC]; omega
theorem strOfNums_append (xs ys : List Int) : strOfNums xs ++ strOfNums ys = strOfNums (xs ++ ys) := by
  apply ba_ext
  simp [strOfNums]
end Go.Proofs.Ytbpbhjnkmonlbaa
