/- What a teller of bits computes: numbers alone. No condition. -/
import Derived.Test.YtbpbhjnkmonlbaaCw
namespace Go.Proofs.Ytbpbhjnkmonlbaa
open Sl Go
set_option linter.unusedVariables false
set_option maxRecDepth 10000
def valL (l : List UInt8) : Nat := l.foldl (fun a b => a * 256 + b.toNat) 0
/-- The number of the first i bytes. -/
def valS (s : ByteArray) (i : Nat) : Nat := valL (s.data.toList.take i)
theorem valS_zero (s : ByteArray) : valS s 0 = 0 := rfl
theorem valS_succ {s : ByteArray} {i : Nat} {b : UInt8} (h : s.data.toList[i]? = some b) : valS s (i + 1) = valS s i * 256 + b.toNat := by
  unfold valS valL
  rw [List.take_add_one, h, List.foldl_append]
  rfl
/-- Why a bit is not told; 0: it is. -/
def gateE (s : ByteArray) (x : Cd × Bool) : Nat := if x.2 then 3 else if s.size < x.1.k then 2 else if valS s x.1.k < x.1.n ∨ x.1.n + x.1.r ≤ valS s x.1.k then 3 else 0
theorem gate_ok {s : ByteArray} {x : Cd × Bool} (h : gateE s x = 0) : x.2 = false ∧ x.1.k ≤ s.size ∧ x.1.n ≤ valS s x.1.k ∧ valS s x.1.k < x.1.n + x.1.r := by
  unfold gateE at h
  cases hb : x.2 with
  | true => simp [hb] at h
  | false =>
    simp only [hb, Bool.false_eq_true, if_false] at h
    split at h
    · cases h
    · split at h
      · cases h
      · exact ⟨rfl, by omega, by omega, by omega⟩
def dBit (s : ByteArray) (x : Cd × Bool) (p : Int) : Int × Int × (Cd × Bool) :=
  if gateE s x = 0 then
    (let b : Int := if valS s x.1.k - x.1.n < shr_ x.1.r p then 1 else 0
    (b, 0, (bitC x.1 p b, false)))
  else (0, (gateE s x : Int), (x.1, true))
/-- i bits, behind v. -/
def dDirG (s : ByteArray) : Nat → Nat → Cd × Bool → Int × Int × (Cd × Bool)
  | 0, v, x => ((v : Int), 0, x)
  | i + 1, v, x => if gateE s x = 0 then
      (let b : Nat := if valS s x.1.k - x.1.n < x.1.r / 2 then 0 else 1
      dDirG s i (v * 2 % 18446744073709551616 + b) (halfC x.1 b, false))
    else (0, (gateE s x : Int), (x.1, true))
def dDir (s : ByteArray) (x : Cd × Bool) (n : Int) : Int × Int × (Cd × Bool) := dDirG s (mx 0 (mn n 64)).toNat 0 x
def dEnd (s : ByteArray) (x : Cd × Bool) : Int := if gateE s x = 0 then (if valS s x.1.k = x.1.n ∧ x.1.k = s.size then 0 else 3) else (gateE s x : Int)
/-- What a teller keeps between bits: bytes taken, and how far they are above. -/
def DI (s : ByteArray) (t v : Nat) (c : Cd) : Prop := t ≤ c.k ∧ t ≤ s.size ∧ ∃ q, c.n = q * 256 ^ (c.k - t) ∧ v + q = valS s t ∧ (v + 1) * 256 ^ (c.k - t) ≤ 1099511627776
theorem DI.zero (s : ByteArray) : DI s 0 0 cd0 := ⟨Nat.zero_le _, Nat.zero_le _, 0, by decide, rfl, by decide⟩
theorem DI.vlt {s : ByteArray} {t v : Nat} {c : Cd} (h : DI s t v c) (hlt : t < c.k) : v * 256 + 256 ≤ 1099511627776 := by
  obtain ⟨_, _, q, _, _, h3⟩ := h
  rw [show c.k - t = (c.k - t - 1) + 1 by omega, Nat.pow_succ] at h3
  have hp : 1 ≤ 256 ^ (c.k - t - 1) := Nat.pow_pos (by decide)
  have : (v + 1) * (1 * 256) ≤ (v + 1) * (256 ^ (c.k - t - 1) * 256) := Nat.mul_le_mul_left _ (Nat.mul_le_mul_right _ hp)
  omega
theorem DI.step {s : ByteArray} {t v : Nat} {c : Cd} (h : DI s t v c) (hlt : t < c.k) {b : UInt8} (hb : s.data.toList[t]? = some b) : DI s (t + 1) (v * 256 + b.toNat) c := by
  obtain ⟨h1, h2, q, h3, h4, h5⟩ := h
  have hs : t < s.size := by rw [Lib.size_eq]; exact (List.getElem?_eq_some_iff.1 hb).1
  have hb8 : b.toNat < 256 := UInt8.toNat_lt b
  have e : 256 ^ (c.k - t) = 256 * 256 ^ (c.k - (t + 1)) := by rw [show c.k - t = (c.k - (t + 1)) + 1 by omega, Nat.pow_succ, Nat.mul_comm]
  refine ⟨hlt, hs, q * 256, by rw [h3, e, Nat.mul_assoc], by rw [valS_succ hb, ← h4]; omega, ?_⟩
  rw [e, ← Nat.mul_assoc] at h5
  exact Nat.le_trans (Nat.mul_le_mul_right _ (by omega)) h5
theorem DI.full {s : ByteArray} {v : Nat} {c : Cd} (h : DI s c.k v c) : v + c.n = valS s c.k ∧ c.n ≤ valS s c.k ∧ v = valS s c.k - c.n := by
  obtain ⟨_, _, q, h3, h4, _⟩ := h
  rw [Nat.sub_self, Nat.pow_zero, Nat.mul_one] at h3
  omega
/-- Behind a growing. -/
theorem DI.grown {s : ByteArray} {v : Nat} {c : Cd} (hk : c.k ≤ s.size) (hv : v + c.n = valS s c.k) (hlt : v ≤ c.r) (hr : c.r < 4294967296) (hl : 4096 ≤ c.r) : DI s c.k v (growC c) := by
  unfold growC
  split
  · refine ⟨by simp only; omega, hk, c.n, ?_, hv, ?_⟩
    · simp only [show c.k + 2 - c.k = 2 by omega]
    · simp only [show c.k + 2 - c.k = 2 by omega] <;> omega
  · split
    · refine ⟨by simp only; omega, hk, c.n, ?_, hv, ?_⟩
      · simp only [show c.k + 1 - c.k = 1 by omega] <;> omega
      · simp only [show c.k + 1 - c.k = 1 by omega] <;> omega
    · exact ⟨Nat.le_refl _, hk, c.n, by simp, hv, by simp; omega⟩
end Go.Proofs.Ytbpbhjnkmonlbaa
