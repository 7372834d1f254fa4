/- How far bytes are above a number, byte by byte, the lowest first. No condition. -/
import Derived.Test.YtbpbhjnkmonlbaaRt
namespace Go.Proofs.Ytbpbhjnkmonlbaa
open Sl Go
set_option linter.unusedVariables false
set_option maxRecDepth 10000
theorem valS_div {s : ByteArray} : ∀ (i k : Nat), i ≤ k → k ≤ s.size → valS s k / 256 ^ i = valS s (k - i)
  | 0, k, _, _ => by simp
  | i + 1, k, hi, hk => by
    obtain ⟨j, rfl⟩ : ∃ j, k = j + 1 := ⟨k - 1, by omega⟩
    have hl : j < s.data.toList.length := by rw [← Lib.size_eq]; omega
    have hs := valS_succ (s := s) (i := j) (List.getElem?_eq_getElem hl)
    have hb := UInt8.toNat_lt (s.data.toList[j])
    rw [Nat.pow_succ, Nat.mul_comm, ← Nat.div_div_eq_div_mul, hs, show (valS s j * 256 + (s.data.toList[j]).toNat) / 256 = valS s j by omega, valS_div i j (by omega) (by omega), show j + 1 - (i + 1) = j - i by omega]
theorem valS_byte {s : ByteArray} {k i : Nat} (hi : i < k) (hk : k ≤ s.size) : ∃ b, s.data.toList[k - 1 - i]? = some b ∧ b.toNat = valS s k / 256 ^ i % 256 := by
  have hl : k - 1 - i < s.data.toList.length := by rw [← Lib.size_eq]; omega
  refine ⟨_, List.getElem?_eq_getElem hl, ?_⟩
  have hs := valS_succ (s := s) (i := k - 1 - i) (List.getElem?_eq_getElem hl)
  have hb := UInt8.toNat_lt (s.data.toList[k - 1 - i])
  rw [valS_div i k (by omega) hk, show k - i = k - 1 - i + 1 by omega, hs]
  omega
theorem valS_lt {s : ByteArray} : ∀ k, k ≤ s.size → valS s k < 256 ^ k
  | 0, _ => by simp [valS_zero]
  | k + 1, h => by
    have hl : k < s.data.toList.length := by rw [← Lib.size_eq]; omega
    have hs := valS_succ (s := s) (i := k) (List.getElem?_eq_getElem hl)
    have hb := UInt8.toNat_lt (s.data.toList[k])
    have ih := valS_lt (s := s) k (by omega)
    rw [hs, Nat.pow_succ]; omega
theorem be_byte {k n i : Nat} (hi : i < k) : (be k n)[k - 1 - i]? = some ((n / 256 ^ i % 256 : Nat) : Int) := by
  have h := be_take k n (k - i) (by omega)
  rw [show k - (k - i) = i by omega] at h
  have h2 : ((be k n).take (k - i))[k - 1 - i]? = (be k n)[k - 1 - i]? := by rw [List.getElem?_take, if_pos (by omega)]
  rw [← h2, h, show k - i = (k - 1 - i) + 1 by omega]
  have := at_last (k - 1 - i) (n / 256 ^ i) []
  rwa [List.append_nil] at this
/-- What i bytes tell. -/
structure Gap (V n i : Nat) (o d : Nat) (g : Bool) : Prop where
  o1 : o ≤ 1
  e : ∃ D, D < 256 ^ i ∧ V % 256 ^ i + o * 256 ^ i = n % 256 ^ i + D ∧ d = D % 72057594037927936 ∧ g = decide (72057594037927936 ≤ D)
theorem Gap.zero (V n : Nat) : Gap V n 0 0 0 false := ⟨by decide, 0, by decide, by simp [Nat.mod_one], rfl, rfl⟩
theorem gap_mul {i D v : Nat} (h7 : 7 ≤ i) : ∃ q, 256 ^ i * v = 72057594037927936 * (q * v) ∧ 1 ≤ q := by
  refine ⟨256 ^ (i - 7), ?_, Nat.pow_pos (by decide)⟩
  rw [← Nat.mul_assoc, show (72057594037927936 : Nat) = 256 ^ 7 by decide, ← Nat.pow_add, show 7 + (i - 7) = i by omega]
/-- One byte more: v is what is left, o2 what is owed. -/
theorem Gap.step {V n i o d : Nat} {g : Bool} (h : Gap V n i o d g) {v o2 : Nat} (hv : v < 256) (ho : o2 ≤ 1) (he : V / 256 ^ i % 256 + 256 * o2 = n / 256 ^ i % 256 + o + v) :
    Gap V n (i + 1) o2 (if i < 7 then d + v * 256 ^ i else d) (if i < 7 then g else g || decide (0 < v)) := by
  obtain ⟨h1, D, h2, h3, h4, h5⟩ := h
  have hp : 0 < 256 ^ i := Nat.pow_pos (by decide)
  have hD : D + 256 ^ i * v < 256 ^ (i + 1) := by
    rw [Nat.pow_succ]
    have : 256 ^ i * v ≤ 256 ^ i * 255 := Nat.mul_le_mul_left _ (by omega)
    omega
  refine ⟨ho, D + 256 ^ i * v, hD, ?_, ?_, ?_⟩
  · rw [Nat.mod_pow_succ, Nat.mod_pow_succ, Nat.pow_succ]
    have e1 : 256 ^ i * (V / 256 ^ i % 256) + 256 ^ i * (256 * o2) = 256 ^ i * (n / 256 ^ i % 256) + 256 ^ i * o + 256 ^ i * v := by
      rw [← Nat.mul_add, he, Nat.mul_add, Nat.mul_add]
    have e2 : o2 * (256 ^ i * 256) = 256 ^ i * (256 * o2) := by rw [Nat.mul_comm, Nat.mul_assoc]
    have e3 : o * 256 ^ i = 256 ^ i * o := Nat.mul_comm _ _
    omega
  · split
    · rename_i h7
      have hle : 256 ^ (i + 1) ≤ 72057594037927936 := by
        rw [show (72057594037927936 : Nat) = 256 ^ 7 by decide]; exact Nat.pow_le_pow_right (by decide) (by omega)
      have : D < 72057594037927936 := by rw [Nat.pow_succ] at hle; omega
      rw [h4, Nat.mod_eq_of_lt (by omega), Nat.mod_eq_of_lt (by omega), Nat.mul_comm]
    · rename_i h7
      obtain ⟨q, hq, _⟩ := gap_mul (D := D) (v := v) (show 7 ≤ i by omega)
      rw [h4, hq, Nat.add_mul_mod_self_left]
  · split
    · rename_i h7
      have hle : 256 ^ (i + 1) ≤ 72057594037927936 := by
        rw [show (72057594037927936 : Nat) = 256 ^ 7 by decide]; exact Nat.pow_le_pow_right (by decide) (by omega)
      rw [h5, decide_eq_false (by rw [Nat.pow_succ] at hle; omega), decide_eq_false (by omega)]
    · rename_i h7
      obtain ⟨q, hq, hq1⟩ := gap_mul (D := D) (v := v) (show 7 ≤ i by omega)
      rw [h5, hq]
      rcases Nat.eq_zero_or_pos v with rfl | hv0
      · simp
      · have : 1 ≤ q * v := Nat.mul_pos hq1 hv0
        rw [decide_eq_true (show 0 < v from hv0), Bool.or_true, decide_eq_true (by omega)]
/-- All bytes: is the number among the range's, and how far above low? -/
theorem Gap.full {V n k o d r : Nat} {g : Bool} (h : Gap V n k o d g) (hV : V < 256 ^ k) (hn : n < 256 ^ k) (hr : r < 4294967296) :
    (decide (0 < o) || g || decide (r ≤ d)) = decide (V < n ∨ n + r ≤ V) ∧ (¬ (V < n ∨ n + r ≤ V) → d = V - n) := by
  obtain ⟨h1, D, h2, h3, h4, h5⟩ := h
  rw [Nat.mod_eq_of_lt hV, Nat.mod_eq_of_lt hn] at h3
  subst h4 h5
  rcases Nat.eq_zero_or_pos o with rfl | ho
  · rw [Nat.zero_mul, Nat.add_zero] at h3
    refine ⟨?_, fun hh => ?_⟩
    · rw [Bool.eq_iff_iff]
      simp only [Bool.or_eq_true, decide_eq_true_eq]
      omega
    · omega
  · obtain rfl : o = 1 := by omega
    refine ⟨?_, fun hh => by omega⟩
    rw [Bool.eq_iff_iff]
    simp only [Bool.or_eq_true, decide_eq_true_eq]
    omega
theorem or_gap {d v i : Nat} (hi : i < 7) (hd : d < 256 ^ i) (hv : v < 256) : IntKind.u64.wrap ↑((((d : Nat) : Int) % 2 ^ IntKind.u64.bits).toNat ||| (((v * 256 ^ i : Nat) : Int) % 2 ^ IntKind.u64.bits).toNat) = ((d + v * 256 ^ i : Nat) : Int) := by
  have hp : 256 ^ i = 2 ^ (8 * i) := by rw [show (256 : Nat) = 2 ^ 8 by decide, ← Nat.pow_mul]
  have hle : 256 ^ (i + 1) ≤ 256 ^ 7 := Nat.pow_le_pow_right (by decide) (by omega)
  have e7 : (256 : Nat) ^ 7 = 72057594037927936 := by decide
  have hm : v * 256 ^ i ≤ 255 * 256 ^ i := Nat.mul_le_mul_right _ (by omega)
  rw [Nat.pow_succ] at hle
  have e1 : (((d : Nat) : Int) % 2 ^ IntKind.u64.bits).toNat = d := by simp [IntKind.bits]; omega
  have e2 : (((v * 256 ^ i : Nat) : Int) % 2 ^ IntKind.u64.bits).toNat = v * 256 ^ i := by
    generalize v * 256 ^ i = q at *
    simp [IntKind.bits]; omega
  have e3 : d ||| v * 256 ^ i = d + v * 256 ^ i := by
    have := Nat.shiftLeft_add_eq_or_of_lt (i := 8 * i) (b := d) (by rw [← hp]; exact hd) v
    rw [Nat.shiftLeft_eq, ← hp] at this
    rw [Nat.or_comm, Nat.add_comm]; exact this.symm
  rw [e1, e2, e3]
  generalize v * 256 ^ i = q at *
  exact nwu64 (by omega)
theorem shl_gap {v i : Nat} (hi : i < 7) (hv : v < 256) : IntKind.u64.wrap (((v : Nat) : Int) * 2 ^ min ((8 : Int) * ((i : Nat) : Int)).toNat IntKind.u64.bits) = ((v * 256 ^ i : Nat) : Int) := by
  have hp : (256 : Nat) ^ i = 2 ^ (8 * i) := by rw [show (256 : Nat) = 2 ^ 8 by decide, ← Nat.pow_mul]
  have hle : 256 ^ (i + 1) ≤ 256 ^ 7 := Nat.pow_le_pow_right (by decide) (by omega)
  have e7 : (256 : Nat) ^ 7 = 72057594037927936 := by decide
  have hm : v * 256 ^ i ≤ 255 * 256 ^ i := Nat.mul_le_mul_right _ (by omega)
  rw [Nat.pow_succ] at hle
  have e1 : min ((8 : Int) * ((i : Nat) : Int)).toNat IntKind.u64.bits = 8 * i := by simp [IntKind.bits]; omega
  have e2 : ((v : Nat) : Int) * 2 ^ (8 * i) = ((v * 256 ^ i : Nat) : Int) := by rw [hp]; push_cast; rfl
  rw [e1, e2]
  generalize v * 256 ^ i = q at *
  exact nwu64 (by omega)
/-- Bytes are their number's. -/
theorem be_valS (s : ByteArray) : ∀ k, k ≤ s.size → (be k (valS s k)) = (s.data.toList.take k).map fun b => ((b.toNat : Nat) : Int)
  | 0, _ => by simp [be]
  | k + 1, h => by
    have hl : k < s.data.toList.length := by rw [← Lib.size_eq]; omega
    have hs := valS_succ (s := s) (i := k) (List.getElem?_eq_getElem hl)
    have hb := UInt8.toNat_lt (s.data.toList[k])
    rw [be, hs, show (valS s k * 256 + (s.data.toList[k]).toNat) / 256 = valS s k by omega, show (valS s k * 256 + (s.data.toList[k]).toNat) % 256 = (s.data.toList[k]).toNat by omega, be_valS s k (by omega), List.take_add_one, List.getElem?_eq_getElem hl]
    simp
theorem str_valS (s : ByteArray) : strOfNums (be s.size (valS s s.size)) = s := by
  apply ba_ext
  rw [strOfNums_data, be_valS s s.size (Nat.le_refl _), List.take_of_length_le (by rw [← Lib.size_eq]; exact Nat.le_refl _), List.map_map]
  have : ((fun x : Int => UInt8.ofNat x.toNat) ∘ fun b : UInt8 => ((b.toNat : Nat) : Int)) = id := by
    funext b; simp
  rw [this, List.map_id]
theorem end_eq {s : ByteArray} {k n : Nat} (hk : k ≤ s.size) (hn : n < 256 ^ k) : s = strOfNums (be k n) ↔ valS s k = n ∧ k = s.size := by
  constructor
  · intro h
    have hsz : s.size = k := by rw [h, strOfNums_size, be_len]
    refine ⟨?_, hsz.symm⟩
    rw [h, valS_be (Nat.le_refl _), Nat.sub_self, Nat.pow_zero, Nat.div_one, Nat.mod_eq_of_lt hn]
  · rintro ⟨h1, rfl⟩
    rw [← h1, str_valS]
end Go.Proofs.Ytbpbhjnkmonlbaa
