/- What is asked of few is always spoken of. No condition. -/
import Derived.Test.YtbpbhjnkmonlbaaTr
import Derived.Test.YtbpbhjnkmonlbaaRt
namespace Go.Proofs.Ytbpbhjnkmonlbaa
open Sl Go
set_option linter.unusedVariables false
set_option maxRecDepth 10000
theorem putGo_ex : ∀ (ps : List (Int × Int)) (m : Ms) (c : Cd), c.k + 200 * ps.length ≤ 29999999990000 → ∃ r, putGo ps m c = some r
  | [], m, c, h => ⟨_, by simp only [putGo]; rw [if_pos (by simp at h; omega)]⟩
  | (cl, r) :: ps, m, c, h => by
    simp only [List.length_cons] at h
    by_cases h0 : mayv cl r = true
    · obtain ⟨m', c', h1, h2⟩ := forthS_some m cl.toNat c (by omega)
      have h3 := dirC_k c' r.toNat (dirN (cl - 1))
      have h4 := (dirN_in (cl - 1)).2
      obtain ⟨q, h5⟩ := putGo_ex ps m' (dirC c' r.toNat (dirN (cl - 1))) (by omega)
      refine ⟨q, ?_⟩
      simp only [putGo, h0, if_true, h1]
      rw [if_pos (by omega)]; exact h5
    · exact ⟨([], 1), by simp only [putGo, if_neg h0]⟩
theorem traceGo_ex : ∀ (cs : List Int) (m : Ms) (l : List Int), l.length + 7 * cs.length ≤ 1000000000 → ∃ r, traceGo cs m l = some r ∧ r.length ≤ l.length + 7 * cs.length
  | [], m, l, _ => ⟨l, rfl, by simp⟩
  | c :: cs, m, l, h => by
    simp only [List.length_cons] at h
    by_cases h0 : 0 ≤ c ∧ c < 65
    · have hf := forthGo_trac (bitsv c.toNat 7) 0 1 m l (by rw [bitsv_len]; omega)
      have hl := trB_len (bitsv c.toNat 7) 0 1 m
      rw [bitsv_len] at hl
      obtain ⟨r, hr, hrl⟩ := traceGo_ex cs ((trB (bitsv c.toNat 7) 0 1 m).2.came c.toNat) (l ++ (trB (bitsv c.toNat 7) 0 1 m).1) (by rw [List.length_append]; omega)
      rw [List.length_append] at hrl
      refine ⟨r, ?_, by simp only [List.length_cons]; omega⟩
      simp only [traceGo, if_pos h0, forthS, hf]
      exact hr
    · exact ⟨[], by simp only [traceGo, if_neg h0], by simp⟩
theorem dBit_k (s : ByteArray) (x : Cd × Bool) (p : Int) : (dBit s x p).2.2.1.k ≤ x.1.k + 2 := by
  unfold dBit
  split
  · exact (bitC_k x.1 p _).2
  · exact Nat.le_add_right _ _
theorem dDirG_k (s : ByteArray) : ∀ (i v : Nat) (x : Cd × Bool), (dDirG s i v x).2.2.1.k ≤ x.1.k + 2 * i
  | 0, v, x => by simp [dDirG]
  | i + 1, v, x => by
    simp only [dDirG]
    split
    · have h1 := halfC_k x.1 (if valS s x.1.k - x.1.n < x.1.r / 2 then 0 else 1)
      have h2 := dDirG_k s i (v * 2 % 18446744073709551616 + if valS s x.1.k - x.1.n < x.1.r / 2 then 0 else 1) (halfC x.1 (if valS s x.1.k - x.1.n < x.1.r / 2 then 0 else 1), false)
      simp only at h2
      omega
    · simp only; omega
theorem dDir_k (s : ByteArray) (x : Cd × Bool) (n : Int) : (dDir s x n).2.2.1.k ≤ x.1.k + 128 := by
  have h1 := dDirG_k s (mx 0 (mn n 64)).toNat 0 x
  have h2 : (mx 0 (mn n 64)).toNat ≤ 64 := by unfold mx mn; omega
  unfold dDir
  omega
theorem classS_ex (s : ByteArray) : ∀ (k d node : Nat) (m : Ms) (x : Cd × Bool), x.1.k + 2 * k ≤ 29999999999000 → ∃ q, classS (decS s) k d node m x = some q ∧ q.2.2.2.1.k ≤ x.1.k + 2 * k
  | 0, d, node, m, x, _ => by
    simp only [classS]
    split
    · exact ⟨_, rfl, by simp⟩
    · exact ⟨_, rfl, by simp⟩
  | k + 1, d, node, m, x, h => by
    have hb := dBit_k s x (m.chance d node)
    simp only [classS, bitS, decS]
    rw [if_pos (by omega)]
    simp only
    by_cases h0 : (dBit s x (m.chance d node)).2.1 = 0
    · obtain ⟨q, h1, h2⟩ := classS_ex s k (d + 1) (2 * node + (dBit s x (m.chance d node)).1.toNat) (m.learn d node (m.chance d node) (dBit s x (m.chance d node)).1) (dBit s x (m.chance d node)).2.2 (Nat.le_trans (Nat.add_le_add_right hb _) (by omega))
      refine ⟨q, ?_, Nat.le_trans h2 (Nat.le_trans (Nat.add_le_add_right hb _) (by omega))⟩
      rw [if_pos h0]
      simp only [if_true]
      exact h1
    · rw [if_neg h0]
      simp only [if_neg h0]
      exact ⟨_, rfl, Nat.le_trans hb (by omega)⟩
theorem getGo_ex (s : ByteArray) : ∀ (k : Nat) (m : Ms) (x : Cd × Bool) (acc : List (Int × Int)), x.1.k + 200 * k ≤ 29999999990000 → ∃ r, getGo s k m x acc = some r ∧ r.1.length ≤ acc.length + k
  | 0, m, x, acc, h => by
    simp only [getGo]
    rw [if_pos (by omega)]
    split
    · exact ⟨_, rfl, Nat.le_refl _⟩
    · exact ⟨_, rfl, Nat.zero_le _⟩
  | k + 1, m, x, acc, h => by
    obtain ⟨⟨c, e, m', x'⟩, h1, h2⟩ := classS_ex s 7 0 1 m x (by omega)
    simp only at h2
    have h3 := dDir_k s x' (c - 1)
    simp only [getGo, h1]
    by_cases he : e = 0
    · rw [if_pos he, if_pos (by omega)]
      by_cases hd : (dDir s x' (c - 1)).2.1 = 0
      · obtain ⟨r, h4, h5⟩ := getGo_ex s k m' (dDir s x' (c - 1)).2.2 (acc ++ [(c, (dDir s x' (c - 1)).1)]) (by omega)
        rw [if_pos hd]
        exact ⟨r, h4, by simp at h5; omega⟩
      · rw [if_neg hd]
        exact ⟨_, rfl, Nat.zero_le _⟩
    · rw [if_neg he]
      exact ⟨_, rfl, Nat.zero_le _⟩
theorem getS_ex (s : ByteArray) (n : Int) (h : n ≤ 4096) : ∃ r, getS s n = some r ∧ r.1.length ≤ 4096 := by
  unfold getS
  split
  · exact ⟨_, rfl, by simp⟩
  · obtain ⟨r, h1, h2⟩ := getGo_ex s n.toNat ms0 (cd0, false) [] (by simp only [cd0]; omega)
    exact ⟨r, h1, by simp at h2; omega⟩
end Go.Proofs.Ytbpbhjnkmonlbaa
