/- How long bytes are: by classes alone. No condition. -/
import Derived.Test.YtbpbhjnkmonlbaaRt
namespace Go.Proofs.Ytbpbhjnkmonlbaa
open Sl Go
set_option linter.unusedVariables false
/-- As long, and as wide. -/
def Alike (c d : Cd) : Prop := c.k = d.k ∧ c.r = d.r
theorem alike_grow {c d : Cd} (h : Alike c d) : Alike (growC c) (growC d) := by
  obtain ⟨h1, h2⟩ := h
  unfold growC
  rw [h1, h2]
  split
  · exact ⟨rfl, rfl⟩
  · split
    · exact ⟨rfl, rfl⟩
    · exact ⟨h1, h2⟩
theorem alike_bit {c d : Cd} (h : Alike c d) (p b : Int) : Alike (bitC c p b) (bitC d p b) := by
  unfold bitC
  obtain ⟨h1, h2⟩ := h
  split
  · exact alike_grow ⟨h1, by simp only [h2]⟩
  · exact alike_grow ⟨h1, by simp only [h2]⟩
theorem alike_half {c d : Cd} (h : Alike c d) (a b : Nat) : Alike (halfC c a) (halfC d b) := alike_grow ⟨h.1, by simp only [h.2]⟩
theorem alike_dir (v u : Nat) : ∀ (i : Nat) (c d : Cd), Alike c d → Alike (dirC c v i) (dirC d u i)
  | 0, _, _, h => h
  | i + 1, _, _, h => alike_dir v u i _ _ (alike_half h _ _)
theorem alike_go : ∀ (bs : List Int) (dp node : Nat) (m m' : Ms) (c c' d : Cd), Alike c d → forthGo encP bs dp node m c = some (m', c') → ∃ d', forthGo encP bs dp node m d = some (m', d') ∧ Alike c' d'
  | [], dp, node, m, m', c, c', d, h, hg => by
    simp only [forthGo, Option.some.injEq, Prod.mk.injEq] at hg
    obtain ⟨rfl, rfl⟩ := hg
    exact ⟨d, rfl, h⟩
  | b :: bs, dp, node, m, m', c, c', d, h, hg => by
    simp only [forthGo, encP] at hg ⊢
    rw [← h.1]
    split at hg
    · cases hg
    · rename_i c1 hc1
      obtain ⟨hk, hc1⟩ := (Option.ite_none_right_eq_some).1 hc1
      simp only [Option.some.injEq] at hc1
      subst hc1
      simp only [if_pos hk]
      exact alike_go bs _ _ _ m' _ c' _ (alike_bit h _ _) hg
theorem alike_put : ∀ (ps qs : List (Int × Int)) (m : Ms) (c d : Cd) (x y : List Int), ps.map Prod.fst = qs.map Prod.fst → Alike c d → putGo ps m c = some (x, 0) → putGo qs m d = some (y, 0) → x.length = y.length
  | [], qs, m, c, d, x, y, hm, h, hx, hy => by
    cases qs with
    | cons q qs => simp at hm
    | nil =>
      simp only [putGo] at hx hy
      obtain ⟨_, hx⟩ := (Option.ite_none_right_eq_some).1 hx
      obtain ⟨_, hy⟩ := (Option.ite_none_right_eq_some).1 hy
      simp only [Option.some.injEq, Prod.mk.injEq, and_true] at hx hy
      rw [← hx, ← hy, be_len, be_len, h.1]
  | (cl, r) :: ps, qs, m, c, d, x, y, hm, h, hx, hy => by
    cases qs with
    | nil => simp at hm
    | cons q qs =>
      obtain ⟨cl2, r2⟩ := q
      simp only [List.map_cons, List.cons.injEq] at hm
      obtain ⟨rfl, hm⟩ := hm
      simp only [putGo] at hx hy
      split at hx
      · split at hy
        · split at hx
          · cases hx
          · rename_i m1 c1 hf
            obtain ⟨hk, hx⟩ := (Option.ite_none_right_eq_some).1 hx
            unfold forthS at hf
            split at hf
            · cases hf
            · rename_i m2 c2 hg
              simp only [Option.some.injEq, Prod.mk.injEq] at hf
              obtain ⟨rfl, rfl⟩ := hf
              obtain ⟨d2, hd, ha⟩ := alike_go _ _ _ _ _ _ _ _ h hg
              have hs : forthS encP m cl.toNat d = some (m2.came cl.toNat, d2) := by unfold forthS; rw [hd]
              rw [hs] at hy
              simp only at hy
              obtain ⟨_, hy⟩ := (Option.ite_none_right_eq_some).1 hy
              exact alike_put ps qs _ _ _ x y hm (alike_dir _ _ _ _ _ ha) hx hy
        · simp at hy
      · simp at hx
end Go.Proofs.Ytbpbhjnkmonlbaa
