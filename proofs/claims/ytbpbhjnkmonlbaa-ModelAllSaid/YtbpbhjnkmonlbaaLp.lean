/- From a world to a frame: rows of parts. No condition. -/
import Derived.Test.YtbpbhjnkmonlbaaLw
import Derived.Test.YtbpbhjnkmonlbaaMu
import Derived.Deep.SlicePairs
import Derived.ChangeArms
namespace Go.Proofs.Ytbpbhjnkmonlbaa
open Go.RowKit Sl Go Go.ChangeShapes
set_option linter.unusedVariables false
theorem parts_of_world {H : Type} {enc : TypeId × Value → H} {W : World} {t e : TypeId} {f0 f1 : Field} {fuel : Nat} {a : Option Addr} {len cap : Nat} {sp : Nat → Bool} {x : DataW H × List MemPlace} (ht : Try.prog.underlying t = some (.slice e)) (he : Try.prog.underlying e = some (.struct #[f0, f1]))
    (ce : Try.prog.cellsOf e = 2) (o0 : f0.offset = 0) (o1 : f1.offset = 1) (c0 : Try.prog.cellsOf f0.type = 1) (c1 : Try.prog.cellsOf f1.type = 1) (h0 : Try.prog.underlying f0.type = some (.int .i64)) (h1 : Try.prog.underlying f1.type = some (.int .u64))
    (h : DataW.trod enc Try.prog W 0 sp true fuel t [.slice a len cap] = some x) : ∃ ps : List (Int × Int), ps.length = len ∧ FV (frmOf W) a (pcells ps) ∧ ∀ p ∈ ps, 0 ≤ p.2 ∧ p.2 < 18446744073709551616 := by
  rcases Go.Deep.open_slice_pairs ht he ce o0 o1 c0 c1 h with ⟨hcs, _⟩ | ⟨b, l, c, m, n, V0, V1, D0, D1, P0, P1, hcs, _, hl, _, hm, _, hv⟩
  · simp only [List.cons.injEq, Value.slice.injEq, and_true] at hcs
    obtain ⟨rfl, rfl, rfl⟩ := hcs
    exact ⟨[], rfl, FV.nil, by simp⟩
  · simp only [List.cons.injEq, Value.slice.injEq, and_true] at hcs
    obtain ⟨rfl, rfl, rfl⟩ := hcs
    have hlm : len ≤ m := by rw [hm]; split <;> omega
    have each : ∀ i, i < len → ∃ q : Int × Int, V0 i = .int .i64 q.1 ∧ V1 i = .int .u64 q.2 ∧ 0 ≤ q.2 ∧ q.2 < 18446744073709551616 := by
      intro i hi
      obtain ⟨_, _, g0, g1⟩ := hv i (by omega)
      obtain ⟨y, hy, _, _⟩ := DataW.trod_int h0 g0
      obtain ⟨z, hz, _, hw⟩ := DataW.trod_int h1 g1
      have hz2 : (0 : Int) ≤ z ∧ z ≤ 18446744073709551615 := lit_in hw
      exact ⟨(y, z), by simpa using hy, by simpa using hz, hz2.1, by simp only; omega⟩
    obtain ⟨q, hq⟩ := Go.Deep.choose_lt each
    have hget : ∀ (L : Nat), (∀ i, i < L → i < len) → ∀ (j : Nat) (u : Value), (pcells ((List.range L).map q))[j]? = some u → W.cell? (b.add j) = some u := by
      intro L
      induction L with
      | zero => intro _ j u hu; simp [pcells] at hu
      | succ L ih =>
        intro hL j u hu
        rw [List.range_succ, List.map_append, List.map_cons, List.map_nil, show q L = ((q L).1, (q L).2) from rfl, pcells_snoc] at hu
        have hpl : (pcells ((List.range L).map q)).length = L * 2 := by rw [pcells_len]; simp
        by_cases hj : j < L * 2
        · rw [List.getElem?_append_left (by omega)] at hu
          exact ih (fun i hi => hL i (by omega)) j u hu
        · rw [List.getElem?_append_right (by omega), hpl] at hu
          have hLl := hL L (by omega)
          obtain ⟨e1, e2, _, _⟩ := hv L (by omega)
          have hql := hq L hLl
          match hd : j - L * 2, hu with
          | 0, hu =>
            simp only [List.getElem?_cons_zero, Option.some.injEq] at hu
            rw [show j = L * 2 by omega, e1, hql.1]; exact congrArg some hu
          | 1, hu =>
            simp only [List.getElem?_cons_succ, List.getElem?_cons_zero, Option.some.injEq] at hu
            rw [show j = L * 2 + 1 by omega, e2, hql.2.1]; exact congrArg some hu
          | k + 2, hu => simp at hu
    refine ⟨(List.range len).map q, by simp, fun hpos => ?_, fun p hp => ?_⟩
    · have h1 := hget len (fun _ h => h)
      obtain ⟨b', off, sp⟩ := b
      cases sp with
      | some s =>
        have hp2 := hpos
        obtain ⟨u, hu⟩ : ∃ u, (pcells ((List.range len).map q))[0]? = some u := ⟨_, List.getElem?_eq_getElem hp2⟩
        obtain ⟨b2, off2, e, _⟩ := cell_of (h1 0 u hu)
        unfold Addr.add at e
        split at e <;> simp_all
      | none =>
        refine ⟨b', off, rfl, fun j u hu => ?_⟩
        obtain ⟨b2, off2, e, hc⟩ := cell_of (h1 j u hu)
        rw [add_at] at e
        cases e
        exact hc
    · obtain ⟨i, hi, rfl⟩ := List.mem_map.1 hp
      have := hq i (List.mem_range.1 hi)
      exact ⟨this.2.2.1, this.2.2.2⟩
end Go.Proofs.Ytbpbhjnkmonlbaa
