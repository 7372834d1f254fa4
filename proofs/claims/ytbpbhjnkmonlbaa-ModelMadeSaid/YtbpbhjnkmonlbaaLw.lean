/- From a world to a frame: what a row's proof leans on. No condition. -/
import Derived.Test.YtbpbhjnkmonlbaaSt
import Derived.ChangeShapes
import Derived.Test.YtbpbhjnkmonlbaaWSized
namespace Go.Proofs.Ytbpbhjnkmonlbaa
open Go.RowKit Sl Go
set_option linter.unusedVariables false
/-- All that is there is frame. -/
def frmOf (W : World) : Frm := ⟨fun b => W.heap[b]?, W.os, W.tape, W.output⟩
theorem own_of (W : World) : Own W [] (frmOf W) := ⟨rfl, rfl, rfl, by simp, by simp, fun _ _ h => h, by simp⟩
theorem cell_of {W : World} {a : Addr} {v : Value} (h : W.cell? a = some v) : ∃ b off, a = ⟨b, off, none⟩ ∧ (frmOf W).cell? ⟨b, off, none⟩ = some v := by
  obtain ⟨b, off, sp⟩ := a
  unfold World.cell? at h
  unfold Frm.cell? frmOf
  simp only at h ⊢
  cases hb : W.heap[b]? with
  | none => rw [hb] at h; simp at h
  | some o =>
    rw [hb] at h
    cases o <;> simp at h
    cases sp with
    | none => simp at h; exact ⟨b, off, rfl, by simp [hb, h]⟩
    | some s => simp at h
theorem fv_of_world {W : World} {x : Addr} {k : IntKind} {zs : List Int} {n : Nat} (h : ∀ i, i < zs.length → W.cell? (x.add i) = some (.int k (zs.getD i 0))) : FV (frmOf W) (some x) (ints k (zs.take n)) := fun h0 => by
  have hz : 0 < zs.length := by simp at h0; omega
  obtain ⟨b, off, sp⟩ := x
  cases sp with
  | some s =>
    obtain ⟨b', off', e, _⟩ := cell_of (h 0 hz)
    unfold Addr.add at e
    split at e <;> simp_all
  | none =>
    refine ⟨b, off, rfl, fun j u hu => ?_⟩
    rw [List.getElem?_map, List.getElem?_take] at hu
    split at hu
    · obtain ⟨y, hy, rfl⟩ := Option.map_eq_some_iff.1 hu
      have hj := (List.getElem?_eq_some_iff.1 hy).1
      obtain ⟨b', off', e, hc⟩ := cell_of (h j hj)
      rw [add_at] at e
      cases e
      rw [hc, List.getD_eq_getElem?_getD, hy]; rfl
    · simp at hu
theorem lit_in {k : IntKind} {x : Int} (h : (Lit.int k x).wf = true) : k.min ≤ x ∧ x ≤ k.max := by
  unfold Lit.wf at h
  simpa using h
end Go.Proofs.Ytbpbhjnkmonlbaa
