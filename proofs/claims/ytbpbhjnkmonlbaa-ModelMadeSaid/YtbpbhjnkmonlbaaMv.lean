/- The model in memory, and how a class is walked: no program. No condition. -/
import Derived.Test.YtbpbhjnkmonlbaaMod
namespace Go.Proofs.Ytbpbhjnkmonlbaa
open Sl Go
set_option linter.unusedVariables false
set_option maxRecDepth 10000
theorem list7 {α : Type} {l : List α} (h : l.length = 7) : ∃ a b c d e f g, l = [a, b, c, d, e, f, g] := by
  match l, h with
  | [a, b, c, d, e, f, g], _ => exact ⟨a, b, c, d, e, f, g, rfl⟩
/-- A model in memory. -/
def modH (mb : Nat) (m : Ms) (H : Hp) : Prop := ∃ (g0 g1 g2 c0 c1 c2 : Nat) (ws : List Value), ws.length = 7 ∧
  H = .ob mb ([.slice (some ⟨g0, 0, none⟩) 1 c0, .slice (some ⟨g1, 0, none⟩) 65 c1, .slice (some ⟨g2, 0, none⟩) 65 c2] ++ ws ++ [N m.a, N m.b]) 101 ::
    .sl (.slice (some ⟨g0, 0, none⟩) 1 c0) 104 128 1 (ints .i64 m.l0) :: .sl (.slice (some ⟨g1, 0, none⟩) 65 c1) 104 128 65 (ints .i64 m.l1) :: .sl (.slice (some ⟨g2, 0, none⟩) 65 c2) 104 128 65 (ints .i64 m.l2) :: wch 3 ws m.w
theorem bitS_ok {σ : Type} {step : Step σ} {m m' : Ms} {d node : Nat} {s s' : σ} {b e : Int} (hm : m.ok) (hd : d < 7) (h : bitS step m d node s = some (b, e, m', s')) : m'.ok := by
  unfold bitS at h
  split at h
  · cases h
  · split at h
    · simp only [Option.some.injEq, Prod.mk.injEq] at h
      obtain ⟨_, _, rfl, _⟩ := h
      exact hm.learn hd node _ _
    · simp only [Option.some.injEq, Prod.mk.injEq] at h
      obtain ⟨_, _, rfl, _⟩ := h
      exact hm
theorem bitS_b {σ : Type} {step : Step σ} (hbit : ∀ s p b e s', step s p = some (b, e, s') → b = 0 ∨ b = 1) {m m' : Ms} {d node : Nat} {s s' : σ} {b e : Int} (h : bitS step m d node s = some (b, e, m', s')) : b = 0 ∨ b = 1 := by
  unfold bitS at h
  split at h
  · cases h
  · rename_i hst
    split at h
    · simp only [Option.some.injEq, Prod.mk.injEq] at h
      obtain ⟨rfl, _⟩ := h
      exact hbit _ _ _ _ _ hst
    · simp only [Option.some.injEq, Prod.mk.injEq] at h
      exact .inl h.1.symm
section
variable {σ : Type} (HBp : σ → Hp → Prop) (step : Step σ) (f : FuncId) (first : List Value) (hf : callB Try.prog f = true) (hhow : ∀ s p H F b e s', HBp s H → 1 ≤ p → p ≤ 4095 → step s p = some (b, e, s') → SC Try.prog f (first ++ [N p]).toArray H F (fun v H' => v = .tuple #[N b, N e] ∧ HBp s' H'))
include hf hhow
theorem bit_calls (mb : Nat) (HM HB : Hp) (m m' : Ms) (d node : Nat) (s s' : σ) (b e : Int) (F : Frm) (hM : modH mb m HM) (hm : m.ok) (hd : d < 7) (hn : node < 128) (hs : HBp s HB) (hstep : bitS step m d node s = some (b, e, m', s')) :
    SC Try.prog 69 #[.pointer (some ⟨mb, 0, none⟩), N d, N node, .func (.func f) first.toArray #[]] (HM ++ HB) F (fun u H' => u = .tuple #[N b, N e] ∧ ∃ HM' HB', H' = HM' ++ HB' ∧ modH mb m' HM' ∧ HBp s' HB') := by
  obtain ⟨g0, g1, g2, c0, c1, c2, ws, hw, rfl⟩ := hM
  have hl : d < ws.length := by omega
  obtain ⟨wv, hwv⟩ : ∃ wv, ws[d]? = some wv := ⟨_, List.getElem?_eq_getElem hl⟩
  have hg := wch_get (t := 3) hwv (hm.wt hd).1
  have hwl := wch_len (t := 3) hw hm.nw
  have hp := perm_focus _ d _ hg
  have hc : ∀ x y : List Value, x.length = 3 → (x ++ ws ++ y)[3 + d]? = some wv := fun x y hx => by
    rw [List.append_assoc, List.getElem?_append_right (by omega), hx, show 3 + d - 3 = d by omega, List.getElem?_append_left hl]; exact hwv
  have hset : ∀ (x y : List Value) (v : Value), x.length = 3 → (x ++ ws ++ y).set (3 + d) v = x ++ ws.set d v ++ y := fun x y v hx => by
    rw [List.append_assoc, List.set_append_right _ _ (by omega), hx, show 3 + d - 3 = d by omega, List.set_append_left _ _ hl, ← List.append_assoc]
  have h10 : ∀ (x y z : Value) (u : List Value), ([x, y, z] ++ ws ++ u)[10]? = u[0]? ∧ ([x, y, z] ++ ws ++ u)[11]? = u[1]? := fun x y z u => by
    obtain ⟨a1, a2, a3, a4, a5, a6, a7, rfl⟩ := list7 hw
    exact ⟨rfl, rfl⟩
  refine SC.perm ((((hp.append_right HB).cons _).cons _).cons _ |>.cons _) ?_
  refine SC.postPerm (bitF_calls HBp step f first hf hhow mb g0 g1 g2 c0 c1 c2 _ wv ((wch 3 ws m.w).eraseIdx d) HB m m' d node s s' b e F hm hd hn hs hstep rfl rfl rfl (hc _ _ rfl) (h10 _ _ _ _).1 (h10 _ _ _ _).2 (by simp [hw])) ?_
  rintro u H' ⟨rfl, wv', HB', rfl, hs', h1, h2, h3⟩
  refine ⟨_, ?_, rfl, _, HB', rfl, ⟨g0, g1, g2, c0, c1, c2, ws.set d wv', by simp [hw], rfl⟩, hs'⟩
  have hp2 := perm_set (wch 3 ws m.w) d (.sl wv' 3 1 3 (ints .i64 (m'.wt d))) (by omega)
  rw [hset _ _ _ rfl, h1, h2, h3, wch_set]
  exact ((((hp2.symm.append_right HB').cons _).cons _).cons _).cons _
end
/-! ### A class whose bits are known -/
abbrev Put (σ : Type) := σ → Int → Int → Option σ
def toldStep {σ : Type} (put : Put σ) : Step (List Int × σ)
  | ([], _), _ => none
  | (b :: bs, s), p => if b = 0 ∨ b = 1 then (match put s p b with
    | none => none
    | some s' => some (b, 0, (bs, s'))) else none
theorem told_bit {σ : Type} (put : Put σ) : ∀ s p b e s', toldStep put s p = some (b, e, s') → b = 0 ∨ b = 1 := by
  rintro ⟨bs, s⟩ p b e s' h
  cases bs with
  | nil => simp [toldStep] at h
  | cons b0 bs =>
    simp only [toldStep] at h
    split at h
    · rename_i hb
      split at h
      · cases h
      · simp only [Option.some.injEq, Prod.mk.injEq] at h
        rw [← h.1]; exact hb
    · cases h
def forthGo {σ : Type} (put : Put σ) : List Int → Nat → Nat → Ms → σ → Option (Ms × σ)
  | [], _, _, m, s => some (m, s)
  | b :: bs, d, node, m, s => match put s (m.chance d node) b with
    | none => none
    | some s' => forthGo put bs (d + 1) (2 * node + b.toNat) (m.learn d node (m.chance d node) b) s'
def forthS {σ : Type} (put : Put σ) (m : Ms) (c : Nat) (s : σ) : Option (Ms × σ) := match forthGo put (bitsv c 7) 0 1 m s with
  | none => none
  | some (m', s') => some (m'.came c, s')
theorem told_go {σ : Type} (put : Put σ) : ∀ (bs : List Int) (d node : Nat) (m m' : Ms) (s s' : σ), (∀ b ∈ bs, b = 0 ∨ b = 1) → forthGo put bs d node m s = some (m', s') → bs.foldl (fun n b => 2 * n + b.toNat) node - 128 < 65 →
    classS (toldStep put) bs.length d node m (bs, s) = some (((bs.foldl (fun n b => 2 * n + b.toNat) node - 128 : Nat) : Int), 0, m'.came (bs.foldl (fun n b => 2 * n + b.toNat) node - 128), ([], s'))
  | [], d, node, m, m', s, s', _, h, hlt => by
    simp only [forthGo, Option.some.injEq, Prod.mk.injEq] at h
    obtain ⟨rfl, rfl⟩ := h
    simp only [List.foldl_nil] at hlt
    simp only [List.length_nil, classS, List.foldl_nil]
    rw [if_neg (by omega)]
  | b :: bs, d, node, m, m', s, s', hb, h, hlt => by
    simp only [forthGo] at h
    cases hp : put s (m.chance d node) b with
    | none => rw [hp] at h; cases h
    | some s1 =>
      rw [hp] at h
      have ih := told_go put bs (d + 1) (2 * node + b.toNat) _ m' s1 s' (fun x hx => hb x (List.mem_cons_of_mem _ hx)) h hlt
      have hb0 := hb b List.mem_cons_self
      simp only [List.length_cons, classS, bitS, toldStep, if_pos hb0, hp, if_true, List.foldl_cons]
      exact ih
theorem bits_node : ∀ c < 65, (bitsv ((c : Nat) : Int) 7).foldl (fun n b => 2 * n + b.toNat) 1 = 128 + c := by decide
theorem told_class {σ : Type} {put : Put σ} {m m' : Ms} {c : Nat} {s s' : σ} (hc : c < 65) (h : forthS put m c s = some (m', s')) : classS (toldStep put) 7 0 1 m (bitsv c 7, s) = some ((c : Int), 0, m', ([], s')) := by
  unfold forthS at h
  cases hg : forthGo put (bitsv c 7) 0 1 m s with
  | none => rw [hg] at h; cases h
  | some r =>
    obtain ⟨m1, s1⟩ := r
    rw [hg] at h
    simp only [Option.some.injEq, Prod.mk.injEq] at h
    obtain ⟨rfl, rfl⟩ := h
    have e := told_go put (bitsv c 7) 0 1 m m1 s s1 (fun b hb => by obtain ⟨j, _, rfl⟩ := List.mem_map.1 hb; exact btv_in _ _) hg (by rw [bits_node c hc]; omega)
    rw [bits_node c hc, bitsv_len, show 128 + c - 128 = c by omega] at e
    exact e
end Go.Proofs.Ytbpbhjnkmonlbaa
