/- What the model computes: numbers alone, and how it lies in memory. No condition. -/
import Derived.Test.YtbpbhjnkmonlbaaDw
import Derived.Test.YtbpbhjnkmonlbaaTy
namespace Go.Proofs.Ytbpbhjnkmonlbaa
open Sl Go
set_option linter.unusedVariables false
set_option maxRecDepth 10000
/-- All chances, weights, and the classes that came ahead. -/
structure Ms where
  l0 : List Int
  l1 : List Int
  l2 : List Int
  w : List (List Int)
  a : Nat
  b : Nat
def Ms.p1 (m : Ms) (node : Nat) : Nat := 128 * m.a + node
def Ms.p2 (m : Ms) (node : Nat) : Nat := 128 * ((m.a + 2 * m.b) / 3) + node
def gn (l : List Int) (i : Nat) : Int := l.getD i 0
def Ms.ins (m : Ms) (node : Nat) : List Int := [stv (gn m.l0 node), stv (gn m.l1 (m.p1 node)), stv (gn m.l2 (m.p2 node))]
def Ms.wt (m : Ms) (d : Nat) : List Int := m.w.getD d []
def Ms.chance (m : Ms) (d node : Nat) : Int := mixv (m.wt d) (m.ins node)
def Ms.learn (m : Ms) (d node : Nat) (p b : Int) : Ms :=
  { m with l0 := m.l0.set node (mvv (gn m.l0 node) b 4), l1 := m.l1.set (m.p1 node) (mvv (gn m.l1 (m.p1 node)) b 5), l2 := m.l2.set (m.p2 node) (mvv (gn m.l2 (m.p2 node)) b 6), w := m.w.set d (trainv (m.wt d) (m.ins node) p b) }
def Ms.came (m : Ms) (c : Nat) : Ms := { m with a := c, b := m.a }
def ms0 : Ms := ⟨List.replicate 128 2048, List.replicate 8320 2048, List.replicate 8320 2048, List.replicate 7 [21845, 21845, 21845], 0, 0⟩
structure Ms.ok (m : Ms) : Prop where
  n0 : m.l0.length = 128
  n1 : m.l1.length = 8320
  n2 : m.l2.length = 8320
  nw : m.w.length = 7
  n3 : ∀ x ∈ m.w, x.length = 3
  ha : m.a ≤ 64
  hb : m.b ≤ 64
theorem ms0_ok : ms0.ok := ⟨List.length_replicate, List.length_replicate, List.length_replicate, List.length_replicate, fun x hx => by rw [(List.mem_replicate.1 hx).2]; rfl, Nat.zero_le _, Nat.zero_le _⟩
theorem Ms.ok.wt {m : Ms} (h : m.ok) {d : Nat} (hd : d < 7) : m.w[d]? = some (m.wt d) ∧ (m.wt d).length = 3 := by
  have hl : d < m.w.length := by rw [h.nw]; exact hd
  have e : m.w[d]? = some (m.wt d) := by unfold Ms.wt; rw [List.getD_eq_getElem?_getD, List.getElem?_eq_getElem hl]; rfl
  exact ⟨e, h.n3 _ (List.mem_of_getElem? e)⟩
theorem Ms.ok.learn {m : Ms} (h : m.ok) {d : Nat} (hd : d < 7) (node : Nat) (p b : Int) : (m.learn d node p b).ok := by
  refine ⟨by simp [Ms.learn, h.n0], by simp [Ms.learn, h.n1], by simp [Ms.learn, h.n2], by simp [Ms.learn, h.nw], ?_, h.ha, h.hb⟩
  intro x hx
  simp only [Ms.learn] at hx
  rcases List.mem_or_eq_of_mem_set hx with hx | rfl
  · exact h.n3 x hx
  · unfold trainv; rw [trv_len, (h.wt hd).2]
theorem Ms.ok.came {m : Ms} (h : m.ok) {c : Nat} (hc : c ≤ 64) : (m.came c).ok := ⟨h.n0, h.n1, h.n2, h.nw, h.n3, hc, h.ha⟩
theorem gn_get {l : List Int} {i : Nat} (h : i < l.length) : (ints .i64 l)[i]? = some (.int .i64 (gn l i)) := by
  rw [List.getElem?_map, List.getElem?_eq_getElem h, gn, List.getD_eq_getElem?_getD, List.getElem?_eq_getElem h]; rfl
/-- How bits are asked for: a state, and what an asking gives: a bit, an error, the state behind it. -/
abbrev Step (σ : Type) := σ → Int → Option (Int × Int × σ)
def bitS {σ : Type} (step : Step σ) (m : Ms) (d node : Nat) (s : σ) : Option (Int × Int × Ms × σ) :=
  match step s (m.chance d node) with
  | none => none
  | some (b, e, s') => if e = 0 then some (b, 0, m.learn d node (m.chance d node) b, s') else some (0, e, m, s')
def classS {σ : Type} (step : Step σ) : Nat → Nat → Nat → Ms → σ → Option (Int × Int × Ms × σ)
  | 0, _, node, m, s => if 65 ≤ node - 128 then some (0, 3, m, s) else some ((node - 128 : Nat), 0, m.came (node - 128), s)
  | k + 1, d, node, m, s => match bitS step m d node s with
    | none => none
    | some (b, e, m', s') => if e = 0 then classS step k (d + 1) (2 * node + b.toNat) m' s' else some (0, e, m', s')
theorem learn_wt {m : Ms} (h : m.ok) {d : Nat} (hd : d < 7) (node : Nat) (p b : Int) : (m.learn d node p b).wt d = trainv (m.wt d) (m.ins node) p b := by
  have : d < m.w.length := by rw [h.nw]; exact hd
  conv => lhs; unfold Ms.wt Ms.learn
  simp only [List.getD_eq_getElem?_getD]
  rw [List.getElem?_set_self this]; rfl
theorem set_same {α : Type} {l : List α} {i : Nat} {x : α} (h : l[i]? = some x) : l.set i x = l := by
  obtain ⟨hi, rfl⟩ := List.getElem?_eq_some_iff.1 h
  exact List.set_getElem_self hi
/-- The weights' rows in memory. -/
def wch (t : TypeId) (ws : List Value) (W : List (List Int)) : Hp := List.zipWith (fun v xs => .sl v t 1 3 (ints .i64 xs)) ws W
theorem wch_get {t : TypeId} {ws : List Value} {W : List (List Int)} {d : Nat} {v : Value} {xs : List Int} (hv : ws[d]? = some v) (hx : W[d]? = some xs) : (wch t ws W)[d]? = some (.sl v t 1 3 (ints .i64 xs)) := by
  simp [wch, List.getElem?_zipWith, hv, hx]
theorem wch_set (t : TypeId) (ws : List Value) (W : List (List Int)) (d : Nat) (v : Value) (xs : List Int) : wch t (ws.set d v) (W.set d xs) = (wch t ws W).set d (.sl v t 1 3 (ints .i64 xs)) := by
  unfold wch
  apply List.ext_getElem?
  intro i
  simp only [List.getElem?_zipWith, List.getElem?_set, List.length_zipWith]
  by_cases h : d = i
  · subst h
    simp only [if_true]
    by_cases h1 : d < ws.length <;> by_cases h2 : d < W.length <;> simp [h1, h2, Nat.lt_min]
  · simp only [if_neg h]
theorem wch_len {t : TypeId} {ws : List Value} {W : List (List Int)} (h : ws.length = 7) (h2 : W.length = 7) : (wch t ws W).length = 7 := by simp [wch, h, h2]
end Go.Proofs.Ytbpbhjnkmonlbaa
