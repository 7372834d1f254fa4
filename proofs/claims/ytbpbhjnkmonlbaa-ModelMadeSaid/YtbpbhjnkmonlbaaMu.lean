/- Traces, bytes and parts by the model: no program. No condition. -/
import Derived.Test.YtbpbhjnkmonlbaaMo4
namespace Go.Proofs.Ytbpbhjnkmonlbaa
open Sl Go
set_option linter.unusedVariables false
set_option maxRecDepth 10000
theorem forthGo_ok {σ : Type} {put : Put σ} : ∀ (bs : List Int) (d node : Nat) (m m' : Ms) (s s' : σ), d + bs.length ≤ 7 → m.ok → forthGo put bs d node m s = some (m', s') → m'.ok
  | [], d, node, m, m', s, s', _, hm, h => by
    simp only [forthGo, Option.some.injEq, Prod.mk.injEq] at h
    exact h.1 ▸ hm
  | b :: bs, d, node, m, m', s, s', hd, hm, h => by
    simp only [forthGo] at h
    simp only [List.length_cons] at hd
    split at h
    · cases h
    · exact forthGo_ok bs (d + 1) _ _ m' _ s' (by omega) (hm.learn (by omega) _ _ _) h
theorem forthS_ok {σ : Type} {put : Put σ} {m m' : Ms} {c : Nat} {s s' : σ} (hm : m.ok) (hc : c < 65) (h : forthS put m c s = some (m', s')) : m'.ok := by
  unfold forthS at h
  split at h
  · cases h
  · rename_i m1 s1 hg
    simp only [Option.some.injEq, Prod.mk.injEq] at h
    rw [← h.1]
    exact (forthGo_ok _ _ _ _ _ _ _ (by rw [bitsv_len]; omega) hm hg).came (by omega)
theorem classS_ok {σ : Type} {step : Step σ} : ∀ (k d node : Nat) (m m' : Ms) (s s' : σ) (c e : Int), d + k ≤ 7 → node < 2 ^ (d + 1) → d + k = 7 → (∀ s p b e s', step s p = some (b, e, s') → b = 0 ∨ b = 1) → m.ok → classS step k d node m s = some (c, e, m', s') → m'.ok ∧ 0 ≤ c ∧ c ≤ 64
  | 0, d, node, m, m', s, s', c, e, _, hn, hd, _, hm, h => by
    simp only [classS] at h
    split at h
    · simp only [Option.some.injEq, Prod.mk.injEq] at h
      obtain ⟨rfl, _, rfl, _⟩ := h
      exact ⟨hm, by omega, by omega⟩
    · simp only [Option.some.injEq, Prod.mk.injEq] at h
      obtain ⟨rfl, _, rfl, _⟩ := h
      exact ⟨hm.came (by omega), by omega, by omega⟩
  | k + 1, d, node, m, m', s, s', c, e, hd, hn, hk, hb, hm, h => by
    simp only [classS] at h
    split at h
    · cases h
    · rename_i b1 e1 m1 s1 hbs
      split at h
      · have := bitS_b hb hbs
        exact classS_ok k (d + 1) _ m1 m' s1 s' c e (by omega) (by rw [Nat.pow_succ]; omega) (by omega) hb (bitS_ok hm (by omega) hbs) h
      · simp only [Option.some.injEq, Prod.mk.injEq] at h
        obtain ⟨rfl, _, rfl, _⟩ := h
        exact ⟨bitS_ok hm (by omega) hbs, by omega, by omega⟩
/-- The chances of classes, behind l; none: too many to be spoken of. -/
def traceGo : List Int → Ms → List Int → Option (List Int)
  | [], _, l => some l
  | c :: cs, m, l => if 0 ≤ c ∧ c < 65 then (match forthS tracP m c.toNat l with
    | none => none
    | some (m', l') => traceGo cs m' l') else some []
def encP : Put Cd := fun c p b => if c.k < 30000000000000 then some (bitC c p b) else none
def encPH (b : Nat) (c : Cd) (H : Hp) : Prop := c.ok ∧ ∃ dv, H = encH b dv c
/-- The bytes of parts, and an error. -/
def putGo : List (Int × Int) → Ms → Cd → Option (List Int × Int)
  | [], _, c => if c.k < 30000000000000 then some (be c.k c.n, 0) else none
  | (cl, r) :: ps, m, c => if mayv cl r then (match forthS encP m cl.toNat c with
    | none => none
    | some (m', c') => if c'.k < 30000000000000 then putGo ps m' (dirC c' r.toNat (dirN (cl - 1))) else none) else some ([], 1)
def decS (s : ByteArray) : Step (Cd × Bool) := fun x p => if x.1.k < 30000000000000 then some (dBit s x p) else none
def decPH (b : Nat) (s : ByteArray) (x : Cd × Bool) (H : Hp) : Prop := decH b s x H ∧ x.1.ok
theorem encPut (eb : Nat) (c c' : Cd) (p b : Int) (H : Hp) (F : Frm) (hH : encPH eb c H) (h : encP c p b = some c') : SC Try.prog 27 #[.pointer (some ⟨eb, 0, none⟩), N p, N b] H F (fun v H' => v = .tuple #[] ∧ encPH eb c' H') := by
  obtain ⟨ho, dv, rfl⟩ := hH
  unfold encP at h
  obtain ⟨hk, h⟩ := (Option.ite_none_right_eq_some).1 h
  simp only [Option.some.injEq] at h
  subst h
  exact (encBit_calls eb dv c p b ho (by omega) F).mono fun v H' ⟨h1, h2⟩ => ⟨h1, ho.bit _ _, h2⟩
theorem dBit_ok {s : ByteArray} {x : Cd × Bool} (p : Int) (h : x.1.ok) : (dBit s x p).2.2.1.ok := by
  unfold dBit
  split
  · exact h.bit _ _
  · exact h
theorem decS_bit (s : ByteArray) : ∀ x p b e x', decS s x p = some (b, e, x') → b = 0 ∨ b = 1 := by
  intro x p b e x' h
  unfold decS dBit at h
  obtain ⟨_, h⟩ := (Option.ite_none_right_eq_some).1 h
  split at h
  · simp only [Option.some.injEq, Prod.mk.injEq] at h
    rw [← h.1]; split <;> simp
  · simp only [Option.some.injEq, Prod.mk.injEq] at h
    exact .inl h.1.symm
theorem decSt (db : Nat) (s : ByteArray) (x x' : Cd × Bool) (p b e : Int) (H : Hp) (F : Frm) (hH : decPH db s x H) (h : decS s x p = some (b, e, x')) : SC Try.prog 41 #[.pointer (some ⟨db, 0, none⟩), N p] H F (fun v H' => v = .tuple #[N b, N e] ∧ decPH db s x' H') := by
  obtain ⟨hd, ho⟩ := hH
  unfold decS at h
  obtain ⟨hk, h⟩ := (Option.ite_none_right_eq_some).1 h
  simp only [Option.some.injEq] at h
  have hok := dBit_ok (s := s) p ho
  refine (decBit_calls db s x p H hd ho (by omega) F).mono fun v H' ⟨h1, h2⟩ => ?_
  rw [h] at h1 h2 hok
  exact ⟨h1, h2, hok⟩
theorem dDirG_ok (s : ByteArray) : ∀ (i v : Nat) (x : Cd × Bool), x.1.ok → (dDirG s i v x).2.2.1.ok
  | 0, _, _, h => h
  | i + 1, v, x, h => by
    simp only [dDirG]
    split
    · exact dDirG_ok s i _ _ (h.half _)
    · exact h
theorem dDir_ok (s : ByteArray) (x : Cd × Bool) (n : Int) (h : x.1.ok) : (dDir s x n).2.2.1.ok := dDirG_ok s _ _ _ h
theorem dDirG_nn (s : ByteArray) : ∀ (i v : Nat) (x : Cd × Bool), 0 ≤ (dDirG s i v x).1
  | 0, v, _ => by simp [dDirG]
  | i + 1, v, x => by
    simp only [dDirG]
    split
    · exact dDirG_nn s i _ _
    · simp
/-- The parts of bits behind acc, and an error. -/
def getGo (s : ByteArray) : Nat → Ms → Cd × Bool → List (Int × Int) → Option (List (Int × Int) × Int)
  | 0, _, x, acc => if x.1.k < 30000000000000 then (if dEnd s x = 0 then some (acc, 0) else some ([], 3)) else none
  | k + 1, m, x, acc => match classS (decS s) 7 0 1 m x with
    | none => none
    | some (c, e, m', x') => if e = 0 then (if x'.1.k < 30000000000000 then (if (dDir s x' (c - 1)).2.1 = 0 then getGo s k m' (dDir s x' (c - 1)).2.2 (acc ++ [(c, (dDir s x' (c - 1)).1)]) else some ([], (dDir s x' (c - 1)).2.1)) else none) else some ([], e)
def pcells (ps : List (Int × Int)) : List Value := ps.flatMap fun p => [N p.1, U p.2]
theorem pcells_len : ∀ ps, (pcells ps).length = ps.length * 2
  | [] => rfl
  | p :: ps => by simp only [pcells, List.flatMap_cons, List.length_append, List.length_cons, List.length_nil] at *; have := pcells_len ps; simp only [pcells] at this; omega
theorem pcells_at : ∀ (ps : List (Int × Int)) (i : Nat) (c r : Int), ps[i]? = some (c, r) → (pcells ps)[i * 2]? = some (N c) ∧ (pcells ps)[i * 2 + 1]? = some (U r)
  | [], _, _, _, h => by simp at h
  | p :: ps, 0, c, r, h => by simp at h; subst h; exact ⟨rfl, rfl⟩
  | p :: ps, i + 1, c, r, h => by
    have ih := pcells_at ps i c r (by simpa using h)
    rw [show (i + 1) * 2 = i * 2 + 1 + 1 by omega]
    exact ih
theorem pcells_snoc (ps : List (Int × Int)) (c r : Int) : pcells (ps ++ [(c, r)]) = pcells ps ++ [N c, U r] := by simp [pcells]
/-- A read of a row of parts in the frame. -/
theorem FV.part {F : Frm} {A : Option Addr} {ps : List (Int × Int)} (h : FV F A (pcells ps)) {i : Nat} {c r : Int} (hi : ps[i]? = some (c, r)) : ∃ b off, A = some ⟨b, off, none⟩ ∧ ∀ (k : Nat) (v : Value), [N c, U r][k]? = some v → F.cell? ⟨b, off + ((i : Nat) : Int).toNat * 2 + k, none⟩ = some v := by
  have hlt := (List.getElem?_eq_some_iff.1 hi).1
  obtain ⟨b, off, hA, hc⟩ := h (by rw [pcells_len]; omega)
  have hp := pcells_at ps i c r hi
  refine ⟨b, off, hA, fun k v hv => ?_⟩
  rw [Int.toNat_natCast, Nat.add_assoc]
  refine hc _ v ?_
  match k, hv with
  | 0, hv => rw [← hv]; exact hp.1
  | 1, hv => rw [← hv]; exact hp.2
theorem drop_gi {l : List Int} {i : Nat} (h : i < l.length) : l.drop i = gi l i :: l.drop (i + 1) := by
  rw [List.drop_eq_getElem_cons h]
  congr 1
  unfold gi
  rw [Int.toNat_natCast, List.getD_eq_getElem?_getD, List.getElem?_eq_getElem h]; rfl
theorem perm_two {α : Type} (a b : α) (X : List α) : (a :: b :: X).Perm (X ++ [b, a]) :=
  (List.perm_append_comm (l₁ := [a, b]) (l₂ := X)).trans ((List.Perm.swap b a []).append_left X)
end Go.Proofs.Ytbpbhjnkmonlbaa
