/- One class again and again: what is learned, node by node. No condition. -/
import Derived.Test.YtbpbhjnkmonlbaaTr
import Derived.Test.YtbpbhjnkmonlbaaRe
namespace Go.Proofs.Ytbpbhjnkmonlbaa
open Sl Go
set_option linter.unusedVariables false
set_option maxRecDepth 10000
/-- What a model holds of a node, by rows. -/
structure Vw where
  x : Int
  f : Nat → Int
  g : Nat → Int
  w : List Int
def Ms.vw (m : Ms) (d node : Nat) : Vw := ⟨gn m.l0 node, fun r => gn m.l1 (128 * r + node), fun r => gn m.l2 (128 * r + node), m.wt d⟩
def Vw.ins (v : Vw) (a r : Nat) : List Int := [stv v.x, stv (v.f a), stv (v.g r)]
def Vw.ch (v : Vw) (a r : Nat) : Int := mixv v.w (v.ins a r)
def Vw.upd (v : Vw) (a r : Nat) (b : Int) : Vw := ⟨mvv v.x b 4, fun q => if q = a then mvv (v.f a) b 5 else v.f q, fun q => if q = r then mvv (v.g r) b 6 else v.g q, trainv v.w (v.ins a r) (v.ch a r) b⟩
theorem chance_vw (m : Ms) (d node : Nat) : m.chance d node = (m.vw d node).ch m.a ((m.a + 2 * m.b) / 3) := rfl
theorem gn_self {l : List Int} {i : Nat} (h : i < l.length) (v : Int) : gn (l.set i v) i = v := by
  unfold gn; rw [List.getD_eq_getElem?_getD, List.getElem?_set_self h]; rfl
theorem gn_other {l : List Int} {i j : Nat} (h : i ≠ j) (v : Int) : gn (l.set i v) j = gn l j := by
  unfold gn; rw [List.getD_eq_getElem?_getD, List.getElem?_set_ne h, List.getD_eq_getElem?_getD]
theorem learn_same {m : Ms} (hm : m.ok) {d node : Nat} (hd : d < 7) (hn : node < 128) (b : Int) : (m.learn d node (m.chance d node) b).vw d node = (m.vw d node).upd m.a ((m.a + 2 * m.b) / 3) b := by
  have ha := hm.ha
  have hb := hm.hb
  unfold Vw.upd
  simp only [Ms.vw, Vw.mk.injEq]
  refine ⟨gn_self (by rw [hm.n0]; exact hn) _, ?_, ?_, learn_wt hm hd _ _ _⟩
  · funext q
    split
    · rename_i h; subst h
      exact gn_self (by rw [hm.n1]; unfold Ms.p1; omega) _
    · exact gn_other (by unfold Ms.p1; omega) _
  · funext q
    split
    · rename_i h; subst h
      exact gn_self (by rw [hm.n2]; unfold Ms.p2; omega) _
    · exact gn_other (by unfold Ms.p2; omega) _
theorem learn_other (m : Ms) {d e node nod : Nat} (hd : d ≠ e) (hn : node < 128) (hn2 : nod < 128) (h : node ≠ nod) (p b : Int) : (m.learn d node p b).vw e nod = m.vw e nod := by
  simp only [Ms.vw, Vw.mk.injEq]
  refine ⟨gn_other h _, ?_, ?_, ?_⟩
  · funext q
    exact gn_other (by unfold Ms.p1; omega) _
  · funext q
    exact gn_other (by unfold Ms.p2; omega) _
  · unfold Ms.wt Ms.learn
    simp only [List.getD_eq_getElem?_getD]
    rw [List.getElem?_set_ne hd]
/-- The node of a class at a depth. -/
def nd (c e : Nat) : Nat := 2 ^ e + c / 2 ^ (7 - e)
theorem nd_all : ∀ c < 65, (∀ e < 7, nd c e < 128 ∧ 2 * nd c e + (btv c e).toNat = nd c (e + 1) ∧ ∀ e2 < 7, e ≠ e2 → nd c e ≠ nd c e2) := by decide +kernel
theorem trB_vw {c : Nat} (hc : c < 65) : ∀ (k d : Nat) (m : Ms), d + k = 7 → m.ok →
    (trB ((List.range' d k).map (btv c)) d (nd c d) m).1 = (List.range' d k).map (fun e => m.chance e (nd c e)) ∧ (trB ((List.range' d k).map (btv c)) d (nd c d) m).2.ok ∧
    (trB ((List.range' d k).map (btv c)) d (nd c d) m).2.a = m.a ∧ (trB ((List.range' d k).map (btv c)) d (nd c d) m).2.b = m.b ∧
    ∀ e < 7, (trB ((List.range' d k).map (btv c)) d (nd c d) m).2.vw e (nd c e) = if d ≤ e then (m.vw e (nd c e)).upd m.a ((m.a + 2 * m.b) / 3) (btv c e) else m.vw e (nd c e)
  | 0, d, m, hd, hm => by
    refine ⟨rfl, hm, rfl, rfl, fun e he => ?_⟩
    rw [if_neg (by omega)]; rfl
  | k + 1, d, m, hd, hm => by
    obtain ⟨hn, hn1, hne⟩ := nd_all c hc d (by omega)
    have ih := trB_vw hc k (d + 1) (m.learn d (nd c d) (m.chance d (nd c d)) (btv c d)) (by omega) (hm.learn (by omega) _ _ _)
    rw [List.range'_succ, List.map_cons]
    simp only [trB, hn1]
    obtain ⟨h1, h2, h3, h4, h5⟩ := ih
    refine ⟨?_, h2, h3, h4, ?_⟩
    · rw [List.map_cons, h1]
      congr 1
      refine List.map_congr_left fun e he => ?_
      obtain ⟨i, hi, rfl⟩ := List.mem_range'.1 he
      rw [chance_vw, chance_vw, learn_other m (by omega) hn (nd_all c hc _ (by omega)).1 (hne _ (by omega) (by omega))]
      rfl
    · intro e he
      rw [h5 e he]
      have ea : (m.learn d (nd c d) (m.chance d (nd c d)) (btv c d)).a = m.a := rfl
      have eb : (m.learn d (nd c d) (m.chance d (nd c d)) (btv c d)).b = m.b := rfl
      rw [ea, eb]
      by_cases h : d = e
      · subst h
        rw [if_neg (by omega), if_pos (Nat.le_refl _)]
        exact learn_same hm (by omega) hn _
      · rw [learn_other m h hn (nd_all c hc e he).1 (hne e he h)]
        by_cases h6 : d ≤ e
        · rw [if_pos h6, if_pos (by omega)]
        · rw [if_neg h6, if_neg (by omega)]
theorem bitsv_range (c : Nat) : bitsv c 7 = (List.range' 0 7).map (btv c) := by rw [← List.range_eq_range']; rfl
theorem nd_zero {c : Nat} (h : c < 65) : nd c 0 = 1 := by unfold nd; omega
/-- A class came: what its nodes hold behind it. -/
def Ms.past (m : Ms) (c : Nat) : Ms := (trB (bitsv c 7) 0 1 m).2.came c
theorem past_vw {c : Nat} (hc : c < 65) {m : Ms} (hm : m.ok) : (trB (bitsv c 7) 0 1 m).1 = (List.range 7).map (fun e => m.chance e (nd c e)) ∧ (m.past c).ok ∧ (m.past c).a = c ∧ (m.past c).b = m.a ∧
    ∀ e < 7, (m.past c).vw e (nd c e) = (m.vw e (nd c e)).upd m.a ((m.a + 2 * m.b) / 3) (btv c e) := by
  obtain ⟨h1, h2, h3, h4, h5⟩ := trB_vw hc 7 0 m rfl hm
  rw [nd_zero hc, ← bitsv_range] at h1 h2 h3 h4 h5
  rw [← List.range_eq_range'] at h1
  exact ⟨h1, h2.came (by omega), rfl, h3, fun e he => (h5 e he).trans (if_pos (Nat.zero_le _))⟩
/-- The model behind n of a class. -/
def msN (c : Nat) : Nat → Ms
  | 0 => ms0
  | n + 1 => (msN c n).past c
theorem msN_ok {c : Nat} (hc : c < 65) : ∀ n, (msN c n).ok
  | 0 => ms0_ok
  | n + 1 => (past_vw hc (msN_ok hc n)).2.1
def aN (c : Nat) : Nat → Nat
  | 0 => 0
  | _ + 1 => c
def rN (c : Nat) : Nat → Nat
  | 0 => 0
  | 1 => c / 3
  | _ + 2 => c
theorem rN_ne {c n : Nat} (h : c ≠ 0) (hn : n ≤ 1) : c ≠ rN c n := by
  match n, hn with
  | 0, _ => exact h
  | 1, _ => simp only [rN]; omega
theorem msN_a {c : Nat} (hc : c < 65) : ∀ n, (msN c n).a = aN c n
  | 0 => rfl
  | n + 1 => rfl
theorem msN_r {c : Nat} (hc : c < 65) : ∀ n, ((msN c n).a + 2 * (msN c n).b) / 3 = rN c n
  | 0 => by
    have e1 : (msN c 0).a = 0 := rfl
    have e2 : (msN c 0).b = 0 := rfl
    rw [e1, e2]; rfl
  | 1 => by
    have e : (msN c 1).b = 0 := (past_vw hc (msN_ok hc 0)).2.2.2.1
    rw [msN_a hc, e]; rfl
  | n + 2 => by
    have e : (msN c (n + 2)).b = (msN c (n + 1)).a := (past_vw hc (msN_ok hc (n + 1))).2.2.2.1
    rw [msN_a hc, e, msN_a hc]
    simp only [aN, rN]; omega
/-- What is needed of a node. -/
structure Cp where
  x : Int
  y : Int
  z : Int
  w : List Int
deriving DecidableEq
def cp0 : Cp := ⟨2048, 2048, 2048, [21845, 21845, 21845]⟩
def Cp.ins (q : Cp) : List Int := [stv q.x, stv q.y, stv q.z]
def Cp.ch (q : Cp) : Int := mixv q.w q.ins
def Cp.step (q : Cp) (b : Int) : Cp := ⟨mvv q.x b 4, mvv q.y b 5, mvv q.z b 6, trainv q.w q.ins q.ch b⟩
/-- Rows change: of class 0 never, of 1 and 2 late. -/
def fixq (k n : Nat) (q : Cp) : Cp := if k = 0 then q else if n = 1 then (if k = 1 then { q with y := 2048 } else { q with y := 2048, z := 2048 }) else if n = 2 then { q with z := 2048 } else q
def cpN (k : Nat) (b : Int) : Nat → Cp
  | 0 => cp0
  | n + 1 => fixq k (n + 1) ((cpN k b n).step b)
def kindN (c : Nat) : Nat := if c = 0 then 0 else if c < 3 then 1 else 2
def Vw.cp (v : Vw) (a r : Nat) : Cp := ⟨v.x, v.f a, v.g r, v.w⟩
/-- Rows that were not asked for are as they began. -/
structure Fits (c n : Nat) (v : Vw) : Prop where
  f : c ≠ 0 → n ≤ 1 → v.f c = 2048
  g1 : 3 ≤ c → n ≤ 1 → v.g (c / 3) = 2048
  g2 : c ≠ 0 → n ≤ 2 → v.g c = 2048
theorem gn_rep {n i : Nat} {x : Int} (h : i < n) : gn (List.replicate n x) i = x := by
  unfold gn; rw [List.getD_eq_getElem?_getD, List.getElem?_replicate, if_pos h]; rfl
theorem vw0 {c e : Nat} (hc : c < 65) (he : e < 7) : (ms0.vw e (nd c e)).cp 0 0 = cp0 ∧ Fits c 0 (ms0.vw e (nd c e)) := by
  have hn := (nd_all c hc e he).1
  have hw : ms0.wt e = [21845, 21845, 21845] := by
    unfold Ms.wt ms0
    rw [List.getD_eq_getElem?_getD, List.getElem?_replicate, if_pos he]; rfl
  refine ⟨?_, fun _ _ => gn_rep (by omega), fun _ _ => gn_rep (by omega), fun _ _ => gn_rep (by omega)⟩
  unfold Vw.cp cp0
  rw [Cp.mk.injEq]
  exact ⟨gn_rep (by omega), gn_rep (by omega), gn_rep (by omega), hw⟩
theorem upd_cp (v : Vw) (a r : Nat) (b : Int) : (v.upd a r b).cp a r = (v.cp a r).step b := by
  unfold Vw.upd Vw.cp Cp.step
  simp only [if_true]
  rfl
theorem fits_fix {c : Nat} {u : Vw} : ∀ {n : Nat}, Fits c (n + 1) u → u.cp (aN c (n + 1)) (rN c (n + 1)) = fixq (kindN c) (n + 1) (u.cp (aN c n) (rN c n))
  | 0, hfit => by
    unfold kindN fixq Vw.cp aN rN
    by_cases h0 : c = 0
    · subst h0; rfl
    · by_cases h3 : c < 3
      · simp [h0, h3, hfit.f h0 (Nat.le_refl _), show c / 3 = 0 by omega]
      · simp [h0, h3, hfit.f h0 (Nat.le_refl _), hfit.g1 (by omega) (Nat.le_refl _)]
  | 1, hfit => by
    unfold kindN fixq Vw.cp aN rN
    by_cases h0 : c = 0
    · subst h0; rfl
    · by_cases h3 : c < 3
      · simp [h0, h3, hfit.g2 h0 (Nat.le_refl _)]
      · simp [h0, h3, hfit.g2 h0 (Nat.le_refl _)]
  | n + 2, hfit => by
    unfold kindN fixq Vw.cp aN rN
    simp
theorem msN_cp {c e : Nat} (hc : c < 65) (he : e < 7) : ∀ n, ((msN c n).vw e (nd c e)).cp (aN c n) (rN c n) = cpN (kindN c) (btv c e) n ∧ Fits c n ((msN c n).vw e (nd c e))
  | 0 => vw0 hc he
  | n + 1 => by
    obtain ⟨h1, h2⟩ := msN_cp hc he n
    have hv : (msN c (n + 1)).vw e (nd c e) = _ := (past_vw hc (msN_ok hc n)).2.2.2.2 e he
    rw [msN_r hc, msN_a hc] at hv
    have hs := upd_cp ((msN c n).vw e (nd c e)) (aN c n) (rN c n) (btv c e)
    rw [← hv, h1] at hs
    have hf : ∀ q, q ≠ aN c n → ((msN c (n + 1)).vw e (nd c e)).f q = ((msN c n).vw e (nd c e)).f q := fun q hq => by rw [hv]; exact if_neg hq
    have hg : ∀ q, q ≠ rN c n → ((msN c (n + 1)).vw e (nd c e)).g q = ((msN c n).vw e (nd c e)).g q := fun q hq => by rw [hv]; exact if_neg hq
    have hfit : Fits c (n + 1) ((msN c (n + 1)).vw e (nd c e)) := by
      refine ⟨fun h0 hn => ?_, fun h0 hn => ?_, fun h0 hn => ?_⟩
      · obtain rfl : n = 0 := by omega
        rw [hf c h0]; exact h2.f h0 (by omega)
      · obtain rfl : n = 0 := by omega
        rw [hg _ (show c / 3 ≠ 0 by omega)]; exact h2.g1 h0 (by omega)
      · rw [hg c (rN_ne h0 (by omega))]; exact h2.g2 h0 (by omega)
    exact ⟨(fits_fix hfit).trans (congrArg (fixq (kindN c) (n + 1)) hs), hfit⟩
theorem msN_ch {c e : Nat} (hc : c < 65) (he : e < 7) (n : Nat) : (msN c n).chance e (nd c e) = (cpN (kindN c) (btv c e) n).ch := by
  rw [chance_vw, msN_r hc, msN_a hc, ← (msN_cp hc he n).1]; rfl
theorem trC_rep {c : Nat} (hc : c < 65) : ∀ (k n : Nat), trC (List.replicate k (c : Int)) (msN c n) = (List.range' n k).flatMap fun i => (List.range 7).map fun e => (msN c i).chance e (nd c e)
  | 0, n => rfl
  | k + 1, n => by
    rw [List.replicate_succ, trC, List.range'_succ, List.flatMap_cons, (past_vw hc (msN_ok hc n)).1, Int.toNat_natCast]
    exact congrArg _ (trC_rep hc k (n + 1))
theorem flat7 (f : Nat → Nat → Int) : ∀ (k n i d : Nat), i < k → d < 7 → ((List.range' n k).flatMap fun i => (List.range 7).map (f i))[7 * i + d]? = some (f (n + i) d)
  | 0, n, i, d, hi, _ => by omega
  | k + 1, n, i, d, hi, hd => by
    rw [List.range'_succ, List.flatMap_cons]
    match i with
    | 0 =>
      rw [List.getElem?_append_left (by simp; omega), List.getElem?_map, List.getElem?_range (by omega), Nat.mul_zero, Nat.zero_add]; rfl
    | i + 1 =>
      rw [List.getElem?_append_right (by simp; omega), List.length_map, List.length_range, show 7 * (i + 1) + d - 7 = 7 * i + d by omega, flat7 f k (n + 1) i d (by omega) hd, show n + 1 + i = n + (i + 1) by omega]
theorem trC_at {c : Nat} (hc : c < 65) {k i d : Nat} (hi : i < k) (hd : d < 7) : (trC (List.replicate k (c : Int)) ms0)[7 * i + d]? = some ((cpN (kindN c) (btv c d) i).ch) := by
  have h := trC_rep hc k 0
  have h2 : msN c 0 = ms0 := rfl
  rw [h2] at h
  rw [h, flat7 _ k 0 i d hi hd, Nat.zero_add, msN_ch hc hd]
/-- A list of states, each the next one's, told in one go. -/
def chkT2 (k : Nat) (b : Int) (T : List Cp) : Nat → Bool
  | 0 => decide (T[0]? = some cp0)
  | n + 1 => chkT2 k b T n && (match T[n]? with | some q => decide (T[n + 1]? = some (fixq k (n + 1) (q.step b))) | none => false)
theorem chkT2_ok {k : Nat} {b : Int} {T : List Cp} : ∀ n, chkT2 k b T n = true → ∀ i ≤ n, T[i]? = some (cpN k b i)
  | 0, h, i, hi => by
    obtain rfl : i = 0 := by omega
    exact of_decide_eq_true h
  | n + 1, h, i, hi => by
    simp only [chkT2, Bool.and_eq_true] at h
    have ih := chkT2_ok n h.1
    rcases Nat.lt_or_ge i (n + 1) with h1 | h1
    · exact ih i (by omega)
    · obtain rfl : i = n + 1 := by omega
      have h2 := h.2
      rw [ih n (Nat.le_refl _)] at h2
      exact of_decide_eq_true h2
end Go.Proofs.Ytbpbhjnkmonlbaa
