/- A region that draws its order, walked once, over a state of slots and owned pieces. No condition. -/
import Derived.Test.YtbpbhjnkmonlbaaSq
namespace Go.Proofs.Ytbpbhjnkmonlbaa.Sl
open Go.RowKit
set_option linter.unusedVariables false
set_option linter.unusedSimpArgs false
section
variable {P : Program} {n : Nat} {F : Frm} {E : Ev} {H HS : Hp} {l : List Oper} {Q : Exit → Act → World → Prop} {B D L : List Nat}

/-- No way out by a panic. -/
def NP (Q : Exit → Act → World → Prop) : Exit → Act → World → Prop
  | .panic _, _, _ => False
  | e, a, w => Q e a w
theorem np_imp : ∀ (e : Exit) (a : Act) (w : World), NP Q e a w → Q e a w := fun e a w h => by
  cases e <;> first | exact h | exact (h : False).elim

/-- The walk in one order, from every frame that the slots speak of. HS: what the reads lean on. -/
def Rd (P : Program) (n : Nat) (F : Frm) (l : List Oper) (Q : Exit → Act → World → Prop) (HS : Hp) (B D L : List Nat) (σ : List Nat) (E : Ev) (H : Hp) : Prop :=
  ∀ a, Env n a E → Rg P l.toArray (NP Q) (fun w => Own w HS F) (ndOf l.toArray B D) L.contains D σ a (fun w => Own w H F)

theorem at_draw {id : Nat} (HS : Hp) (σ B D L : List Nat) (hm : P.follows .mixedOrders = true)
    (hok : (befOK l.toArray B && Region.noSelect l.toArray && ordOK l.toArray L.contains σ (Array.replicate l.toArray.size false) && σ.length == l.toArray.size) = true)
    (h : Rd P n F l Q HS B D L σ E H) : At n F E H ((Code.region id l.toArray true).wp P Q) := fun a w he hw =>
  Code.wp_mono np_imp (wp_region_rg (S := fun w => Own w HS F) (C := fun w => Own w H F) σ B D L hm (fun _ _ _ _ h => (h : False).elim) hok (own_cl H F) (hw.drawn _) (h a he))

theorem at_drawH {id : Nat} (σ B D L : List Nat) (hm : P.follows .mixedOrders = true)
    (hok : (befOK l.toArray B && Region.noSelect l.toArray && ordOK l.toArray L.contains σ (Array.replicate l.toArray.size false) && σ.length == l.toArray.size) = true)
    (h : Rd P n F l Q H B D L σ E H) : At n F E H ((Code.region id l.toArray true).wp P Q) := at_draw H σ B D L hm hok h
theorem rd_nil (h : At n F E H (Q .normal)) : Rd P n F l Q HS B D L [] E H := fun a he w hw => h a w he hw
theorem rd_p {i : Nat} {σ : List Nat} {o : Oper} {v : Value} (hi : l[i]? = some o) (hL : L.contains i = false) (hD : D.contains i = false) (hg : gd l.toArray E o = some true) (hd : fits n o.dst = true) (h : POp P n o E v) (k : Rd P n F l Q HS B D L σ (pd E v o.dst) H) : Rd P n F l Q HS B D L (i :: σ) E H := fun a he => by
  have hi' : l.toArray[i]? = some o := by simpa using hi
  simp only [Rg, hi', hL, hD, Bool.false_eq_true, if_false]
  exact ⟨v, .inl ⟨wanted_of he hg, fun w _ => by rw [h a w he]; exact ⟨rfl, rfl⟩⟩, fun h => (h : False).elim, k _ (he.putd hd v)⟩
theorem rd_q {i : Nat} {σ : List Nat} {o : Oper} {v : Value} (hi : l[i]? = some o) (hL : L.contains i = false) (hD : D.contains i = true) (hg : gd l.toArray E o = some true) (hd : fits n o.dst = true) (h : QOp P n F o E HS v) (hs : ∀ w, Own w H F → Own w HS F) (k : Rd P n F l Q HS B D L σ (pd E v o.dst) H) : Rd P n F l Q HS B D L (i :: σ) E H := fun a he => by
  have hi' : l.toArray[i]? = some o := by simpa using hi
  simp only [Rg, hi', hL, hD, Bool.false_eq_true, if_false, if_true]
  exact ⟨v, .inl ⟨wanted_of he hg, fun w hw => h a w he hw⟩, fun _ => hs, k _ (he.putd hd v)⟩
theorem rd_no {i : Nat} {σ : List Nat} {o : Oper} (hi : l[i]? = some o) (hL : L.contains i = false) (hg : gd l.toArray E o = some false) (hd : fits n o.dst = true) (hs : D.contains i = true → ∀ w, Own w H F → Own w HS F) (k : Rd P n F l Q HS B D L σ (pd E undef o.dst) H) : Rd P n F l Q HS B D L (i :: σ) E H := fun a he => by
  have hi' : l.toArray[i]? = some o := by simpa using hi
  simp only [Rg, hi', hL, Bool.false_eq_true, if_false]
  exact ⟨undef, .inr ⟨wanted_of he hg, rfl⟩, hs, k _ (he.putd hd undef)⟩
theorem rd_l {i : Nat} {σ : List Nat} {o : Oper} {R : Value → Hp → Prop} (hi : l[i]? = some o) (hL : L.contains i = true) (hg : gd l.toArray E o = some true) (hd : fits n o.dst = true) (h : LOp P n F o E H R) (hs : ndOf l.toArray B D i = true → ∀ v H', R v H' → ∀ w, Own w H' F → Own w HS F) (k : ∀ v H', R v H' → Rd P n F l Q HS B D L σ (pd E v o.dst) H') : Rd P n F l Q HS B D L (i :: σ) E H := fun a he => by
  have hi' : l.toArray[i]? = some o := by simpa using hi
  simp only [Rg, hi', hL, if_true]
  intro w hw
  unfold wpOp
  simp only [hi', wanted_of he hg, if_true]
  exact .inl (h a w he hw _ _ fun v w' H' hr hw' => ⟨fun w => Own w H' F, own_cl H' F, hw', fun hn => hs hn v H' hr, k v H' hr _ (he.putd hd v)⟩)
theorem rd_ln {i : Nat} {σ : List Nat} {o : Oper} (hi : l[i]? = some o) (hL : L.contains i = true) (hg : gd l.toArray E o = some false) (hd : fits n o.dst = true) (hs : ndOf l.toArray B D i = true → ∀ w, Own w H F → Own w HS F) (k : Rd P n F l Q HS B D L σ (pd E undef o.dst) H) : Rd P n F l Q HS B D L (i :: σ) E H := fun a he => by
  have hi' : l.toArray[i]? = some o := by simpa using hi
  simp only [Rg, hi', hL, if_true]
  intro w hw
  unfold wpOp
  simp only [hi', wanted_of he hg, Bool.false_eq_true, if_false]
  exact ⟨fun w => Own w H F, own_cl H F, hw, hs, k _ (he.putd hd undef)⟩
/-- The same state, or fewer slots, another list of pieces. -/
theorem rd_ks {σ : List Nat} (ks : List Nat) {E' : Ev} (hE : keep E ks = E') (k : Rd P n F l Q HS B D L σ E' H) : Rd P n F l Q HS B D L σ E H := fun a he => k a (he.sub (by rw [← hE]; exact keep_sub E ks))
theorem rd_hp {σ : List Nat} {H' : Hp} (hh : H = H') (k : Rd P n F l Q HS B D L σ E H') : Rd P n F l Q HS B D L σ E H := hh ▸ k
theorem rd_drop {σ : List Nat} {c : Chk} (k : Rd P n F l Q HS B D L σ E H) : Rd P n F l Q HS B D L σ E (c :: H) := fun a he => rg_mono (k a he) (own_cl _ F) fun w hw => hw.tail
theorem sub_re (is : List Nat) (hn : is.Nodup) (h : pick H is = HS) : ∀ w, Own w H F → Own w HS F := fun w hw => h ▸ hw.re is hn
end
end Go.Proofs.Ytbpbhjnkmonlbaa.Sl
