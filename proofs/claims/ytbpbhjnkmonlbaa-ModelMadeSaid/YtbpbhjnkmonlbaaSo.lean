/- A region that draws its order, whose reads and quiet calls may come up at any time and whose other operations wait for each other: one walk serves every order. No condition. -/
import Derived.Test.YtbpbhjnkmonlbaaSm
import Derived.Orders
namespace Go.Proofs.Ytbpbhjnkmonlbaa.Sl
open Go.RowKit
set_option linter.unusedVariables false
set_option linter.unusedSimpArgs false
section
variable {P : Program} {ops : Array Oper} {Q : Exit → Act → World → Prop} {S : World → Prop} {nd ld : Nat → Bool}

/-- What holds of a world holds of it with more memory. -/
def Cl (C : World → Prop) : Prop := ∀ w w', C w → Below w.heap.size w w' → C w'
theorem own_cl (H : Hp) (F : Frm) : Cl (fun w => Own w H F) := fun _ _ h hb => h.below hb

def quietUpon (P : Program) (w : World) (v : Value) : Result Next → Prop
  | .ok (.value u) w' => w' = w ∧ u = v
  | .ok .skip w' => w' = w ∧ v = undef
  | .ok (.enter f args) w' => w' = w ∧ Calls P f args w (fun e w'' => e = .returned v ∧ Below w.heap.size w w'')
  | _ => False
def QuietAt (P : Program) (o : Oper) (a : Act) (T : World → Prop) (v : Value) : Prop := ∀ w, T w → quietUpon P w v ((execOp a.eval o).run P w)
def YQ (P : Program) (ops : Array Oper) (o : Oper) (a : Act) (T : World → Prop) (v : Value) : Prop :=
  (Region.wanted o (yielded ops a.tmps) = true ∧ QuietAt P o a T v) ∨ (Region.wanted o (yielded ops a.tmps) = false ∧ v = undef)

theorem YQ.wpOp {i : Nat} {o : Oper} {a : Act} {T : World → Prop} {v : Value} (hi : ops[i]? = some o) (hy : YQ P ops o a T v) {K : Act → World → Prop} {w : World} (hT : T w)
    (h : ∀ w', Below w.heap.size w w' → K (a.put o.dst v) w') : wpOp P ops Q i K a w := by
  unfold Go.wpOp
  simp only [hi]
  rcases hy with ⟨hw, hv⟩ | ⟨hw, rfl⟩
  · simp only [hw, if_true]
    refine .inl ?_
    have h1 := hv w hT
    unfold Oper.wp
    generalize (execOp a.eval o).run P w = r at *
    cases r with
    | ok n w' =>
      cases n <;> simp only [quietUpon] at h1 <;> simp only [Oper.upon]
      case value u => obtain ⟨rfl, rfl⟩ := h1; exact h _ (Below.refl _ _)
      case skip => obtain ⟨rfl, rfl⟩ := h1; exact h _ (Below.refl _ _)
      case enter f args => obtain ⟨rfl, hc⟩ := h1; exact hc.mono fun e w'' ⟨he, hb⟩ => by subst he; exact h _ hb
    | halt x w' => simp only [quietUpon] at h1
  · simp only [hw, Bool.false_eq_true, if_false]; exact h _ (Below.refl _ _)

theorem YQ.of_same {o : Oper} {v : Value} {a a' : Act} {T : World → Prop} (hy : YQ P ops o a T v) (he : execOp a'.eval o = execOp a.eval o)
    (hw : Region.wanted o (yielded ops a'.tmps) = Region.wanted o (yielded ops a.tmps)) : YQ P ops o a' T v := by
  unfold YQ QuietAt at *
  rw [he, hw]
  exact hy

theorem wpOp_putC {j : Nat} {oi oj : Oper} {v : Value} {T : World → Prop} (hj : ops[j]? = some oj) (hap : oi.apart ops oj = true)
    (hsi : ∀ cs b, oi.op ≠ .select cs b) (hsj : ∀ cs b, oj.op ≠ .select cs b)
    (hQ : ∀ c a a' w, Q (.panic c) a w → Q (.panic c) a' w) {K : Act → World → Prop} {a : Act} {w : World}
    (hy : YQ P ops oi a T v) (h : wpOp P ops Q j K (a.put oi.dst v) w) :
    wpOp P ops Q j (fun a' w' => YQ P ops oi a' T v ∧ K (a'.put oi.dst v) w') a w := by
  obtain ⟨h1, h2, h3⟩ := Oper.apart_spec hap
  have keep : ∀ (a : Act), YQ P ops oi a T v → ∀ u, YQ P ops oi (a.put oj.dst u) T v := fun a hy u =>
    hy.of_same (execOp_put oi hsi a oj.dst u h3) (wanted_put oi a oj.dst u h3)
  have keepD : ∀ d, YQ P ops oi { a with defers := d :: a.defers } T v := fun d => hy.of_same rfl rfl
  unfold wpOp at *
  simp only [hj] at *
  rw [wanted_put oj a oi.dst v h1] at h
  split
  · rename_i hw
    simp only [hw, if_true] at h
    rcases h with h | ⟨hasks, hlets⟩
    case inr => exact .inr ⟨by unfold Oper.asks at *; rw [execOp_put oj hsj a oi.dst v h1] at hasks; exact hasks, hlets⟩
    refine .inl ?_
    unfold Oper.wp at *
    rw [execOp_put oj hsj a oi.dst v h1] at h
    generalize (execOp a.eval oj).run P w = r at *
    cases r with
    | ok n w' =>
      cases n <;> simp only [Oper.upon] at h ⊢
      case value u => exact ⟨keep a hy u, by rw [← Act.put_comm a v u h2]; exact h⟩
      case skip => exact ⟨keep a hy _, by rw [← Act.put_comm a v undef h2]; exact h⟩
      case defer d =>
        refine ⟨keep _ (keepD d) _, ?_⟩
        rw [← Act.put_comm _ v undef h2, ← Act.put_defers]
        exact h
      case enter f args =>
        refine Calls.mono h fun e w'' he => ?_
        cases e with
        | returned u => exact ⟨keep a hy u, by rw [← Act.put_comm a v u h2]; exact he⟩
        | panicked c => exact hQ _ _ _ _ he
        | outgrown => exact he
      case row row args => exact Rows.mono h fun u w'' he => ⟨keep a hy u, by rw [← Act.put_comm a v u h2]; exact he⟩
    | halt x w' =>
      cases x <;> simp only [Oper.upon] at h ⊢
      case panic u => exact hQ _ _ _ _ h
  · rename_i hw
    simp only [hw] at h
    exact ⟨keep a hy _, by rw [← Act.put_comm a v undef h2]; exact h⟩

/-- Whatever order is picked from here on, from every world of the class C. -/
def wpAnyC (P : Program) (ops : Array Oper) (Q : Exit → Act → World → Prop) (S : World → Prop) (nd ld : Nat → Bool) : Nat → Array Bool → Act → (World → Prop) → Prop
  | 0, listed, a, C => Region.ready .any ops listed = [] ∧ ∀ w, C w → Q .normal a w
  | fuel + 1, listed, a, C =>
    (Region.ready .any ops listed = [] → ∀ w, C w → Q .normal a w) ∧
    ∀ i ∈ Region.ready .any ops listed, ∀ w, C w → wpOp P ops Q i (fun a' w' => ∃ C', Cl C' ∧ C' w' ∧ ((ld i = false ∧ C' = C) ∨ (ld i = true ∧ (nd i = true → ∀ u, C' u → S u))) ∧ wpAnyC P ops Q S nd ld fuel (listed.setIfInBounds i true) a' C') a w

theorem wpAny_of_C : ∀ (fuel : Nat) (listed : Array Bool) (a : Act) (C : World → Prop) (w : World), wpAnyC P ops Q S nd ld fuel listed a C → C w → wpAny P .any ops Q fuel listed a w
  | 0, _, _, _, w, h, hw => ⟨h.1, h.2 w hw⟩
  | fuel + 1, _, _, _, w, h, hw => ⟨fun h0 => h.1 h0 w hw, fun i hi => wpOp_mono (fun a' w' ⟨C', _, hc, _, hk⟩ => wpAny_of_C fuel _ a' C' w' hk hc) (h.2 i hi w hw)⟩

/-- What is listed has all that it waits for listed. -/
def Dc (ops : Array Oper) (listed : Array Bool) : Prop := ∀ k o, ops[k]? = some o → listed.getD k false = true → ∀ e ∈ o.after, Region.binds .any e = true → listed.getD e.on false = true
theorem Dc.set {listed : Array Bool} (h : Dc ops listed) {i : Nat} (hi : i ∈ Region.ready .any ops listed) : Dc ops (listed.setIfInBounds i true) := by
  intro k o hk hl e he hb
  by_cases hik : i = k
  · subst hik
    obtain ⟨_, o', ho', hall⟩ := mem_ready.1 hi
    rw [ho'] at hk; cases hk
    exact getD_set_true (hall e he hb)
  · rw [getD_set_ne false hik] at hl
    exact getD_set_true (h k o hk hl e he hb)

/-- A table of who waits for whom, a number of bits an operation, is a true one. -/
def befOK (ops : Array Oper) (B : List Nat) : Bool :=
  (List.range ops.size).all fun j => (List.range ops.size).all fun i => !(B.getD j 0).testBit i ||
    match ops[j]? with
    | some o => o.after.any fun e => Region.binds .any e && decide (e.on < j) && (e.on == i || (B.getD e.on 0).testBit i)
    | none => false
theorem bef_listed {B : List Nat} (hB : befOK ops B = true) {listed : Array Bool} (hd : Dc ops listed) : ∀ (j i : Nat), j < ops.size → i < ops.size → (B.getD j 0).testBit i = true → (listed.getD j false = true ∨ j ∈ Region.ready .any ops listed) → listed.getD i false = true := by
  simp only [befOK, List.all_eq_true, List.mem_range] at hB
  intro j
  induction j using Nat.strongRecOn with
  | _ j ih =>
    intro i hj hi hb hl
    have h1 := hB j hj i hi
    rw [hb] at h1
    obtain ⟨o, ho⟩ : ∃ o, ops[j]? = some o := ⟨_, Array.getElem?_eq_getElem hj⟩
    simp only [ho, Bool.not_true, Bool.false_or] at h1
    obtain ⟨e, he, h2⟩ := Array.any_eq_true'.1 h1
    simp only [Bool.and_eq_true, decide_eq_true_eq, Bool.or_eq_true, beq_iff_eq] at h2
    have hon : listed.getD e.on false = true := by
      rcases hl with hl | hl
      · exact hd j o ho hl e he h2.1.1
      · obtain ⟨_, o', ho', hall⟩ := mem_ready.1 hl
        rw [ho'] at ho; cases ho
        exact hall e he h2.1.1
    rcases h2.2 with h3 | h3
    · exact h3 ▸ hon
    · exact ih e.on h2.1.2 i (by omega) hi h3 (.inl hon)

/-- The operations that lean on S, and of each other one whether it may come up ahead of one of them. -/
def ndOf (ops : Array Oper) (B D : List Nat) (j : Nat) : Bool := D.any fun i => i != j && decide (i < ops.size) && !(B.getD j 0).testBit i

/-- **A quiet operation that may come up now may be taken first.** -/
theorem wpAnyC_first {B D : List Nat} (hB : befOK ops B = true) {i : Nat} {oi : Oper} {v : Value} (hi : ops[i]? = some oi) (hsel : ∀ (j : Nat) (o : Oper) cs b, ops[j]? = some o → o.op ≠ .select cs b)
    (hQ : ∀ c a a' w, Q (.panic c) a w → Q (.panic c) a' w) (hld : ld i = false) :
    ∀ (fuel : Nat) (listed : Array Bool) (a : Act) (C : World → Prop), Dc ops listed → Cl C → (D.contains i = true → ∀ w, C w → S w) →
      (∀ j oj, ops[j]? = some oj → j ≠ i → listed.getD j true = false → (∀ e ∈ oj.after, Region.binds .any e = true → e.on ≠ i) → oi.apart ops oj = true) →
      i ∈ Region.ready .any ops listed → YQ P ops oi a (if D.contains i then S else fun _ => True) v →
      wpAnyC P ops Q S (ndOf ops B D) ld fuel (listed.setIfInBounds i true) (a.put oi.dst v) C → wpAnyC P ops Q S (ndOf ops B D) ld (fuel + 1) listed a C := by
  have self : ∀ {fuel : Nat} {listed : Array Bool} {a : Act} {C : World → Prop}, Cl C → (D.contains i = true → ∀ w, C w → S w) → YQ P ops oi a (if D.contains i then S else fun _ => True) v →
      wpAnyC P ops Q S (ndOf ops B D) ld fuel (listed.setIfInBounds i true) (a.put oi.dst v) C → ∀ w, C w →
      wpOp P ops Q i (fun a' w' => ∃ C', Cl C' ∧ C' w' ∧ ((ld i = false ∧ C' = C) ∨ (ld i = true ∧ (ndOf ops B D i = true → ∀ u, C' u → S u))) ∧ wpAnyC P ops Q S (ndOf ops B D) ld fuel (listed.setIfInBounds i true) a' C') a w := by
    intro fuel listed a C hcl hS hy H w hw
    refine hy.wpOp hi ?_ fun w' hb => ⟨C, hcl, hcl _ _ hw hb, .inl ⟨hld, rfl⟩, H⟩
    cases hD : D.contains i with
    | false => trivial
    | true => exact hS hD w hw
  intro fuel
  induction fuel with
  | zero =>
    intro listed a C hdc hcl hS _ hr hy H
    refine ⟨fun h => (by rw [h] at hr; cases hr), fun j hj w hw => ?_⟩
    by_cases hji : j = i
    · subst hji; exact self hcl hS hy H w hw
    · have := ready_mono hj hji
      rw [H.1] at this
      cases this
  | succ fuel ih =>
    intro listed a C hdc hcl hS hfree hr hy H
    refine ⟨fun h => (by rw [h] at hr; cases hr), fun j hj w hw => ?_⟩
    by_cases hji : j = i
    · subst hji; exact self hcl hS hy H w hw
    · have h1 := H.2 j (ready_mono hj hji) w hw
      obtain ⟨hjun, oj, hoj, hall⟩ := mem_ready.1 hj
      have hiun := (mem_ready.1 hr).1
      have hiun' : listed.getD i false = false := by
        rcases Nat.lt_or_ge i listed.size with h' | h'
        · simp [h'] at hiun ⊢; exact hiun
        · simp [Array.getElem?_eq_none h']
      have hnot : ∀ e ∈ oj.after, Region.binds .any e = true → e.on ≠ i := fun e he hb heq => by
        have h1 := hall e he hb
        rw [heq, hiun'] at h1; cases h1
      have h2 := wpOp_putC hoj (hfree j oj hoj hji hjun hnot) (fun cs b => hsel i oi cs b hi) (fun cs b => hsel j oj cs b hoj) hQ hy h1
      have hfree' : ∀ k ok, ops[k]? = some ok → k ≠ i → (listed.setIfInBounds j true).getD k true = false →
          (∀ e ∈ ok.after, Region.binds .any e = true → e.on ≠ i) → oi.apart ops ok = true := fun k ok hk hki hun hno => by
        refine hfree k ok hk hki ?_ hno
        by_cases hjk : j = k
        · subst hjk; exact hjun
        · rw [getD_set_ne true hjk] at hun; exact hun
      refine wpOp_mono ?_ h2
      rintro a' w' ⟨hy', C', hc1, hc2, hc3, hK⟩
      have hjnd : D.contains i = true → ndOf ops B D j = true := by
        intro hD
        refine List.any_eq_true.2 ⟨i, by simpa using hD, ?_⟩
        have hlt : i < ops.size := (Array.getElem?_eq_some_iff.1 hi).1
        have hltj : j < ops.size := (Array.getElem?_eq_some_iff.1 hoj).1
        have : (B.getD j 0).testBit i = false := by
          cases hb : (B.getD j 0).testBit i with
          | false => rfl
          | true => have := bef_listed hB hdc j i hltj hlt hb (.inr hj); rw [hiun'] at this; cases this
        rw [this]; simp [Ne.symm hji, hlt]
      have hi' := ready_mono hr (Ne.symm hji)
      have hS' : D.contains i = true → ∀ w, C' w → S w := by
        intro hD
        rcases hc3 with ⟨_, rfl⟩ | ⟨_, h3⟩
        · exact hS hD
        · exact h3 (hjnd hD)
      refine ⟨C', hc1, hc2, hc3, ih (listed.setIfInBounds j true) a' C' (hdc.set hj) hc1 hS' hfree' hi' hy' ?_⟩
      rw [Array.setIfInBounds_comm _ _ hji]
      exact hK

/-- The walk in one order. -/
def Rg (P : Program) (ops : Array Oper) (Q : Exit → Act → World → Prop) (S : World → Prop) (nd ld : Nat → Bool) (D : List Nat) : List Nat → Act → (World → Prop) → Prop
  | [], a, C => ∀ w, C w → Q .normal a w
  | i :: σ, a, C => match ops[i]? with
    | none => False
    | some o => if ld i then ∀ w, C w → wpOp P ops Q i (fun a' w' => ∃ C', Cl C' ∧ C' w' ∧ (nd i = true → ∀ u, C' u → S u) ∧ Rg P ops Q S nd ld D σ a' C') a w
      else ∃ v, YQ P ops o a (if D.contains i then S else fun _ => True) v ∧ (D.contains i = true → ∀ w, C w → S w) ∧ Rg P ops Q S nd ld D σ (a.put o.dst v) C

theorem rg_mono {D : List Nat} : ∀ {σ : List Nat} {a : Act} {C C' : World → Prop}, Rg P ops Q S nd ld D σ a C' → Cl C → (∀ w, C w → C' w) → Rg P ops Q S nd ld D σ a C
  | [], _, _, _, h, _, hc => fun w hw => h w (hc w hw)
  | i :: σ, a, C, C', h, hcl, hc => by
    simp only [Rg] at h ⊢
    cases hi : ops[i]? with
    | none => simp [hi] at h
    | some o =>
      simp only [hi] at h ⊢
      cases hl : ld i with
      | true => simp only [hl, if_true] at h ⊢; exact fun w hw => h w (hc w hw)
      | false =>
        simp only [hl, Bool.false_eq_true, if_false] at h ⊢
        obtain ⟨v, hy, hs, hk⟩ := h
        exact ⟨v, hy, fun hd w hw => hs hd w (hc w hw), rg_mono hk hcl hc⟩

/-- The order is one that serves. -/
def ordOK (ops : Array Oper) (ld : Nat → Bool) : List Nat → Array Bool → Bool
  | [], listed => (Region.ready .any ops listed).isEmpty
  | i :: σ, listed => (if ld i then Region.ready .any ops listed == [i] else (Region.ready .any ops listed).contains i && Region.free .any ops listed i) && ordOK ops ld σ (listed.setIfInBounds i true)

theorem rg_sound {B D : List Nat} (hB : befOK ops B = true) (hs : Region.noSelect ops = true) (hQ : ∀ c a a' w, Q (.panic c) a w → Q (.panic c) a' w) :
    ∀ (σ : List Nat) (listed : Array Bool) (a : Act) (C : World → Prop), Dc ops listed → Cl C → ordOK ops ld σ listed = true → Rg P ops Q S (ndOf ops B D) ld D σ a C → wpAnyC P ops Q S (ndOf ops B D) ld σ.length listed a C
  | [], listed, a, C, _, _, ho, h => ⟨by simpa [ordOK] using ho, h⟩
  | i :: σ, listed, a, C, hd, hcl, ho, h => by
    simp only [ordOK, Bool.and_eq_true] at ho
    obtain ⟨ho, hσ⟩ := ho
    simp only [Rg] at h
    cases hi : ops[i]? with
    | none => simp [hi] at h
    | some o =>
      simp only [hi] at h
      cases hl : ld i with
      | true =>
        simp only [hl, if_true, beq_iff_eq] at h ho
        simp only [List.length_cons, wpAnyC]
        refine ⟨fun h0 => (by rw [ho] at h0; cases h0), fun j hj w hw => ?_⟩
        rw [ho] at hj
        obtain rfl : j = i := by simpa using hj
        have hj' : j ∈ Region.ready .any ops listed := by rw [ho]; simp
        exact wpOp_mono (fun a' w' ⟨C', h1, h2, h3, h4⟩ => ⟨C', h1, h2, Or.inr ⟨hl, h3⟩, rg_sound hB hs hQ σ _ a' C' (hd.set hj') h1 hσ h4⟩) (h w hw)
      | false =>
        simp only [hl, Bool.false_eq_true, if_false, Bool.and_eq_true] at h ho
        obtain ⟨v, hy, hS, hk⟩ := h
        have hr : i ∈ Region.ready .any ops listed := by simpa using ho.1
        exact wpAnyC_first hB hi (Region.noSelect_spec hs) hQ hl σ.length listed a C hd hcl hS (Region.free_spec hi ho.2) hr hy
          (rg_sound hB hs hQ σ _ _ C (hd.set hr) hcl hσ hk)

/-- **The region.** -/
theorem wp_region_rg {id : Nat} {a : Act} {w : World} {C : World → Prop} (σ B D L : List Nat) (hm : P.follows .mixedOrders = true) (hQ : ∀ c a a' w, Q (.panic c) a w → Q (.panic c) a' w)
    (hok : (befOK ops B && Region.noSelect ops && ordOK ops L.contains σ (Array.replicate ops.size false) && σ.length == ops.size) = true)
    (hcl : Cl C) (hw : C { w with drawn := w.drawn + 1 }) (h : Rg P ops Q S (ndOf ops B D) L.contains D σ a C) : (Code.region id ops true).wp P Q a w := by
  simp only [Bool.and_eq_true, beq_iff_eq] at hok
  obtain ⟨⟨⟨h1, h2⟩, h3⟩, h4⟩ := hok
  have hdc : Dc ops (Array.replicate ops.size false) := by
    intro k o hk hl
    exfalso
    simp only [Array.getD_eq_getD_getElem?, Array.getElem?_replicate] at hl
    split at hl <;> simp at hl
  have := rg_sound (S := S) (D := D) h1 h2 hQ σ _ a C hdc hcl h3 h
  rw [h4] at this
  exact wp_region_any hm (wpAny_of_C _ _ _ _ _ this hw)
end
end Go.Proofs.Ytbpbhjnkmonlbaa.Sl
