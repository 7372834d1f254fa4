/- A walk whose state is a short list of slots and a list of owned pieces. No condition. -/
import Derived.Test.YtbpbhjnkmonlbaaSo
import Derived.Deep.LoopGhost
namespace Go.Proofs.Ytbpbhjnkmonlbaa.Sl
open Go.RowKit
set_option linter.unusedVariables false
set_option linter.unusedSimpArgs false

/-- What is known of slots. -/
abbrev Ev := List (Nat × Value)
def lk : Ev → Nat → Option Value
  | [], _ => none
  | (j, v) :: E, k => bif j == k then some v else lk E k
def ev (E : Ev) : Operand → Option Value
  | .tmp t => lk E t
  | .const v => some v
  | .global g => some (.pointer (some ⟨g, 0, none⟩))
  | .func f => some (.func (.func f) #[] #[])
structure Env (n : Nat) (a : Act) (E : Ev) : Prop where
  defers : a.defers = []
  size : a.tmps.size = n
  at_ : ∀ k v, lk E k = some v → a.tmps[k]? = some v
theorem Env.ev {n : Nat} {a : Act} {E : Ev} (h : Env n a E) {x : Operand} {v : Value} (hx : ev E x = some v) : a.eval x = v := by
  cases x with
  | tmp t =>
    have := h.at_ t v hx
    simp [Act.eval, this]
  | const u => cases hx; rfl
  | global g => cases hx; rfl
  | func f => cases hx; rfl
theorem Env.put {n : Nat} {a : Act} {E : Ev} (h : Env n a E) {d : Nat} (hd : d < n) (v : Value) : Env n (a.put (some d) v) ((d, v) :: E) := by
  refine ⟨h.defers, by simp [Act.put, h.size], fun k u hk => ?_⟩
  simp only [Act.put]
  simp only [lk] at hk
  cases hb : d == k with
  | true =>
    have hdk : d = k := eq_of_beq hb
    subst hdk
    rw [hb] at hk; cases hk
    simp [Array.getElem?_setIfInBounds_self, h.size, hd]
  | false =>
    have hdk : d ≠ k := ne_of_beq_false hb
    rw [hb] at hk
    rw [Array.getElem?_setIfInBounds_ne hdk]
    exact h.at_ k u hk
theorem Env.put_none {n : Nat} {a : Act} {E : Ev} (h : Env n a E) (v : Value) : Env n (a.put none v) E := h
theorem Env.sub {n : Nat} {a : Act} {E E' : Ev} (h : Env n a E) (hs : ∀ k v, lk E' k = some v → lk E k = some v) : Env n a E' := ⟨h.defers, h.size, fun k v hk => h.at_ k v (hs k v hk)⟩

/-- These slots alone. -/
def keep (E : Ev) : List Nat → Ev
  | [] => []
  | k :: ks => match lk E k with
    | some v => (k, v) :: keep E ks
    | none => keep E ks
theorem keep_sub (E : Ev) : ∀ (ks : List Nat) (k : Nat) (v : Value), lk (keep E ks) k = some v → lk E k = some v
  | [], _, _, h => by simp [keep, lk] at h
  | j :: ks, k, v, h => by
    simp only [keep] at h
    cases hj : lk E j with
    | none => rw [hj] at h; exact keep_sub E ks k v h
    | some u =>
      rw [hj] at h
      simp only [lk] at h
      cases hb : j == k with
      | true => rw [hb] at h; cases h; exact eq_of_beq hb ▸ hj
      | false => rw [hb] at h; exact keep_sub E ks k v h

/-- From every frame and world that the state speaks of. -/
def At (n : Nat) (F : Frm) (E : Ev) (H : Hp) (G : Act → World → Prop) : Prop := ∀ a w, Env n a E → Own w H F → G a w

section
variable {P : Program} {n : Nat} {F : Frm} {E : Ev} {H : Hp} {ops : Array Oper} {Q : Exit → Act → World → Prop} {G : Act → World → Prop}

theorem at_keep (ks : List Nat) (h : At n F (keep E ks) H G) : At n F E H G := fun a w he hw => h a w (he.sub (keep_sub E ks)) hw
/-- The same, what is left written out. -/
theorem at_ks (ks : List Nat) {E' : Ev} (hE : keep E ks = E') (h : At n F E' H G) : At n F E H G := at_keep ks (hE ▸ h)
theorem at_re (is : List Nat) (hn : is.Nodup) (h : At n F E (pick H is) G) : At n F E H G := fun a w he hw => h a w he (hw.re is hn)
theorem Own.tail {w : World} {c : Chk} {H : Hp} {F : Frm} (h : Own w (c :: H) F) : Own w H F := by
  refine ⟨h.os, h.tape, h.output, fun d hd => h.mem d (List.mem_cons_of_mem _ hd), ?_, h.fr, fun d hd => h.ap d (List.mem_cons_of_mem _ hd)⟩
  have := h.nd
  cases hf : c.fp with
  | none => rwa [List.filterMap_cons_none hf] at this
  | some b => rw [List.filterMap_cons_some hf] at this; exact (List.nodup_cons.1 this).2
/-- The first piece is let go. -/
theorem at_drop {c : Chk} (h : At n F E H G) : At n F E (c :: H) G := fun a w he hw => h a w he (hw.tail)
theorem at_hp {H' : Hp} (hh : H = H') (h : At n F E H' G) : At n F E H G := hh ▸ h
theorem at_ev {E' : Ev} (hh : E = E') (h : At n F E' H G) : At n F E H G := hh ▸ h
theorem at_imp {G' : Act → World → Prop} (h : At n F E H G') (hg : ∀ a w, G' a w → G a w) : At n F E H G := fun a w he hw => hg a w (h a w he hw)

/-! ### Code -/
theorem at_seq {x y : Code} (h : At n F E H (x.wp P (Exit.then (y.wp P Q) Q))) : At n F E H ((Code.seq x y).wp P Q) := fun a w he hw => wp_seq (h a w he hw)
theorem at_block {id : Nat} {c : Code} (h : At n F E H (c.wp P (Exit.inBlock id Q))) : At n F E H ((Code.block id c).wp P Q) := fun a w he hw => wp_block (h a w he hw)
theorem at_skip (h : At n F E H (Q .normal)) : At n F E H (Code.skip.wp P Q) := fun a w he hw => wp_skip (h a w he hw)
theorem at_retc (h : At n F E H (Q .ret)) : At n F E H (Code.ret.wp P Q) := fun a w he hw => wp_ret (h a w he hw)
theorem at_exit {id : Nat} (h : At n F E H (Q (.exit id))) : At n F E H ((Code.exit id).wp P Q) := fun a w he hw => wp_exit (h a w he hw)
theorem at_cond {c : Operand} {x y : Code} {b : Bool} (hc : ev E c = some (.bool b)) (ht : b = true → At n F E H (x.wp P Q)) (hf : b = false → At n F E H (y.wp P Q)) : At n F E H ((Code.cond c x y).wp P Q) :=
  fun a w he hw => wp_cond_split (he.ev hc) (fun h => ht h a w he hw) (fun h => hf h a w he hw)
theorem at_then {K : Act → World → Prop} (h : At n F E H K) : At n F E H (Exit.then K Q .normal) := h
theorem at_then_x {K : Act → World → Prop} {id : Nat} (h : At n F E H (Q (.exit id))) : At n F E H (Exit.then K Q (.exit id)) := h
theorem at_then_r {K : Act → World → Prop} (h : At n F E H (Q .ret)) : At n F E H (Exit.then K Q .ret) := h
theorem at_inb_r {id : Nat} (h : At n F E H (Q .ret)) : At n F E H (Exit.inBlock id Q .ret) := h
theorem at_inb {id : Nat} (h : At n F E H (Q .normal)) : At n F E H (Exit.inBlock id Q .normal) := h
theorem at_inb_exit {id : Nat} (h : At n F E H (Q .normal)) : At n F E H (Exit.inBlock id Q (.exit id)) := fun a w he hw => by
  simp only [Exit.inBlock, if_true]; exact h a w he hw
theorem at_inb_other {id id' : Nat} (hne : id' ≠ id) (h : At n F E H (Q (.exit id'))) : At n F E H (Exit.inBlock id Q (.exit id')) := fun a w he hw => by
  simp only [Exit.inBlock, if_neg hne]; exact h a w he hw

/-- A loop: k rounds at most are to come. -/
theorem at_loop {c : Code} (I : Nat → Ev → Hp → Prop) (k₀ : Nat) (h₀ : I k₀ E H)
    (round : ∀ k E H, I k E H → At n F E H (c.wp P (Exit.then (fun a w => ∃ k' E' H', k' < k ∧ I k' E' H' ∧ Env n a E' ∧ Own w H' F) Q))) : At n F E H ((Code.loop c).wp P Q) := by
  intro a w he hw
  refine wp_loop_ghost (fun k a w => ∃ E H, I k E H ∧ Env n a E ∧ Own w H F) k₀ ⟨E, H, h₀, he, hw⟩ ?_
  rintro k a w ⟨E', H', hi, he', hw'⟩
  refine Code.wp_mono ?_ (round k E' H' hi a w he' hw')
  intro e a' w' hq
  cases e with
  | normal => obtain ⟨k', E'', H'', h1, h2, h3, h4⟩ := hq; exact ⟨k', h1, E'', H'', h2, h3, h4⟩
  | exit id => exact hq
  | goto l => exact hq
  | ret => exact hq
  | panic ch => exact hq
  | outgrown => exact hq
/-- A round's end. -/
theorem at_back {I : Nat → Ev → Hp → Prop} {k : Nat} (k' : Nat) (hk : k' < k) (hI : I k' E H) : At n F E H (fun a w => ∃ k' E' H', k' < k ∧ I k' E' H' ∧ Env n a E' ∧ Own w H' F) :=
  fun _ _ he hw => ⟨k', E, H, hk, hI, he, hw⟩

/-! ### Operations -/
/-- One value, whatever the world. -/
def POp (P : Program) (n : Nat) (o : Oper) (E : Ev) (v : Value) : Prop := ∀ a w, Env n a E → (execOp a.eval o).run P w = .ok (.value v) w
/-- One value in each world of the state; it may leave more memory. -/
def QOp (P : Program) (n : Nat) (F : Frm) (o : Oper) (E : Ev) (H : Hp) (v : Value) : Prop := ∀ a w, Env n a E → Own w H F → quietUpon P w v ((execOp a.eval o).run P w)
/-- An operation that turns the state. -/
def LOp (P : Program) (n : Nat) (F : Frm) (o : Oper) (E : Ev) (H : Hp) (R : Value → Hp → Prop) : Prop :=
  ∀ a w, Env n a E → Own w H F → ∀ (Q : Exit → Act → World → Prop) (K : Act → World → Prop), (∀ v w' H', R v H' → Own w' H' F → K (a.put o.dst v) w') → o.wp P a w K Q

theorem POp.q {o : Oper} {v : Value} (h : POp P n o E v) : QOp P n F o E H v := fun a w he _ => by rw [h a w he]; exact ⟨rfl, rfl⟩
theorem QOp.l {o : Oper} {v : Value} (h : QOp P n F o E H v) : LOp P n F o E H (fun u H' => u = v ∧ H' = H) := by
  intro a w he hw Q K k
  have h1 := h a w he hw
  unfold Oper.wp
  generalize (execOp a.eval o).run P w = r at *
  cases r with
  | ok x w' =>
    cases x <;> simp only [quietUpon] at h1 <;> simp only [Oper.upon]
    case value u => obtain ⟨rfl, rfl⟩ := h1; exact k _ _ _ ⟨rfl, rfl⟩ hw
    case skip => obtain ⟨rfl, rfl⟩ := h1; exact k _ _ _ ⟨rfl, rfl⟩ hw
    case enter f args => obtain ⟨rfl, hc⟩ := h1; exact hc.mono fun e w'' ⟨he, hb⟩ => by subst he; exact k _ _ _ ⟨rfl, rfl⟩ (hw.below hb)
  | halt x w' => simp only [quietUpon] at h1

/-! ### A region in the order of the text -/
abbrev pd (E : Ev) (v : Value) : Option Tmp → Ev
  | some d => (d, v) :: E
  | none => E
def fits (n : Nat) : Option Tmp → Bool
  | some d => decide (d < n)
  | none => true
theorem Env.putd {a : Act} (h : Env n a E) {d : Option Tmp} (hd : fits n d = true) (v : Value) : Env n (a.put d v) (pd E v d) := by
  cases d with
  | none => exact h
  | some d => exact h.put (by simpa [fits] using hd) v

theorem at_region {id : Nat} {l : List Oper} (h : At n F E H (wpList P l.toArray Q l)) : At n F E H ((Code.region id l.toArray false).wp P Q) := fun a w he hw => wp_region_lit (h a w he hw)
theorem at_nil (h : At n F E H (Q .normal)) : At n F E H (wpList P ops Q []) := fun a w he hw => wpList_nil (h a w he hw)
theorem st_l {o : Oper} {rest : List Oper} {R : Value → Hp → Prop} (hg : o.guard = none) (hd : fits n o.dst = true) (h : LOp P n F o E H R) (k : ∀ v H', R v H' → At n F (pd E v o.dst) H' (wpList P ops Q rest)) : At n F E H (wpList P ops Q (o :: rest)) :=
  fun a w he hw => wpList_plain hg fun _ hK => h a w he hw _ _ fun v w' H' hr hw' => hK _ _ (k v H' hr _ _ (he.putd hd v) hw')
theorem st_q {o : Oper} {rest : List Oper} {v : Value} (hg : o.guard = none) (hd : fits n o.dst = true) (h : QOp P n F o E H v) (k : At n F (pd E v o.dst) H (wpList P ops Q rest)) : At n F E H (wpList P ops Q (o :: rest)) :=
  st_l hg hd h.l fun _ _ ⟨h1, h2⟩ => h1 ▸ h2 ▸ k
theorem st_p {o : Oper} {rest : List Oper} {v : Value} (hg : o.guard = none) (hd : fits n o.dst = true) (h : POp P n o E v) (k : At n F (pd E v o.dst) H (wpList P ops Q rest)) : At n F E H (wpList P ops Q (o :: rest)) :=
  st_q hg hd h.q k
/-- A guarded operation. -/
def gd (ops : Array Oper) (E : Ev) (o : Oper) : Option Bool :=
  match o.guard with
  | none => some true
  | some (j, b) => match (ops[j]?).bind (·.dst) with
    | none => none
    | some d => match lk E d with
      | some (.bool c) => some (c == b)
      | _ => none
theorem wanted_of {a : Act} {o : Oper} {b : Bool} (he : Env n a E) (hg : gd ops E o = some b) : Region.wanted o (yielded ops a.tmps) = b := by
  unfold gd at hg
  unfold Region.wanted
  cases hgd : o.guard with
  | none => rw [hgd] at hg; cases hg; rfl
  | some x =>
    obtain ⟨j, c⟩ := x
    simp only [hgd] at hg ⊢
    cases hd : (ops[j]?).bind (·.dst) with
    | none => simp [hd] at hg
    | some d =>
      simp only [hd] at hg
      cases hl : lk E d with
      | none => simp [hl] at hg
      | some u =>
        have := he.at_ d u hl
        cases u <;> simp [hl] at hg
        rename_i c'
        subst hg
        simp [yielded, hd, this]
theorem sg_l {o : Oper} {rest : List Oper} {R : Value → Hp → Prop} (hg : gd ops E o = some true) (hd : fits n o.dst = true) (h : LOp P n F o E H R) (k : ∀ v H', R v H' → At n F (pd E v o.dst) H' (wpList P ops Q rest)) : At n F E H (wpList P ops Q (o :: rest)) :=
  fun a w he hw => BigFrame.wpList_want (wanted_of he hg) fun _ hK => h a w he hw _ _ fun v w' H' hr hw' => hK _ _ (k v H' hr _ _ (he.putd hd v) hw')
theorem sg_q {o : Oper} {rest : List Oper} {v : Value} (hg : gd ops E o = some true) (hd : fits n o.dst = true) (h : QOp P n F o E H v) (k : At n F (pd E v o.dst) H (wpList P ops Q rest)) : At n F E H (wpList P ops Q (o :: rest)) :=
  sg_l hg hd h.l fun _ _ ⟨h1, h2⟩ => h1 ▸ h2 ▸ k
theorem sg_p {o : Oper} {rest : List Oper} {v : Value} (hg : gd ops E o = some true) (hd : fits n o.dst = true) (h : POp P n o E v) (k : At n F (pd E v o.dst) H (wpList P ops Q rest)) : At n F E H (wpList P ops Q (o :: rest)) :=
  sg_q hg hd h.q k
theorem sg_no {o : Oper} {rest : List Oper} (hg : gd ops E o = some false) (hd : fits n o.dst = true) (k : At n F (pd E undef o.dst) H (wpList P ops Q rest)) : At n F E H (wpList P ops Q (o :: rest)) :=
  fun a w he hw => wpList_skip (wanted_of he hg) (k _ _ (he.putd hd undef) hw)
end
end Go.Proofs.Ytbpbhjnkmonlbaa.Sl
