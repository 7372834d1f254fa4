/- Words for walks: a state is a list of owned pieces of memory beside a frame that nobody touches. No condition. -/
import Derived.WalkKit
import Derived.OrdersHeld
import Derived.Deep.Draws
import Derived.KernelRfl
import Derived.Laws.Rows
import Derived.Laws.OwnMore
namespace Go.Proofs.Ytbpbhjnkmonlbaa.Sl
open Go.RowKit
set_option linter.unusedVariables false
set_option linter.unusedSimpArgs false

/-- What is there besides, and stays as it is. -/
structure Frm where
  heap : Nat → Option Obj
  os : Os
  tape : Nat → Question → Nat
  output : Array (Nat × ByteArray)

/-- A piece of memory. -/
inductive Chk where
  /-- block b holds just these cells -/
  | ob (b : Nat) (cs : List Value) (e : TypeId)
  /-- a slice's value v, of n elements of sz cells each, is the head of a row of its own -/
  | sl (v : Value) (e : TypeId) (sz n : Nat) (xs : List Value)
  /-- block b holds just these cells, and one frozen behind them -/
  | pr (b : Nat) (cs : List Value) (e : TypeId)

def Chk.fp : Chk → Option Nat
  | .ob b _ _ => some b
  | .sl v _ _ _ _ => v.ownBlock
  | .pr b _ _ => some b

def Chk.sat (h : Nat → Option Obj) : Chk → Prop
  | .ob b cs e => h b = some (.cells cs.toArray e (0, 0))
  | .sl v e sz n xs => xs.length = n * sz ∧ ((v = .slice none 0 0 ∧ n = 0) ∨
      ∃ g cap cur, v = .slice (some ⟨g, 0, none⟩) n cap ∧ h g = some (.cells cur e (0, 0)) ∧ n ≤ cap ∧ cap ≤ maxLen ∧ cur.size = cap * sz ∧ cur.toList.take (n * sz) = xs)
  | .pr b cs e => h b = some (.cells cs.toArray e (cs.length, cs.length + 1))

theorem Chk.sat_congr {h h' : Nat → Option Obj} {c : Chk} (hc : c.sat h) (e : ∀ b, c.fp = some b → h' b = h b) : c.sat h' := by
  cases c with
  | ob b cs t => exact (e b rfl).trans hc
  | sl v t sz n xs =>
    refine ⟨hc.1, hc.2.imp id ?_⟩
    rintro ⟨g, cap, cur, rfl, hg, r⟩
    exact ⟨g, cap, cur, rfl, (e g rfl).trans hg, r⟩
  | pr b cs t => exact (e b rfl).trans hc

theorem Chk.sat_some {h : Nat → Option Obj} {c : Chk} (hc : c.sat h) {b : Nat} (hb : c.fp = some b) : ∃ o, h b = some o := by
  cases c with
  | ob b' cs t => cases hb; exact ⟨_, hc⟩
  | sl v t sz n xs =>
    rcases hc.2 with ⟨rfl, _⟩ | ⟨g, cap, cur, rfl, hg, _⟩
    · simp [Chk.fp, Value.ownBlock] at hb
    · simp only [Chk.fp, Value.ownBlock, Option.some.injEq] at hb; subst hb; exact ⟨_, hg⟩
  | pr b' cs t => cases hb; exact ⟨_, hc⟩

abbrev Hp := List Chk

structure Own (w : World) (H : Hp) (F : Frm) : Prop where
  os : w.os = F.os
  tape : w.tape = F.tape
  output : w.output = F.output
  mem : ∀ c ∈ H, c.sat (fun b => w.heap[b]?)
  nd : (H.filterMap Chk.fp).Nodup
  fr : ∀ b o, F.heap b = some o → w.heap[b]? = some o
  ap : ∀ c ∈ H, ∀ b, c.fp = some b → F.heap b = none

theorem Own.lt {w : World} {H : Hp} {F : Frm} (h : Own w H F) {c : Chk} (hc : c ∈ H) {b : Nat} (hb : c.fp = some b) : b < w.heap.size := by
  obtain ⟨o, ho⟩ := Chk.sat_some (h.mem c hc) hb
  exact (Array.getElem?_eq_some_iff.1 ho).1
theorem Own.frlt {w : World} {H : Hp} {F : Frm} (h : Own w H F) {b : Nat} {o : Obj} (hb : F.heap b = some o) : b < w.heap.size :=
  (Array.getElem?_eq_some_iff.1 (h.fr b o hb)).1
theorem Own.get {w : World} {H : Hp} {F : Frm} (h : Own w H F) {c : Chk} (i : Nat) (hi : H[i]? = some c) : c.sat (fun b => w.heap[b]?) :=
  h.mem c (List.mem_of_getElem? hi)

theorem Own.drew {w : World} {H : Hp} {F : Frm} (h : Own w H F) : Own w.drew H F := ⟨h.os, h.tape, h.output, h.mem, h.nd, h.fr, h.ap⟩
theorem Own.drewN {w : World} {H : Hp} {F : Frm} (h : Own w H F) (n : Nat) : Own (w.drewN n) H F := ⟨h.os, h.tape, h.output, h.mem, h.nd, h.fr, h.ap⟩
theorem Own.drawn {w : World} {H : Hp} {F : Frm} (h : Own w H F) (n : Nat) : Own { w with drawn := n } H F := ⟨h.os, h.tape, h.output, h.mem, h.nd, h.fr, h.ap⟩

/-- All that was there is there, and there may be more. -/
theorem Own.below {w w' : World} {H : Hp} {F : Frm} (h : Own w H F) (hb : Below w.heap.size w w') : Own w' H F :=
  ⟨hb.os.trans h.os, hb.tape.trans h.tape, hb.output.trans h.output,
    fun c hc => Chk.sat_congr (h.mem c hc) fun b hfb => hb.block b (h.lt hc hfb), h.nd,
    fun b o hbo => (hb.block b (h.frlt hbo)).trans (h.fr b o hbo), h.ap⟩

/-- The pieces at these places, in this order. -/
def pick (l : List Chk) (is : List Nat) : List Chk := is.filterMap (l[·]?)

theorem pick_append (l : List Chk) (is js : List Nat) : pick l (is ++ js) = pick l is ++ pick l js := by simp [pick]

theorem fp_ne {H : Hp} (hnd : (H.filterMap Chk.fp).Nodup) {i j : Nat} (hij : i ≠ j) {c d : Chk} (hc : H[i]? = some c) (hd : H[j]? = some d) {b : Nat} (hb : c.fp = some b) : d.fp ≠ some b := by
  have hp : H.Pairwise fun c d => ∀ b, c.fp = some b → ∀ b', d.fp = some b' → b ≠ b' := List.pairwise_filterMap.1 hnd
  have key : ∀ {i j : Nat}, i < j → ∀ {c d : Chk}, H[i]? = some c → H[j]? = some d → ∀ b, c.fp = some b → d.fp ≠ some b := by
    intro i j hlt c d hc hd b hb he
    obtain ⟨h1, rfl⟩ := List.getElem?_eq_some_iff.1 hc
    obtain ⟨h2, rfl⟩ := List.getElem?_eq_some_iff.1 hd
    exact List.pairwise_iff_getElem.1 hp i j h1 h2 hlt b hb b he rfl
  rcases Nat.lt_or_gt_of_ne hij with h | h
  · exact key h hc hd b hb
  · exact fun he => key h hd hc b he hb

/-- Pieces in another order, or fewer. -/
theorem Own.re {w : World} {H : Hp} {F : Frm} (h : Own w H F) (is : List Nat) (hn : is.Nodup) : Own w (pick H is) F := by
  have hm : ∀ c ∈ pick H is, c ∈ H := by
    intro c hc
    obtain ⟨i, _, hi⟩ := List.mem_filterMap.1 hc
    exact List.mem_of_getElem? hi
  refine ⟨h.os, h.tape, h.output, fun c hc => h.mem c (hm c hc), ?_, h.fr, fun c hc => h.ap c (hm c hc)⟩
  unfold pick
  rw [List.filterMap_filterMap]
  refine List.pairwise_filterMap.2 (hn.imp ?_)
  intro i j hij b hb b' hb' e
  subst e
  obtain ⟨c, hc, hcb⟩ := Option.bind_eq_some_iff.1 hb
  obtain ⟨d, hd, hdb⟩ := Option.bind_eq_some_iff.1 hb'
  exact fp_ne h.nd hij hc hd hcb hdb

theorem Own.cons_new {w w' : World} {H : Hp} {F : Frm} (h : Own w H F) (hb : Below w.heap.size w w') (c : Chk) (hc : c.sat (fun b => w'.heap[b]?)) (hf : ∀ b, c.fp = some b → w.heap.size ≤ b) : Own w' (c :: H) F := by
  have h' := h.below hb
  refine ⟨h'.os, h'.tape, h'.output, ?_, ?_, h'.fr, ?_⟩
  · intro d hd
    rcases List.mem_cons.1 hd with rfl | hd
    · exact hc
    · exact h'.mem d hd
  · cases hk : c.fp with
    | none => rw [List.filterMap_cons_none hk]; exact h.nd
    | some b =>
      rw [List.filterMap_cons_some hk, List.nodup_cons]
      refine ⟨fun hm => ?_, h.nd⟩
      obtain ⟨d, hd, hdb⟩ := List.mem_filterMap.1 hm
      have := h.lt hd hdb
      have := hf b hk
      omega
  · intro d hd b hdb
    rcases List.mem_cons.1 hd with rfl | hd
    · cases hF : F.heap b with
      | none => rfl
      | some o => have := h.frlt hF; have := hf b hdb; omega
    · exact h.ap d hd b hdb

theorem below_alloc' (w : World) (o : Obj) : Below w.heap.size w (w.alloc o) := (Below.refl _ _).alloc (Nat.le_refl _) o

/-- A new variable, or row. -/
theorem Own.alloc {w : World} {H : Hp} {F : Frm} (h : Own w H F) (cs : List Value) (e : TypeId) : Own (w.alloc (.cells cs.toArray e)) (.ob w.heap.size cs e :: H) F :=
  h.cons_new (below_alloc' w _) _ (heap_alloc_new w _) (fun b hb => by cases hb; exact Nat.le_refl _)

/-- One piece turns. -/
theorem Own.upd {w w' : World} {H : Hp} {F : Frm} (h : Own w H F) (i : Nat) {c : Chk} (hi : H[i]? = some c) (c' : Chk)
    (ho : w'.os = w.os) (ht : w'.tape = w.tape) (hp : w'.output = w.output)
    (hk : ∀ k, k < w.heap.size → c.fp ≠ some k → w'.heap[k]? = w.heap[k]?) (hs : c'.sat (fun b => w'.heap[b]?)) (hf : ∀ b, c'.fp = some b → c.fp = some b ∨ w.heap.size ≤ b) : Own w' (H.set i c') F := by
  obtain ⟨hlt, hget⟩ := List.getElem?_eq_some_iff.1 hi
  have hsplit : H = H.take i ++ c :: H.drop (i + 1) := by rw [← hget, ← List.drop_eq_getElem_cons hlt, List.take_append_drop]
  have hset : H.set i c' = H.take i ++ c' :: H.drop (i + 1) := by rw [List.set_eq_take_append_cons_drop, if_pos hlt]
  have hnd := h.nd
  rw [hsplit, List.filterMap_append] at hnd
  have hother : ∀ d ∈ H.take i ++ H.drop (i + 1), ∀ b, d.fp = some b → c.fp ≠ some b := by
    intro d hd b hdb hcb
    rw [List.filterMap_cons_some hcb] at hnd
    have hm : b ∈ (H.take i).filterMap Chk.fp ++ (H.drop (i + 1)).filterMap Chk.fp := by
      rw [← List.filterMap_append]; exact List.mem_filterMap.2 ⟨d, hd, hdb⟩
    exact (List.nodup_cons.1 ((List.perm_middle (a := b)).nodup_iff.1 hnd)).1 hm
  have hin : ∀ d ∈ H.take i ++ H.drop (i + 1), d ∈ H := by
    intro d hd
    rcases List.mem_append.1 hd with hd | hd
    · exact List.mem_of_mem_take hd
    · exact List.mem_of_mem_drop hd
  have hcases : ∀ d ∈ H.set i c', d = c' ∨ d ∈ H.take i ++ H.drop (i + 1) := by
    intro d hd
    rw [hset] at hd
    rcases List.mem_append.1 hd with hd | hd
    · exact .inr (List.mem_append.2 (.inl hd))
    · rcases List.mem_cons.1 hd with rfl | hd
      · exact .inl rfl
      · exact .inr (List.mem_append.2 (.inr hd))
  have hcm : c ∈ H := List.mem_of_getElem? hi
  refine ⟨ho.trans h.os, ht.trans h.tape, hp.trans h.output, ?_, ?_, ?_, ?_⟩
  · intro d hd
    rcases hcases d hd with rfl | hd
    · exact hs
    · exact Chk.sat_congr (h.mem d (hin d hd)) fun b hb => hk b (h.lt (hin d hd) hb) (hother d hd b hb)
  · rw [hset, List.filterMap_append]
    have hrest : ((H.take i).filterMap Chk.fp ++ (H.drop (i + 1)).filterMap Chk.fp).Nodup := by
      cases hc : c.fp with
      | none => rwa [List.filterMap_cons_none hc] at hnd
      | some b => rw [List.filterMap_cons_some hc] at hnd; exact (List.nodup_cons.1 ((List.perm_middle (a := b)).nodup_iff.1 hnd)).2
    cases hc' : c'.fp with
    | none => rw [List.filterMap_cons_none hc']; exact hrest
    | some b =>
      rw [List.filterMap_cons_some hc']
      refine (List.perm_middle (a := b)).nodup_iff.2 (List.nodup_cons.2 ⟨fun hm => ?_, hrest⟩)
      rw [← List.filterMap_append] at hm
      obtain ⟨d, hd, hdb⟩ := List.mem_filterMap.1 hm
      rcases hf b hc' with e | e
      · exact hother d hd b hdb e
      · have := h.lt (hin d hd) hdb; omega
  · intro b o hb
    refine (hk b (h.frlt hb) fun e => ?_).trans (h.fr b o hb)
    rw [h.ap c hcm b e] at hb; cases hb
  · intro d hd b hdb
    rcases hcases d hd with rfl | hd
    · rcases hf b hdb with e | e
      · exact h.ap c hcm b e
      · cases hF : F.heap b with
        | none => rfl
        | some o => have := h.frlt hF; omega
    · exact h.ap d (hin d hd) b hdb

/-! ### Contracts -/
/-- What a call that returns leaves. -/
def SPost (R : Value → Hp → Prop) (F : Frm) (e : Ending) (w : World) : Prop := ∃ v H, e = .returned v ∧ R v H ∧ Own w H F
/-- Called where H is there, it returns, and leaves what R says; all else stays. -/
def SC (P : Program) (f : FuncId) (args : Array Value) (H : Hp) (F : Frm) (R : Value → Hp → Prop) : Prop :=
  ∀ w, Own w H F → Calls P f args w (SPost R F)

theorem SC.mono {P : Program} {f : FuncId} {args : Array Value} {H : Hp} {F : Frm} {R R' : Value → Hp → Prop} (h : SC P f args H F R) (hr : ∀ v H', R v H' → R' v H') : SC P f args H F R' :=
  fun w hw => (h w hw).mono fun _ _ ⟨v, H', e, r, o⟩ => ⟨v, H', e, hr v H' r, o⟩

/-- F' is F and more. -/
def Frm.le (F F' : Frm) : Prop := ∀ b o, F.heap b = some o → F'.heap b = some o
theorem Frm.le_refl (F : Frm) : F.le F := fun _ _ h => h
theorem Frm.le_trans {F G K : Frm} (h : F.le G) (k : G.le K) : F.le K := fun b o hb => k b o (h b o hb)

/-- The frame with the pieces' blocks as they lie in w. -/
def Frm.snap (F : Frm) (w : World) (H : Hp) : Frm := { F with heap := fun b => if b ∈ H.filterMap Chk.fp then w.heap[b]? else F.heap b }

theorem Own.split {w : World} {H1 H2 : Hp} {F : Frm} (h : Own w (H1 ++ H2) F) : Own w H1 (F.snap w H2) := by
  have hnd := h.nd
  rw [List.filterMap_append, List.nodup_append] at hnd
  refine ⟨h.os, h.tape, h.output, fun c hc => h.mem c (List.mem_append.2 (.inl hc)), hnd.1, ?_, ?_⟩
  · intro b o hb
    simp only [Frm.snap] at hb
    split at hb
    · exact hb
    · exact h.fr b o hb
  · intro c hc b hcb
    simp only [Frm.snap]
    rw [if_neg]
    · exact h.ap c (List.mem_append.2 (.inl hc)) b hcb
    · intro hm
      exact hnd.2.2 b (List.mem_filterMap.2 ⟨c, hc, hcb⟩) b hm rfl

theorem Own.snap_le {w : World} {H1 H2 : Hp} {F : Frm} (h : Own w (H1 ++ H2) F) : F.le (F.snap w H2) := by
  intro b o hb
  simp only [Frm.snap]
  split
  · exact h.fr b o hb
  · exact hb
theorem Own.snap_sat {w : World} {H1 H2 : Hp} {F : Frm} (h : Own w (H1 ++ H2) F) : ∀ c ∈ H2, c.sat (F.snap w H2).heap := by
  intro c hc
  refine Chk.sat_congr (h.mem c (List.mem_append.2 (.inr hc))) fun b hb => ?_
  simp only [Frm.snap]
  rw [if_pos (List.mem_filterMap.2 ⟨c, hc, hb⟩)]

theorem Own.join {w w' : World} {H1 H1' H2 : Hp} {F : Frm} (h : Own w (H1 ++ H2) F) (k : Own w' H1' (F.snap w H2)) : Own w' (H1' ++ H2) F := by
  have hnd := h.nd
  rw [List.filterMap_append, List.nodup_append] at hnd
  have hsat : ∀ c ∈ H2, c.sat (fun b => w'.heap[b]?) := by
    intro c hc
    refine Chk.sat_congr (h.snap_sat c hc) fun b hb => ?_
    obtain ⟨o, ho⟩ := Chk.sat_some (h.snap_sat c hc) hb
    rw [ho]; exact k.fr b o ho
  refine ⟨k.os, k.tape, k.output, ?_, ?_, ?_, ?_⟩
  · intro c hc
    rcases List.mem_append.1 hc with hc | hc
    · exact k.mem c hc
    · exact hsat c hc
  · rw [List.filterMap_append, List.nodup_append]
    refine ⟨k.nd, hnd.2.1, fun b hb b' hb' e => ?_⟩
    subst e
    obtain ⟨c, hc, hcb⟩ := List.mem_filterMap.1 hb
    obtain ⟨d, hd, hdb⟩ := List.mem_filterMap.1 hb'
    have h1 := k.ap c hc b hcb
    obtain ⟨o, ho⟩ := Chk.sat_some (h.snap_sat d hd) hdb
    rw [h1] at ho; cases ho
  · intro b o hb
    exact k.fr b o (h.snap_le b o hb)
  · intro c hc b hcb
    rcases List.mem_append.1 hc with hc | hc
    · cases hF : F.heap b with
      | none => rfl
      | some o => have := h.snap_le b o hF; rw [k.ap c hc b hcb] at this; cases this
    · exact h.ap c (List.mem_append.2 (.inr hc)) b hcb

/-- **A call**: the callee is handed H1; H2 goes into its frame. -/
theorem callSl {P : Program} {f : FuncId} {args : Array Value} {w : World} {H1 H2 : Hp} {F : Frm} {R : Value → Hp → Prop} (hw : Own w (H1 ++ H2) F)
    (h : ∀ F', F.le F' → (∀ c ∈ H2, c.sat F'.heap) → SC P f args H1 F' R) :
    Calls P f args w (SPost (fun v H => ∃ H1', R v H1' ∧ H = H1' ++ H2) F) :=
  (h (F.snap w H2) hw.snap_le hw.snap_sat w hw.split).mono fun _ _ ⟨v, H', e, r, o⟩ => ⟨v, H' ++ H2, e, ⟨H', r, rfl⟩, hw.join o⟩

/-- The same, the pieces by their places. -/
theorem callAt {P : Program} {f : FuncId} {args : Array Value} {w : World} {H : Hp} {F : Frm} {R : Value → Hp → Prop} (hw : Own w H F) (is js : List Nat) (hn : (is ++ js).Nodup)
    (h : ∀ F', F.le F' → (∀ c ∈ pick H js, c.sat F'.heap) → SC P f args (pick H is) F' R) :
    Calls P f args w (SPost (fun v K => ∃ H1', R v H1' ∧ K = H1' ++ pick H js) F) :=
  callSl (pick_append H is js ▸ hw.re (is ++ js) hn) h

/-- A call that leaves no piece behind and returns one value whatever the world. -/
theorem calls_quiet {P : Program} {f : FuncId} {args : Array Value} {w : World} {H : Hp} {F : Frm} {v : Value} (hw : Own w H F)
    (h : ∀ F', F.le F' → (∀ c ∈ H, c.sat F'.heap) → SC P f args [] F' (fun u H' => u = v ∧ H' = [])) :
    Calls P f args w (fun e w' => e = .returned v ∧ Below w.heap.size w w') := by
  let G : Frm := { heap := fun b => w.heap[b]?, os := w.os, tape := w.tape, output := w.output }
  have hle : F.le G := fun b o hb => hw.fr b o hb
  have hown : Own w [] G := ⟨rfl, rfl, rfl, by simp, by simp, fun _ _ hb => hb, by simp⟩
  refine (h G hle (fun c hc => hw.mem c hc) w hown).mono ?_
  rintro e w' ⟨u, H', rfl, ⟨rfl, rfl⟩, ho⟩
  have hblk : ∀ k, k < w.heap.size → w'.heap[k]? = w.heap[k]? := by
    intro k hk
    have hsome : w.heap[k]? = some w.heap[k] := Array.getElem?_eq_getElem hk
    rw [hsome]; exact ho.fr k _ hsome
  refine ⟨rfl, ho.os, ho.tape, ho.output, ?_, hblk⟩
  rcases Nat.eq_zero_or_pos w.heap.size with h0 | h0
  · omega
  · have := hblk (w.heap.size - 1) (by omega)
    have hs : w.heap[w.heap.size - 1]? = some w.heap[w.heap.size - 1] := Array.getElem?_eq_getElem (by omega)
    rw [hs] at this
    have := (Array.getElem?_eq_some_iff.1 this).1
    omega
end Go.Proofs.Ytbpbhjnkmonlbaa.Sl
