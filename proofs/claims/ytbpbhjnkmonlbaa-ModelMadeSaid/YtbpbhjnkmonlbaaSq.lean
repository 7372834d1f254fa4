/- Reads, writes, new memory, calls; drawn regions; a function's begin and end. No condition. -/
import Derived.Test.YtbpbhjnkmonlbaaSp
namespace Go.Proofs.Ytbpbhjnkmonlbaa.Sl
open Go.RowKit
set_option linter.unusedVariables false
set_option linter.unusedSimpArgs false
section
variable {P : Program} {n : Nat} {F : Frm} {E : Ev} {H : Hp} {dst : Option Tmp} {ty : TypeId} {pos : String} {after : Array Edge} {guard : Option (Nat × Bool)}

def rowB (P : Program) (t : TypeId) : Option Bool := (P.underlying t).map TypeDesc.isRow
def szB (P : Program) (t : TypeId) : Option Nat := (P.info? t).map (·.size)
def Frm.cell? (F : Frm) (a : Addr) : Option Value :=
  match F.heap a.block with
  | some (.cells c _ _) => if a.spot.isSome then none else c[a.off]?
  | _ => none
theorem Own.fcell {w : World} (h : Own w H F) {a : Addr} {v : Value} (hc : F.cell? a = some v) : w.cell? a = some v := by
  unfold Frm.cell? at hc
  split at hc
  · rename_i c t f hb
    simp only [World.cell?, h.fr _ _ hb]; exact hc
  · cases hc

/-! ### Reads -/
theorem q_ob {t : TypeId} {x : Operand} {b j : Nat} {cs : List Value} {e : TypeId} {v : Value} (i : Nat) (hi : H[i]? = some (.ob b cs e)) (hx : ev E x = some (.pointer (some ⟨b, j, none⟩))) (hu : rowB P t = some false) (hc : cs[j]? = some v) :
    QOp P n F { dst, op := .load t x, type := ty, pos, after, guard } E H v := fun a w he hw => by
  rw [run_load1 rfl (he.ev hx) hu ((hw.cell i hi j).trans hc)]; exact ⟨rfl, rfl⟩
theorem q_sl {t : TypeId} {x : Operand} {g m c j : Nat} {xs : List Value} {e : TypeId} {sz : Nat} {v : Value} (i : Nat) (hi : H[i]? = some (.sl (.slice (some ⟨g, 0, none⟩) m c) e sz m xs)) (hx : ev E x = some (.pointer (some ⟨g, j, none⟩))) (hu : rowB P t = some false) (hc : xs[j]? = some v) :
    QOp P n F { dst, op := .load t x, type := ty, pos, after, guard } E H v := fun a w he hw => by
  have hl := (hw.owns i hi).1
  have hj : j < m * sz := by rw [← hl]; exact (List.getElem?_eq_some_iff.1 hc).1
  rw [run_load1 rfl (he.ev hx) hu ((hw.slcell i hi j hj).trans hc)]; exact ⟨rfl, rfl⟩
theorem q_fr {t : TypeId} {x : Operand} {ad : Addr} {v : Value} (hx : ev E x = some (.pointer (some ad))) (hu : rowB P t = some false) (hc : F.cell? ad = some v) :
    QOp P n F { dst, op := .load t x, type := ty, pos, after, guard } E H v := fun a w he hw => by
  rw [run_load1 rfl (he.ev hx) hu (hw.fcell hc)]; exact ⟨rfl, rfl⟩
theorem q_obN {t : TypeId} {x : Operand} {b j l : Nat} {cs us : List Value} {e : TypeId} (i : Nat) (hi : H[i]? = some (.ob b cs e)) (hx : ev E x = some (.pointer (some ⟨b, j, none⟩))) (hu : rowB P t = some true) (hs : szB P t = some l) (hc : (cs.drop j).take l = us) (hl : us.length = l) :
    QOp P n F { dst, op := .load t x, type := ty, pos, after, guard } E H (.agg us.toArray) := fun a w he hw => by
  rw [run_loadN (cs := us) rfl (he.ev hx) hu (by rw [hl]; exact hs) ?_]
  · exact ⟨rfl, rfl⟩
  · intro k v hk
    rw [hw.cell i hi (j + k)]
    have hlt := (List.getElem?_eq_some_iff.1 hk).1
    rw [← hc, List.getElem?_take, if_pos (by omega), List.getElem?_drop] at hk
    exact hk
theorem q_slN {t : TypeId} {x : Operand} {g m c j l : Nat} {xs us : List Value} {e : TypeId} {sz : Nat} (i : Nat) (hi : H[i]? = some (.sl (.slice (some ⟨g, 0, none⟩) m c) e sz m xs)) (hx : ev E x = some (.pointer (some ⟨g, j, none⟩))) (hu : rowB P t = some true) (hs : szB P t = some l) (hc : (xs.drop j).take l = us) (hl : us.length = l) :
    QOp P n F { dst, op := .load t x, type := ty, pos, after, guard } E H (.agg us.toArray) := fun a w he hw => by
  have hl' := (hw.owns i hi).1
  rw [run_loadN (cs := us) rfl (he.ev hx) hu (by rw [hl]; exact hs) ?_]
  · exact ⟨rfl, rfl⟩
  · intro k v hk
    have hlt := (List.getElem?_eq_some_iff.1 hk).1
    rw [← hc, List.getElem?_take, if_pos (by omega), List.getElem?_drop] at hk
    rw [hw.slcell i hi (j + k) (by rw [← hl']; exact (List.getElem?_eq_some_iff.1 hk).1)]
    exact hk
theorem q_frN {t : TypeId} {x : Operand} {b j l : Nat} {us : List Value} (hx : ev E x = some (.pointer (some ⟨b, j, none⟩))) (hu : rowB P t = some true) (hs : szB P t = some l) (hl : us.length = l) (hc : ∀ k v, us[k]? = some v → F.cell? ⟨b, j + k, none⟩ = some v) :
    QOp P n F { dst, op := .load t x, type := ty, pos, after, guard } E H (.agg us.toArray) := fun a w he hw => by
  rw [run_loadN (cs := us) rfl (he.ev hx) hu (by rw [hl]; exact hs) (fun k v hk => hw.fcell (hc k v hk))]
  exact ⟨rfl, rfl⟩

/-! ### Writes -/
theorem set_splice (cs : List Value) (j : Nat) (v : Value) (h : j < cs.length) : cs.take j ++ [v] ++ cs.drop (j + 1) = cs.set j v := by
  rw [List.set_eq_take_append_cons_drop, if_pos h]; simp
theorem l_ob {t : TypeId} {x y : Operand} {b j : Nat} {cs : List Value} {e : TypeId} {v : Value} (i : Nat) (hi : H[i]? = some (.ob b cs e)) (hx : ev E x = some (.pointer (some ⟨b, j, none⟩))) (hy : ev E y = some v) (hv : v.cells = #[v]) (h1 : v.oneCell' = true) (hs : szB P t = some 1) (hj : j < cs.length) :
    LOp P n F { dst, op := .store t x y, type := ty, pos, after, guard } E H (fun u H' => u = undef ∧ H' = H.set i (.ob b (cs.set j v) e)) := fun a w he hw Q K k => by
  have hr := run_store (P := P) (w := w) (us := [v]) (cs := cs) (e := e) (o := { dst, op := .store t x y, type := ty, pos, after, guard }) rfl (he.ev hx) (he.ev hy) hv hs (by simpa using h1) (hw.blk i hi) (by simp only [List.length_cons, List.length_nil]; omega)
  rw [show cs.take j ++ [v] ++ cs.drop (j + [v].length) = cs.set j v from set_splice cs j v hj] at hr
  exact wp_skp hr (k _ _ _ ⟨rfl, rfl⟩ (setRow_own hw i hi _))
theorem l_obN {t : TypeId} {x y : Operand} {b j : Nat} {cs us : List Value} {e : TypeId} (i : Nat) (hi : H[i]? = some (.ob b cs e)) (hx : ev E x = some (.pointer (some ⟨b, j, none⟩))) (hy : ev E y = some (.agg us.toArray)) (h1 : ∀ u ∈ us, u.oneCell' = true) (hs : szB P t = some us.length) (hj : j + us.length ≤ cs.length) :
    LOp P n F { dst, op := .store t x y, type := ty, pos, after, guard } E H (fun u H' => u = undef ∧ H' = H.set i (.ob b (cs.take j ++ us ++ cs.drop (j + us.length)) e)) := fun a w he hw Q K k => by
  have hr := run_store (P := P) (w := w) (us := us) (cs := cs) (e := e) (o := { dst, op := .store t x y, type := ty, pos, after, guard }) rfl (he.ev hx) (he.ev hy) rfl hs h1 (hw.blk i hi) hj
  exact wp_skp hr (k _ _ _ ⟨rfl, rfl⟩ (setRow_own hw i hi _))
theorem l_slN {t : TypeId} {x y : Operand} {g m c j : Nat} {xs us : List Value} {e : TypeId} {sz : Nat} {v : Value} (i : Nat) (hi : H[i]? = some (.sl (.slice (some ⟨g, 0, none⟩) m c) e sz m xs)) (hx : ev E x = some (.pointer (some ⟨g, j, none⟩))) (hy : ev E y = some v) (hv : v.cells = us.toArray) (h1 : ∀ u ∈ us, u.oneCell' = true) (hs : szB P t = some us.length) (hj : j + us.length ≤ xs.length) :
    LOp P n F { dst, op := .store t x y, type := ty, pos, after, guard } E H (fun u H' => u = undef ∧ H' = H.set i (.sl (.slice (some ⟨g, 0, none⟩) m c) e sz m (xs.take j ++ us ++ xs.drop (j + us.length)))) := fun a w he hw Q K k => by
  obtain ⟨hl, h2⟩ := hw.get i hi
  rcases h2 with ⟨h2, _⟩ | ⟨g', cap, cur, hv', hcur, h3, h4, h5, h6⟩
  · cases h2
  simp only [Value.slice.injEq, Option.some.injEq, Addr.mk.injEq, true_and, and_true] at hv'
  obtain ⟨rfl, rfl⟩ := hv'
  have hmul : m * sz ≤ c * sz := Nat.mul_le_mul_right _ h3
  have hcl : cur.toList.length = c * sz := by simpa using h5
  have hfit : j + us.length ≤ cur.toList.length := by omega
  have hr := run_store (P := P) (w := w) (us := us) (cs := cur.toList) (e := e) (o := { dst, op := .store t x y, type := ty, pos, after, guard }) rfl (he.ev hx) (he.ev hy) hv hs h1 (by simpa using hcur) hfit
  refine wp_skp hr (k _ _ _ ⟨rfl, rfl⟩ (hw.upd i hi _ rfl rfl rfl (fun k _ hk => setRow_other w g k _ (fun e => hk (by simp [Chk.fp, Value.ownBlock, e]))) ?_ (fun b' hb' => .inl hb')))
  refine ⟨?_, .inr ⟨g, c, _, rfl, setRow_heap w g cur _ e _ hcur, h3, h4, ?_, ?_⟩⟩
  · simp only [List.length_append, List.length_take, List.length_drop]; omega
  · simp only [List.size_toArray, List.length_append, List.length_take, List.length_drop]
    omega
  · have hx1 : xs = cur.toList.take (m * sz) := h6.symm
    have e1 : cur.toList.take j = xs.take j := by rw [hx1, List.take_take, Nat.min_eq_left (by omega)]
    have e2 : xs.drop (j + us.length) = (cur.toList.drop (j + us.length)).take (m * sz - (j + us.length)) := by rw [hx1, List.drop_take]
    rw [e1, e2]
    have l1 : (xs.take j ++ us).length = j + us.length := by simp only [List.length_append, List.length_take]; omega
    rw [List.take_append, List.take_of_length_le (by omega), l1]
theorem l_sl {t : TypeId} {x y : Operand} {g m c j : Nat} {xs : List Value} {e : TypeId} {sz : Nat} {v : Value} (i : Nat) (hi : H[i]? = some (.sl (.slice (some ⟨g, 0, none⟩) m c) e sz m xs)) (hx : ev E x = some (.pointer (some ⟨g, j, none⟩))) (hy : ev E y = some v) (hv : v.cells = #[v]) (h1 : v.oneCell' = true) (hs : szB P t = some 1) (hj : j < xs.length) :
    LOp P n F { dst, op := .store t x y, type := ty, pos, after, guard } E H (fun u H' => u = undef ∧ H' = H.set i (.sl (.slice (some ⟨g, 0, none⟩) m c) e sz m (xs.set j v))) := by
  have := l_slN (P := P) (n := n) (F := F) (dst := dst) (ty := ty) (pos := pos) (after := after) (guard := guard) (us := [v]) i hi hx hy hv (by simpa using h1) hs (by simp only [List.length_cons, List.length_nil]; omega)
  rwa [show xs.take j ++ [v] ++ xs.drop (j + [v].length) = xs.set j v from set_splice xs j v hj] at this

/-! ### New memory -/
theorem l_box {e : TypeId} {x : Operand} {v : Value} (cs : List Value) (hx : ev E x = some v) (hv : v.cells = cs.toArray) :
    LOp P n F { dst, op := .box e x, type := ty, pos, after, guard } E H (fun u H' => ∃ b, u = .pointer (some ⟨b, 0, none⟩) ∧ H' = .ob b cs e :: H) := fun a w he hw Q K k => by
  refine wp_val (v := .pointer (some ⟨w.heap.size, 0, none⟩)) (w' := w.alloc (.cells cs.toArray e)) ?_ (k _ _ _ ⟨_, rfl, rfl⟩ (hw.alloc cs e))
  unfold execOp
  simp [Instr.box, he.ev hx, newVar, newRow, hv]
def zeroB (P : Program) (t : TypeId) : Option (Array Value) := match P.info? t with | some i => i.zero.map Value.cells | none => none
theorem l_alloc {e : TypeId} (cs : List Value) (hz : zeroB P e = some cs.toArray) :
    LOp P n F { dst, op := .alloc e, type := ty, pos, after, guard } E H (fun u H' => ∃ b, u = .pointer (some ⟨b, 0, none⟩) ∧ H' = .ob b cs e :: H) := fun a w he hw Q K k => by
  unfold zeroB at hz
  split at hz
  · rename_i ti hti
    obtain ⟨z, hz1, hz2⟩ := Option.map_eq_some_iff.1 hz
    refine wp_val (v := .pointer (some ⟨w.heap.size, 0, none⟩)) (w' := w.alloc (.cells cs.toArray e)) ?_ (k _ _ _ ⟨_, rfl, rfl⟩ (hw.alloc cs e))
    unfold execOp
    simp [Instr.alloc, zeroValue, typeInfo, hti, hz1, newVar, newRow, hz2]
  · cases hz
/-- What a slice's type says of its elements: their type, cells and bytes, and the cells of a zero. -/
def elB (P : Program) (t : TypeId) : Option (TypeId × Nat × Nat × Array Value) :=
  match P.underlying t with
  | some (.slice e) => match P.info? e with
    | some i => i.zero.map fun z => (e, i.size, i.bytes, z.cells)
    | none => none
  | _ => none
theorem elB_spec {t e : TypeId} {sz by_ : Nat} {zc : Array Value} (h : elB P t = some (e, sz, by_, zc)) : ∃ i z, P.underlying t = some (.slice e) ∧ P.info? e = some i ∧ i.zero = some z ∧ i.size = sz ∧ i.bytes = by_ ∧ z.cells = zc := by
  unfold elB at h
  split at h
  · rename_i e' ht
    split at h
    · rename_i i hi
      obtain ⟨z, hz, hh⟩ := Option.map_eq_some_iff.1 h
      simp only [Prod.mk.injEq] at hh
      obtain ⟨rfl, rfl, rfl, rfl⟩ := hh
      exact ⟨i, z, ht, hi, hz, rfl, rfl, rfl⟩
    · cases h
  · cases h
theorem l_bs {t e : TypeId} {len sz bytes : Nat} {zc : Array Value} {parts : Array (Nat × Operand)} {vs : List (Nat × Value)} (cs : List Value) (hp : evs E parts.toList = some vs) (hE : elB P t = some (e, sz, bytes, zc)) (hsm : len * sz ≤ 16777216)
    (hf : Instr.fill (fun i => some (i * sz, sz)) ((Array.range (len * sz)).map (zc[· % zc.size]!)) vs = some cs.toArray) (hl : cs.length = len * sz) (hln : len ≤ maxLen) :
    LOp P n F { dst, op := .buildSlice t len parts, type := ty, pos, after, guard } E H (fun u H' => ∃ b, u = .slice (some ⟨b, 0, none⟩) len len ∧ H' = .sl (.slice (some ⟨b, 0, none⟩) len len) e sz len cs :: H) := fun a w he hw Q K k => by
  obtain ⟨ti, z, ht, hti, hz, rfl, rfl, rfl⟩ := elB_spec hE
  have e1 : (parts.map fun (i, x) => (i, a.eval x)).toList = vs := by rw [Array.toList_map]; exact evs_spec he _ _ hp
  refine wp_val (v := .slice (some ⟨w.heap.size, 0, none⟩) len len) (w' := w.alloc (.cells cs.toArray e)) ?_ (k _ _ _ ⟨_, rfl, rfl⟩ ((hw.alloc cs e).toSl hl hln))
  have hsm' : ¬ (len * ti.size > 16777216) := by omega
  unfold execOp
  by_cases h0 : len * ti.size = 0
  · have e0 : ∀ g : Nat → Value, (Array.range 0).map g = #[] := fun _ => by simp
    rw [h0, e0] at hf
    simp only [Instr.buildSlice, run_underlying ht, sizeOf, typeInfo, hti, h0, e0, e1, Sem.run_bind]
    simp [hti, h0, hf, newRow, e0]
  · simp only [Instr.buildSlice, run_underlying ht, sizeOf, typeInfo, hti, e1, Sem.run_bind]
    simp [hti, hsm', h0, zeroValue, typeInfo, hz, newRow]
    rw [hf]; rfl
/-- Parts in their order, all of them. -/
def enumP : Nat → List Value → List (Nat × Value)
  | _, [] => []
  | i, v :: vs => (i, v) :: enumP (i + 1) vs
theorem foldl_set (off : Nat) : ∀ (us : List Value) (k : Nat) (done old tail : List Value), done.length = off + k → old.length = us.length →
    (us.zipIdx k).foldl (fun (cs : Array Value) (x : Value × Nat) => cs.setIfInBounds (off + x.2) x.1) (done ++ old ++ tail).toArray = (done ++ us ++ tail).toArray
  | [], k, done, old, tail, h1, h2 => by simp at h2; subst h2; simp
  | u :: us, k, done, old, tail, h1, h2 => by
    cases old with
    | nil => simp at h2
    | cons x old =>
      simp only [List.zipIdx_cons, List.foldl_cons]
      have e : (done ++ x :: old ++ tail).toArray.setIfInBounds (off + k) u = ((done ++ [u]) ++ old ++ tail).toArray := by
        rw [List.setIfInBounds_toArray, List.append_assoc, List.set_append_right _ _ (by omega), h1, Nat.sub_self]; simp
      rw [e, foldl_set off us (k + 1) (done ++ [u]) old tail (by simp; omega) (by simpa using h2)]
      simp
theorem fill_all (sz : Nat) : ∀ (vs : List Value) (i : Nat) (done old : List Value), (∀ v ∈ vs, v.cells.size = sz) → done.length = i * sz → old.length = vs.length * sz →
    Instr.fill (fun i => some (i * sz, sz)) (done ++ old).toArray (enumP i vs) = some (done ++ vs.flatMap (fun v => v.cells.toList)).toArray
  | [], i, done, old, _, h1, h2 => by simp at h2; subst h2; simp [enumP, Instr.fill]
  | v :: vs, i, done, old, hv, h1, h2 => by
    have hc := hv v (by simp)
    simp only [List.length_cons, Nat.add_mul, Nat.one_mul] at h2
    have hl : ¬ ((decide (v.cells.size ≠ sz) || decide (i * sz + v.cells.size > (done ++ old).toArray.size)) = true) := by
      simp only [List.size_toArray, List.length_append, Bool.or_eq_true, decide_eq_true_eq]; omega
    simp only [enumP, Instr.fill, if_neg hl]
    have e : v.cells.zipIdx.foldl (fun (cs : Array Value) (x : Value × Nat) => cs.setIfInBounds (i * sz + x.2) x.1) (done ++ old).toArray = (done ++ v.cells.toList ++ old.drop sz).toArray := by
      have := foldl_set (i * sz) v.cells.toList 0 done (old.take sz) (old.drop sz) (by omega) (by simp [hc]; omega)
      rw [List.append_assoc, List.take_append_drop] at this
      rw [← this, ← Array.foldl_toList, Array.toList_zipIdx]
    have e2 := fill_all sz vs (i + 1) (done ++ v.cells.toList) (old.drop sz) (fun u hu => hv u (by simp [hu])) (by simp [hc, h1, Nat.add_mul]) (by simp; omega)
    refine (congrArg (fun z => Instr.fill (fun i => some (i * sz, sz)) z (enumP (i + 1) vs)) e).trans ?_
    rw [e2]; simp
theorem l_bsV {t e : TypeId} {len sz bytes : Nat} {zc : Array Value} {parts : Array (Nat × Operand)} (vs : List Value) (cs : List Value) (hp : evs E parts.toList = some (enumP 0 vs)) (hE : elB P t = some (e, sz, bytes, zc)) (hsm : len * sz ≤ 16777216) (h0 : 0 < sz)
    (hlen : vs.length = len) (hv : ∀ v ∈ vs, v.cells.size = sz) (hcs : vs.flatMap (fun v => v.cells.toList) = cs) :
    LOp P n F { dst, op := .buildSlice t len parts, type := ty, pos, after, guard } E H (fun u H' => ∃ b, u = .slice (some ⟨b, 0, none⟩) len len ∧ H' = .sl (.slice (some ⟨b, 0, none⟩) len len) e sz len cs :: H) := by
  have hfl : ∀ (l : List Value), (∀ v ∈ l, v.cells.size = sz) → (l.flatMap (fun v => v.cells.toList)).length = l.length * sz := by
    intro l hl
    induction l with
    | nil => simp
    | cons v l ih => simp [List.flatMap_cons, hl v (by simp), ih (fun u hu => hl u (by simp [hu])), Nat.add_mul, Nat.add_comm]
  have hlm : len ≤ maxLen := by
    have := Nat.le_mul_of_pos_right len h0
    simp only [maxLen]; omega
  refine l_bs cs hp hE hsm ?_ (by rw [← hcs, hfl vs hv, hlen]) hlm
  have := fill_all sz vs 0 [] ((Array.range (len * sz)).map (zc[· % zc.size]!)).toList hv (by simp) (by simp [hlen])
  simp only [List.nil_append, Array.toArray_toList] at this
  rw [this, hcs]
theorem l_make {t e : TypeId} {sz m bytes : Nat} {zc : Array Value} {l c : Operand} {kl kc : IntKind} (hE : elB P t = some (e, sz, bytes, zc)) (hl : ev E l = some (.int kl (m : Int))) (hc : ev E c = some (.int kc (m : Int))) (hb : bytes * m ≤ 281474976710656) (hn : m ≤ maxLen) :
    LOp P n F { dst, op := .makeSlice t l c, type := ty, pos, after, guard } E H (fun u H' => ∃ b, u = .slice (some ⟨b, 0, none⟩) m m ∧ H' = .sl (.slice (some ⟨b, 0, none⟩) m m) e sz m (madeCells zc (m * sz)).toList :: H) := fun a w he hw Q K k => by
  obtain ⟨ti, z, ht, hti, hz, rfl, rfl, rfl⟩ := elB_spec hE
  obtain ⟨w', hr, h1, h2⟩ := run_make_full (P := P) w 0 t e ti z ti.size ht hti hz rfl kl kc m hb hn (Nat.zero_le _)
  refine wp_val (v := .slice (some ⟨w.heap.size, 0, none⟩) m m) (w' := w') ?_ (k _ _ _ ⟨w.heap.size, rfl, rfl⟩ (hw.cons_new ⟨h2.os, h2.tape, h2.output, h2.size, fun k hk => h2.block k hk (by simp)⟩ _ (sat_of_owns h1) (fun b hb => by simp only [Chk.fp, Value.ownBlock, Option.some.injEq] at hb; omega)))
  unfold execOp
  simp [he.ev hl, he.ev hc, hr]

/-! ### Append -/
/-- Onto an owned row, what another owned row holds. -/
theorem l_app {t e e' : TypeId} {sz sz' bytes l m c g : Nat} {zc : Array Value} {v : Value} {xs news : List Value} {s x : Operand} (i j : Nat) (hi : H[i]? = some (.sl v e sz l xs)) (hj : H[j]? = some (.sl (.slice (some ⟨g, 0, none⟩) m c) e' sz' m news))
    (hE : elB P t = some (e, sz, bytes, zc)) (hzs : zc.size = sz) (hsz : 0 < sz) (hs : ev E s = some v) (hx : ev E x = some (.slice (some ⟨g, 0, none⟩) m c)) (hl : news.length = m * sz) (h1 : ∀ u ∈ news, u.oneCell' = true) (hb0 : 0 < bytes) (hbytes : (l + m) * bytes ≤ 140737488355328) (hm : 0 < m) :
    LOp P n F { dst, op := .call { callee := .builtin .append, args := #[s, x], argTypes := #[t, t] }, type := ty, pos, after, guard } E H (fun u H' => ∃ g' c', u = .slice (some ⟨g', 0, none⟩) (l + m) c' ∧ H' = H.set i (.sl (.slice (some ⟨g', 0, none⟩) (l + m) c') e sz (l + m) (xs ++ news))) := fun a w he hw Q K k => by
  obtain ⟨ti, z, ht, hti, hz, rfl, rfl, rfl⟩ := elB_spec hE
  have hlm : l + m ≤ maxLen := by
    have := Nat.le_trans (Nat.le_mul_of_pos_right (l + m) hb0) hbytes
    simp only [maxLen]; omega
  have hnews : ∀ j' u, news[j']? = some u → w.cell? ((⟨g, 0, none⟩ : Addr).add j') = some u := by
    intro j' u hu
    rw [add_at, Nat.zero_add, hw.slcell j hj j' ?_]
    · exact hu
    · rw [← (hw.owns j hj).1]; exact (List.getElem?_eq_some_iff.1 hu).1
  obtain ⟨v', w', hr, h2, hgr, _, hat⟩ := run_append_own_at (P := P) w 0 t ty e ti z ti.size ti.bytes ht hti hz rfl rfl hzs hsz v l xs (hw.owns i hi) ⟨g, 0, none⟩ m c news hl hnews h1 hlm hbytes (Nat.zero_le _)
  obtain ⟨g', c', rfl⟩ : ∃ g' c', v' = .slice (some ⟨g', 0, none⟩) (l + m) c' := by
    rcases h2.2 with ⟨_, h0⟩ | ⟨g', c', _, hv, _⟩
    · omega
    · exact ⟨g', c', hv⟩
  refine wp_val (v := .slice (some ⟨g', 0, none⟩) (l + m) c') (w' := w') ?_ (k _ _ _ ⟨g', c', rfl, rfl⟩ (hw.upd i hi _ hgr.os hgr.tape hgr.output (fun k hk hne => hgr.block k hk (fun e => hne (by simp [Chk.fp, ← e]))) (sat_of_owns h2) ?_))
  · unfold execOp
    simp only [resolve, invoke, builtin, Sem.run_bind, Sem.run_pure, Result.andThen_ok, List.map_toArray, List.map_cons, List.map_nil, he.ev hs, he.ev hx, hr]
  · intro b hb
    rcases hat with hat | hat
    · exact .inl (hat.symm.trans hb)
    · rw [Chk.fp, hat] at hb; cases hb; exact .inr (Nat.le_refl _)

/-! ### Numbers that fit -/
theorem nw64 {x : Int} (h : -9223372036854775808 ≤ x ∧ x ≤ 9223372036854775807) : IntKind.i64.wrap x = x := by rw [IntKind.wrap_i64]; omega
theorem nwu64 {x : Int} (h : 0 ≤ x ∧ x ≤ 18446744073709551615) : IntKind.u64.wrap x = x := by simp [IntKind.wrap, IntKind.bits, IntKind.signed]; omega
theorem nwu8 {x : Int} (h : 0 ≤ x ∧ x ≤ 255) : IntKind.u8.wrap x = x := by simp [IntKind.wrap, IntKind.bits, IntKind.signed]; omega
theorem nwu16 {x : Int} (h : 0 ≤ x ∧ x ≤ 65535) : IntKind.u16.wrap x = x := by simp [IntKind.wrap, IntKind.bits, IntKind.signed]; omega
theorem wu64 (x : Int) : IntKind.u64.wrap x = x % 18446744073709551616 := by simp [IntKind.wrap, IntKind.bits, IntKind.signed]
theorem wu8 (x : Int) : IntKind.u8.wrap x = x % 256 := by simp [IntKind.wrap, IntKind.bits, IntKind.signed]

theorem at_shape {G : Act → World → Prop} (i : Nat) {v : Value} {e : TypeId} {sz m : Nat} {xs : List Value} (hi : H[i]? = some (.sl v e sz m xs))
    (h : ∀ A c, v = .slice A m c → m ≤ c → xs.length = m * sz → (0 < m → ∃ g, A = some ⟨g, 0, none⟩) → At n F E H G) : At n F E H G := fun a w he hw => by
  obtain ⟨A, c, h1, h2, _, h3, h4⟩ := hw.shape i hi
  exact h A c h1 h2 h3 h4 a w he hw
/-- A row that holds something. -/
theorem at_row {G : Act → World → Prop} (i : Nat) {v : Value} {e : TypeId} {sz m : Nat} {xs : List Value} (hi : H[i]? = some (.sl v e sz m xs)) (hm : 0 < m)
    (h : ∀ g c, v = .slice (some ⟨g, 0, none⟩) m c → m ≤ c → At n F E H G) : At n F E H G :=
  at_shape i hi fun A c h1 h2 _ h4 => by obtain ⟨g, rfl⟩ := h4 hm; exact h g c h1 h2

/-! ### Calls -/
def callB (P : Program) (f : FuncId) : Bool := match P.funcs[f]? with | some fn => fn.body.isSome && !(fn.name == "runtime.NumGoroutine") | none => false
theorem run_call {ρ : Operand → Value} {w : World} {c : Operand} {f : FuncId} {first : Array Value} {xs : Array Operand} {ats : Array TypeId} (hc : ρ c = .func (.func f) first #[]) (hf : callB P f = true) :
    (execOp ρ { dst, op := .call { callee := .value c, args := xs, argTypes := ats }, type := ty, pos, after, guard }).run P w = .ok (.enter f (first ++ xs.map ρ)) w := by
  unfold callB at hf
  split at hf
  · rename_i fn hfn
    simp only [Bool.and_eq_true, Bool.not_eq_true'] at hf
    have hb : fn.body ≠ none := by intro h; rw [h] at hf; simp at hf
    have hn : fn.name ≠ "runtime.NumGoroutine" := by simpa using hf.2
    unfold execOp
    simp [resolve, hc, Deferred.ofValue, invoke, callFunc, hfn, hn, hb]
  · cases hf
def evl (E : Ev) : List Operand → Option (List Value)
  | [] => some []
  | x :: l => match ev E x, evl E l with
    | some v, some vs => some (v :: vs)
    | _, _ => none
theorem evl_spec {a : Act} (he : Env n a E) : ∀ (l : List Operand) (vs : List Value), evl E l = some vs → l.map a.eval = vs
  | [], vs, h => by simp [evl] at h; subst h; rfl
  | x :: l, vs, h => by
    simp only [evl] at h
    cases h1 : ev E x with
    | none => simp [h1] at h
    | some v =>
      cases h2 : evl E l with
      | none => simp [h1, h2] at h
      | some us =>
        simp only [h1, h2, Option.some.injEq] at h
        subst h
        simp only [List.map_cons, he.ev h1, evl_spec he l us h2]
theorem l_call {c : Operand} {f : FuncId} {first : List Value} {xs : Array Operand} {vs : List Value} {ats : Array TypeId} {R : Value → Hp → Prop} (is js : List Nat) (hc : ev E c = some (.func (.func f) first.toArray #[])) (hf : callB P f = true) (hv : evl E xs.toList = some vs) (hn : (is ++ js).Nodup)
    (h : ∀ F', F.le F' → (∀ c ∈ pick H js, c.sat F'.heap) → SC P f (first ++ vs).toArray (pick H is) F' R) :
    LOp P n F { dst, op := .call { callee := .value c, args := xs, argTypes := ats }, type := ty, pos, after, guard } E H (fun u H' => ∃ H1, R u H1 ∧ H' = H1 ++ pick H js) := fun a w he hw Q K k => by
  have hr := run_call (P := P) (w := w) (dst := dst) (ty := ty) (pos := pos) (after := after) (guard := guard) (xs := xs) (ats := ats) (he.ev hc) hf
  have hargs : first.toArray ++ xs.map a.eval = (first ++ vs).toArray := by
    rw [← evl_spec he _ _ hv]; apply Array.ext'; simp
  rw [hargs] at hr
  unfold Oper.wp
  rw [hr]
  simp only [Oper.upon]
  refine (callAt hw is js hn h).mono ?_
  rintro e w' ⟨v, H', rfl, ⟨H1, hR, rfl⟩, ho⟩
  exact k _ _ _ ⟨H1, hR, rfl⟩ ho
theorem q_call {c : Operand} {f : FuncId} {first : List Value} {xs : Array Operand} {vs : List Value} {ats : Array TypeId} {v : Value} (hc : ev E c = some (.func (.func f) first.toArray #[])) (hf : callB P f = true) (hv : evl E xs.toList = some vs)
    (h : ∀ F', F.le F' → (∀ c ∈ H, c.sat F'.heap) → SC P f (first ++ vs).toArray [] F' (fun u H' => u = v ∧ H' = [])) :
    QOp P n F { dst, op := .call { callee := .value c, args := xs, argTypes := ats }, type := ty, pos, after, guard } E H v := fun a w he hw => by
  have hr := run_call (P := P) (w := w) (dst := dst) (ty := ty) (pos := pos) (after := after) (guard := guard) (xs := xs) (ats := ats) (he.ev hc) hf
  have hargs : first.toArray ++ xs.map a.eval = (first ++ vs).toArray := by
    rw [← evl_spec he _ _ hv]; apply Array.ext'; simp
  rw [hr, hargs]
  exact ⟨rfl, calls_quiet hw h⟩

/-! ### A function's begin and end -/
def enumE : Nat → List Value → Ev
  | _, [] => []
  | k, v :: vs => (k, v) :: enumE (k + 1) vs
theorem enumE_spec : ∀ (vs : List Value) (k j : Nat) (v : Value), lk (enumE k vs) j = some v → k ≤ j ∧ vs[j - k]? = some v
  | [], _, _, _, h => by simp [enumE, lk] at h
  | u :: vs, k, j, v, h => by
    simp only [enumE, lk] at h
    cases hb : k == j with
    | true => rw [hb] at h; cases h; have := eq_of_beq hb; subst this; simp
    | false =>
      rw [hb] at h
      obtain ⟨h1, h2⟩ := enumE_spec vs (k + 1) j v h
      refine ⟨by omega, ?_⟩
      rw [show j - k = (j - (k + 1)) + 1 by omega]; simpa using h2
theorem sc_in {f : FuncId} {fn : Func} {c : Code} {args : List Value} {R : Value → Hp → Prop} (hf : P.funcs[f]? = some fn) (hb : fn.body = some c) (hn : fn.ntmps = n) (hsz : args.length ≤ n)
    (h : At n F (enumE 0 args) H (c.wp P (bodyPost P fn (SPost R F)))) : SC P f args.toArray H F R := by
  intro w hw
  refine calls_of_wp hf hb (h _ w ⟨rfl, ?_, ?_⟩ hw)
  · simp [hn]; omega
  · intro k v hk
    obtain ⟨_, hv⟩ := enumE_spec args 0 k v hk
    have hlt : k < args.length := (List.getElem?_eq_some_iff.1 hv).1
    rw [Array.getElem?_append_left (by simpa using hlt)]
    simpa using hv
variable {R : Value → Hp → Prop} {fn : Func}
theorem fin_n (hr : fn.results = #[]) (h : R (.tuple #[]) H) : At n F E H (bodyPost P fn (SPost R F) .normal) := fun a w he hw =>
  ⟨he.defers, .tuple #[], results_none hr _ _ _, _, H, rfl, h, hw⟩
theorem fin_0 (hr : fn.results = #[]) (h : R (.tuple #[]) H) : At n F E H (bodyPost P fn (SPost R F) .ret) := fun a w he hw =>
  ⟨he.defers, .tuple #[], results_none hr _ _ _, _, H, rfl, h, hw⟩
theorem fin_1 {t : Tmp} {v : Value} (hr : fn.results = #[.tmp t]) (hv : lk E t = some v) (h : R v H) : At n F E H (bodyPost P fn (SPost R F) .ret) := fun a w he hw =>
  ⟨he.defers, v, by rw [results_tmp hr]; simp [he.at_ t v hv], v, H, rfl, h, hw⟩
theorem fin_2 {t u : Tmp} {v v' : Value} (hr : fn.results = #[.tmp t, .tmp u]) (hv : lk E t = some v) (hv' : lk E u = some v') (h : R (.tuple #[v, v']) H) : At n F E H (bodyPost P fn (SPost R F) .ret) := fun a w he hw =>
  ⟨he.defers, .tuple #[v, v'], by rw [results_tmp2 hr]; simp [he.at_ t v hv, he.at_ u v' hv'], _, H, rfl, h, hw⟩
/-- One result, a struct in a variable. -/
theorem fin_c {t : Tmp} {ty : TypeId} {b : Nat} {cs : List Value} {e : TypeId} (i : Nat) (hr : fn.results = #[.cell t ty]) (hv : lk E t = some (.pointer (some ⟨b, 0, none⟩))) (hi : H[i]? = some (.ob b cs e)) (hu : rowB P ty = some true) (hs : szB P ty = some cs.length) (h : R (.agg cs.toArray) H) : At n F E H (bodyPost P fn (SPost R F) .ret) := fun a w he hw => by
  refine ⟨he.defers, .agg cs.toArray, ?_, _, H, rfl, h, hw⟩
  obtain ⟨d, hd, hdr⟩ := Option.map_eq_some_iff.1 hu
  have hl := run_loadVar_mid (P := P) w b 0 ty cs d (fun j v hj => by rw [Nat.zero_add, hw.cell i hi j]; exact hj) hd hdr hs
  simp [results, hr, he.at_ t _ hv, asAddr, hl]
end
end Go.Proofs.Ytbpbhjnkmonlbaa.Sl
