/- The operations that touch memory, said of states that are lists of owned pieces. No condition. -/
import Derived.Test.YtbpbhjnkmonlbaaSl
import Derived.Deep.MidRow
import Derived.OwnWalk
import Derived.Maps.AppendAt
namespace Go.Proofs.Ytbpbhjnkmonlbaa.Sl
open Go.RowKit
set_option linter.unusedVariables false
set_option linter.unusedSimpArgs false
variable {P : Program} {ops : Array Oper} {rest : List Oper} {o : Oper} {a : Act} {w : World} {Q : Exit → Act → World → Prop} {K : Act → World → Prop} {H : Hp} {F : Frm}

theorem wp_val {v : Value} {w' : World} (h : (execOp a.eval o).run P w = .ok (.value v) w') (k : K (a.put o.dst v) w') : o.wp P a w K Q := by
  unfold Oper.wp; rw [h]; exact k
theorem wp_skp {w' : World} (h : (execOp a.eval o).run P w = .ok .skip w') (k : K (a.put o.dst undef) w') : o.wp P a w K Q := by
  unfold Oper.wp; rw [h]; exact k
theorem wpl_val {v : Value} {w' : World} (hg : o.guard = none) (h : (execOp a.eval o).run P w = .ok (.value v) w') (k : wpList P ops Q rest (a.put o.dst v) w') : wpList P ops Q (o :: rest) a w :=
  wpList_plain hg fun _ hK => wp_val h (hK _ _ k)
theorem wpl_skp {w' : World} (hg : o.guard = none) (h : (execOp a.eval o).run P w = .ok .skip w') (k : wpList P ops Q rest (a.put o.dst undef) w') : wpList P ops Q (o :: rest) a w :=
  wpList_plain hg fun _ hK => wp_skp h (hK _ _ k)

/-! ### What an owned piece says of cells -/
theorem Own.blk (h : Own w H F) (i : Nat) {b : Nat} {cs : List Value} {e : TypeId} (hi : H[i]? = some (.ob b cs e)) : w.heap[b]? = some (.cells cs.toArray e (0, 0)) := h.get i hi
theorem Own.cell (h : Own w H F) (i : Nat) {b : Nat} {cs : List Value} {e : TypeId} (hi : H[i]? = some (.ob b cs e)) (j : Nat) : w.cell? ⟨b, j, none⟩ = cs[j]? := by
  rw [cell_of_row w b j _ _ _ (h.blk i hi)]; simp
theorem Own.free (h : Own w H F) (i : Nat) {b : Nat} {cs : List Value} {e : TypeId} (hi : H[i]? = some (.ob b cs e)) (j : Nat) : w.frozen? ⟨b, j, none⟩ = false := by
  simp [World.frozen?, h.blk i hi]
theorem Own.owns (h : Own w H F) (i : Nat) {v : Value} {e : TypeId} {sz n : Nat} {xs : List Value} (hi : H[i]? = some (.sl v e sz n xs)) : w.ownsRow 0 e sz v n xs := by
  obtain ⟨h1, h2⟩ := h.get i hi
  refine ⟨h1, h2.imp id ?_⟩
  rintro ⟨g, cap, cur, hv, hg, r⟩
  exact ⟨g, cap, cur, hv, Nat.zero_le _, hg, r⟩
theorem sat_of_owns {base : Nat} {v : Value} {e : TypeId} {sz n : Nat} {xs : List Value} (h : w.ownsRow base e sz v n xs) : (Chk.sl v e sz n xs).sat (fun b => w.heap[b]?) := by
  refine ⟨h.1, h.2.imp id ?_⟩
  rintro ⟨g, cap, cur, hv, _, hg, r⟩
  exact ⟨g, cap, cur, hv, hg, r⟩
theorem Own.shape (h : Own w H F) (i : Nat) {v : Value} {e : TypeId} {sz n : Nat} {xs : List Value} (hi : H[i]? = some (.sl v e sz n xs)) : ∃ A c, v = .slice A n c ∧ n ≤ c ∧ c ≤ maxLen ∧ xs.length = n * sz ∧ (0 < n → ∃ g, A = some ⟨g, 0, none⟩) := by
  obtain ⟨h1, h2⟩ := h.get i hi
  rcases h2 with ⟨rfl, rfl⟩ | ⟨g, cap, cur, rfl, hg, h3, h4, _⟩
  · exact ⟨none, 0, rfl, Nat.le_refl _, Nat.zero_le _, h1, fun h => absurd h (by omega)⟩
  · exact ⟨_, cap, rfl, h3, h4, h1, fun _ => ⟨g, rfl⟩⟩
theorem Own.slcell (h : Own w H F) (i : Nat) {g n c : Nat} {e : TypeId} {sz : Nat} {xs : List Value} (hi : H[i]? = some (.sl (.slice (some ⟨g, 0, none⟩) n c) e sz n xs)) (j : Nat) (hj : j < n * sz) : w.cell? ⟨g, j, none⟩ = xs[j]? :=
  (h.owns i hi).cellAt j hj

/-! ### Loads -/
theorem run_load1 {ρ : Operand → Value} {x : Operand} {t : TypeId} {ad : Addr} {v : Value} (ho : o.op = .load t x) (hx : ρ x = .pointer (some ad)) (hu : (P.underlying t).map TypeDesc.isRow = some false) (hc : w.cell? ad = some v) :
    (execOp ρ o).run P w = .ok (.value v) w := by
  obtain ⟨d, hd, hr⟩ := Option.map_eq_some_iff.1 hu
  have hag : (isAgg t).run P w = .ok false w := by
    simp only [isAgg, Sem.run_bind, run_underlying hd, Result.andThen_ok]
    cases d <;> first | rfl | simp [TypeDesc.isRow] at hr
  have hl : (loadVar t ad).run P w = .ok v w := by
    simp [loadVar, Sem.run_bind, hag, load, Sem.run, hc]
  unfold execOp
  simp only [ho, Instr.loadAt, hx, Instr.sureAddr, Sem.run_bind, Sem.run_pure, Result.andThen_ok, hl]
theorem run_loadN {ρ : Operand → Value} {x : Operand} {t : TypeId} {b off : Nat} {cs : List Value} (ho : o.op = .load t x) (hx : ρ x = .pointer (some ⟨b, off, none⟩)) (hu : (P.underlying t).map TypeDesc.isRow = some true) (hi : (P.info? t).map (·.size) = some cs.length)
    (hc : ∀ j v, cs[j]? = some v → w.cell? ⟨b, off + j, none⟩ = some v) : (execOp ρ o).run P w = .ok (.value (.agg cs.toArray)) w := by
  obtain ⟨d, hd, hr⟩ := Option.map_eq_some_iff.1 hu
  have hl := run_loadVar_mid (P := P) w b off t cs d hc hd hr hi
  unfold execOp
  simp only [ho, Instr.loadAt, hx, Instr.sureAddr, Sem.run_bind, Sem.run_pure, Result.andThen_ok, hl]

/-! ### Stores -/
/-- Into an owned block, at an offset: the cells that a value has. -/
theorem run_store {ρ : Operand → Value} {x y : Operand} {t : TypeId} {b off : Nat} {cs us : List Value} {e : TypeId} {v : Value} (ho : o.op = .store t x y) (hx : ρ x = .pointer (some ⟨b, off, none⟩)) (hy : ρ y = v) (hv : v.cells = us.toArray)
    (hs : (P.info? t).map (·.size) = some us.length) (h1 : ∀ u ∈ us, u.oneCell' = true) (hb : w.heap[b]? = some (.cells cs.toArray e (0, 0))) (hlt : off + us.length ≤ cs.length) :
    (execOp ρ o).run P w = .ok .skip (w.setRow b (cs.take off ++ us ++ cs.drop (off + us.length)).toArray) := by
  obtain ⟨i, hi, hsz⟩ := Option.map_eq_some_iff.1 hs
  have hst := run_storeCells_at P b off e us 0 cs.toArray w hb (by simpa using hlt) h1
  simp only [Nat.add_zero] at hst
  unfold execOp
  simp [ho, Instr.storeAt, hx, hy, Instr.sureAddr, storeVar, sizeOf, typeInfo, hi, hv, hsz, hst]

theorem setRow_own (h : Own w H F) (i : Nat) {b : Nat} {cs : List Value} {e : TypeId} (hi : H[i]? = some (.ob b cs e)) (ds : List Value) : Own (w.setRow b ds.toArray) (H.set i (.ob b ds e)) F :=
  h.upd i hi _ rfl rfl rfl (fun k _ hk => setRow_other w b k _ (fun e => hk (by simp [Chk.fp, e]))) (setRow_heap w b _ _ e (0, 0) (h.blk i hi)) (fun b' hb' => .inl hb')

/-- A store into an owned block. -/
theorem wpl_store (i : Nat) {b off : Nat} {cs us : List Value} {e : TypeId} {v : Value} (hw : Own w H F) (hg : o.guard = none) {t : TypeId} {x y : Operand} (ho : o.op = .store t x y)
    (hi : H[i]? = some (.ob b cs e)) (hx : a.eval x = .pointer (some ⟨b, off, none⟩)) (hy : a.eval y = v) (hv : v.cells = us.toArray)
    (hs : (P.info? t).map (·.size) = some us.length) (h1 : ∀ u ∈ us, u.oneCell' = true) (hlt : off + us.length ≤ cs.length)
    (k : ∀ w', Own w' (H.set i (.ob b (cs.take off ++ us ++ cs.drop (off + us.length)) e)) F → wpList P ops Q rest (a.put o.dst undef) w') : wpList P ops Q (o :: rest) a w :=
  wpl_skp hg (run_store ho hx hy hv hs h1 (hw.blk i hi) hlt) (k _ (setRow_own hw i hi _))

/-- A store into an owned row. -/
theorem wpl_store_sl (i : Nat) {g n c off : Nat} {xs us : List Value} {e : TypeId} {sz : Nat} {v : Value} (hw : Own w H F) (hg : o.guard = none) {t : TypeId} {x y : Operand} (ho : o.op = .store t x y)
    (hi : H[i]? = some (.sl (.slice (some ⟨g, 0, none⟩) n c) e sz n xs)) (hx : a.eval x = .pointer (some ⟨g, off, none⟩)) (hy : a.eval y = v) (hv : v.cells = us.toArray)
    (hs : (P.info? t).map (·.size) = some us.length) (h1 : ∀ u ∈ us, u.oneCell' = true) (hlt : off + us.length ≤ xs.length)
    (k : ∀ w', Own w' (H.set i (.sl (.slice (some ⟨g, 0, none⟩) n c) e sz n (xs.take off ++ us ++ xs.drop (off + us.length)))) F → wpList P ops Q rest (a.put o.dst undef) w') : wpList P ops Q (o :: rest) a w := by
  obtain ⟨hl, h2⟩ := hw.get i hi
  rcases h2 with ⟨h2, _⟩ | ⟨g', cap, cur, hv', hcur, h3, h4, h5, h6⟩
  · cases h2
  simp only [Value.slice.injEq, Option.some.injEq, Addr.mk.injEq, true_and, and_true] at hv'
  obtain ⟨rfl, rfl⟩ := hv'
  have hmul : n * sz ≤ c * sz := Nat.mul_le_mul_right _ h3
  have hcl : cur.toList.length = c * sz := by simpa using h5
  have hfit : off + us.length ≤ cur.toList.length := by omega
  have hr := run_store (P := P) (w := w) (cs := cur.toList) (e := e) ho hx hy hv hs h1 (by simpa using hcur) hfit
  refine wpl_skp hg hr (k _ (hw.upd i hi _ rfl rfl rfl (fun k _ hk => setRow_other w g k _ (fun e => hk (by simp [Chk.fp, Value.ownBlock, e]))) ?_ (fun b' hb' => .inl hb')))
  refine ⟨?_, .inr ⟨g, c, _, rfl, setRow_heap w g cur _ e _ hcur, h3, h4, ?_, ?_⟩⟩
  · simp only [List.length_append, List.length_take, List.length_drop]; omega
  · simp only [List.size_toArray, List.length_append, List.length_take, List.length_drop]
    omega
  · have hx1 : xs = cur.toList.take (n * sz) := h6.symm
    have e1 : cur.toList.take off = xs.take off := by rw [hx1, List.take_take, Nat.min_eq_left (by omega)]
    have e2 : xs.drop (off + us.length) = (cur.toList.drop (off + us.length)).take (n * sz - (off + us.length)) := by rw [hx1, List.drop_take]
    rw [e1, e2]
    have l1 : (xs.take off ++ us).length = off + us.length := by simp only [List.length_append, List.length_take]; omega
    rw [List.take_append, List.take_of_length_le (by omega), l1]

/-! ### New memory -/
theorem wpl_box {e : TypeId} {x : Operand} {v : Value} (cs : List Value) (hw : Own w H F) (hg : o.guard = none) (ho : o.op = .box e x) (hx : a.eval x = v) (hv : v.cells = cs.toArray)
    (k : ∀ b w', Own w' (.ob b cs e :: H) F → wpList P ops Q rest (a.put o.dst (.pointer (some ⟨b, 0, none⟩))) w') : wpList P ops Q (o :: rest) a w := by
  refine wpl_val hg (v := .pointer (some ⟨w.heap.size, 0, none⟩)) (w' := w.alloc (.cells cs.toArray e)) ?_ (k _ _ (hw.alloc cs e))
  unfold execOp
  simp [ho, Instr.box, hx, newVar, newRow, hv]
theorem wpl_alloc {e : TypeId} {z : Value} (cs : List Value) (hw : Own w H F) (hg : o.guard = none) (ho : o.op = .alloc e) (hz : (P.info? e).map (·.zero) = some (some z)) (hv : z.cells = cs.toArray)
    (k : ∀ b w', Own w' (.ob b cs e :: H) F → wpList P ops Q rest (a.put o.dst (.pointer (some ⟨b, 0, none⟩))) w') : wpList P ops Q (o :: rest) a w := by
  obtain ⟨i, hi, hz⟩ := Option.map_eq_some_iff.1 hz
  refine wpl_val hg (v := .pointer (some ⟨w.heap.size, 0, none⟩)) (w' := w.alloc (.cells cs.toArray e)) ?_ (k _ _ (hw.alloc cs e))
  unfold execOp
  simp [ho, Instr.alloc, zeroValue, typeInfo, hi, hz, newVar, newRow, hv]
/-- A new row becomes a slice that is owned. -/
theorem Own.toSl {b : Nat} {cs : List Value} {e : TypeId} {sz n : Nat} (h : Own w (.ob b cs e :: H) F) (hl : cs.length = n * sz) (hn : n ≤ maxLen) : Own w (.sl (.slice (some ⟨b, 0, none⟩) n n) e sz n cs :: H) F := by
  have := h.upd 0 (c := .ob b cs e) rfl (.sl (.slice (some ⟨b, 0, none⟩) n n) e sz n cs) rfl rfl rfl (fun _ _ _ => rfl) ?_ (fun b' hb' => .inl hb')
  · simpa using this
  · exact ⟨hl, .inr ⟨b, n, cs.toArray, rfl, h.blk 0 rfl, Nat.le_refl _, hn, by simpa using hl, by simp [← hl]⟩⟩

theorem wpl_buildSlice {t e : TypeId} {len sz : Nat} {z : Value} {bytes : Nat} {parts : Array (Nat × Operand)} (cs : List Value) (hw : Own w H F) (hg : o.guard = none) (ho : o.op = .buildSlice t len parts)
    (ht : P.underlying t = some (.slice e)) (hi : (P.info? e).map (fun i => (i.zero, i.size, i.bytes)) = some (some z, sz, bytes)) (hsm : len * sz ≤ 16777216)
    (hf : Instr.fill (fun i => some (i * sz, sz)) ((Array.range (len * sz)).map (z.cells[· % z.cells.size]!)) (parts.map fun (i, x) => (i, a.eval x)).toList = some cs.toArray) (hl : cs.length = len * sz) (hln : len ≤ maxLen)
    (k : ∀ b w', Own w' (.sl (.slice (some ⟨b, 0, none⟩) len len) e sz len cs :: H) F → wpList P ops Q rest (a.put o.dst (.slice (some ⟨b, 0, none⟩) len len)) w') : wpList P ops Q (o :: rest) a w := by
  obtain ⟨i, hi, hz⟩ := Option.map_eq_some_iff.1 hi
  simp only [Prod.mk.injEq] at hz
  obtain ⟨hz1, hz2, hz3⟩ := hz
  refine wpl_val hg (v := .slice (some ⟨w.heap.size, 0, none⟩) len len) (w' := w.alloc (.cells cs.toArray e)) ?_ (k _ _ ((hw.alloc cs e).toSl hl hln))
  unfold execOp
  have hsm' : ¬ (len * sz > 16777216) := by omega
  by_cases h0 : len * sz = 0
  · have e0 : ∀ g : Nat → Value, (Array.range 0).map g = #[] := fun _ => by simp
    rw [h0, e0] at hf
    simp at hf
    simp [ho, Instr.buildSlice, run_underlying ht, sizeOf, typeInfo, hi, hz2, h0, newRow, e0]
    rw [hf]; rfl
  · simp [ho, Instr.buildSlice, run_underlying ht, sizeOf, typeInfo, hi, hz2, hsm', h0, newRow, zeroValue, hz1]
    simp at hf
    rw [hf]; rfl

theorem wpl_make {t e : TypeId} {sz n : Nat} {z : Value} {bytes : Nat} {l c : Operand} {kl kc : IntKind} (hw : Own w H F) (hg : o.guard = none) (ho : o.op = .makeSlice t l c)
    (ht : P.underlying t = some (.slice e)) (hi : (P.info? e).map (fun i => (i.zero, i.size, i.bytes)) = some (some z, sz, bytes)) (hl : a.eval l = .int kl (n : Int)) (hc : a.eval c = .int kc (n : Int)) (hb : bytes * n ≤ 281474976710656) (hn : n ≤ maxLen)
    (k : ∀ b w', Own w' (.sl (.slice (some ⟨b, 0, none⟩) n n) e sz n (madeCells z.cells (n * sz)).toList :: H) F → wpList P ops Q rest (a.put o.dst (.slice (some ⟨b, 0, none⟩) n n)) w') : wpList P ops Q (o :: rest) a w := by
  obtain ⟨ti, hti, hz⟩ := Option.map_eq_some_iff.1 hi
  simp only [Prod.mk.injEq] at hz
  obtain ⟨hz1, hz2, hz3⟩ := hz
  obtain ⟨w', hr, h1, h2⟩ := run_make_full (P := P) w 0 t e ti z sz ht hti hz1 hz2 kl kc n (by rw [hz3]; exact hb) hn (Nat.zero_le _)
  refine wpl_val hg (v := .slice (some ⟨w.heap.size, 0, none⟩) n n) (w' := w') ?_ (k w.heap.size w' (hw.cons_new ⟨h2.os, h2.tape, h2.output, h2.size, fun k hk => h2.block k hk (by simp)⟩ _ (sat_of_owns h1) (fun b hb => by simp only [Chk.fp, Value.ownBlock, Option.some.injEq] at hb; omega)))
  unfold execOp
  simp [ho, hl, hc, hr]

/-! ### Append -/
theorem wpl_append (i : Nat) {t e : TypeId} {sz bytes n m c : Nat} {z v : Value} {xs : List Value} {s x : Operand} {ad : Addr} (news : List Value) (hw : Own w H F) (hg : o.guard = none) (ho : o.op = .call { callee := .builtin .append, args := #[s, x], argTypes := #[t, t] })
    (hi : H[i]? = some (.sl v e sz n xs)) (ht : P.underlying t = some (.slice e)) (hE : (P.info? e).map (fun i => (i.zero, i.size, i.bytes)) = some (some z, sz, bytes)) (hz : z.cells.size = sz) (hsz : 0 < sz)
    (hs : a.eval s = v) (hx : a.eval x = .slice (some ad) m c) (hl : news.length = m * sz) (hnews : ∀ j u, news[j]? = some u → w.cell? (ad.add j) = some u) (h1 : ∀ u ∈ news, u.oneCell' = true)
    (h63 : n + m ≤ maxLen) (hbytes : (n + m) * bytes ≤ 140737488355328)
    (k : ∀ v' w', Own w' (H.set i (.sl v' e sz (n + m) (xs ++ news))) F → wpList P ops Q rest (a.put o.dst v') w') : wpList P ops Q (o :: rest) a w := by
  obtain ⟨ti, hti, hz'⟩ := Option.map_eq_some_iff.1 hE
  simp only [Prod.mk.injEq] at hz'
  obtain ⟨hz1, hz2, hz3⟩ := hz'
  refine wpList_append_own_at (P := P) w hg s x t ho 0 e ti z sz bytes ht hti hz1 hz2 hz3 hz hsz v n xs hs (hw.owns i hi) ad m c news hx hl hnews h1 h63 hbytes (Nat.zero_le _) ?_
  intro v' w' hown hgr _ hat
  have hlt := hgr.size
  refine k v' w' (hw.upd i hi _ hgr.os hgr.tape hgr.output (fun k hk hne => hgr.block k hk (fun e => hne (by simp [Chk.fp, ← e]))) (sat_of_owns hown) ?_)
  intro b hb
  rcases hat with hat | hat
  · exact .inl (hat.symm.trans hb)
  · rw [Chk.fp, hat] at hb; cases hb; exact .inr (Nat.le_refl _)
end Go.Proofs.Ytbpbhjnkmonlbaa.Sl
