/- More words: pieces in any order, rows of the frame, numbers of a row. No condition. -/
import Derived.Test.YtbpbhjnkmonlbaaSr
import Derived.Laws.StructEq
import Derived.Laws.BytesArg
import Derived.ChangeKeysEq
import Derived.LoopN
namespace Go.Proofs.Ytbpbhjnkmonlbaa.Sl
open Go.RowKit
set_option linter.unusedVariables false
set_option linter.unusedSimpArgs false
section
variable {P : Program} {n : Nat} {F : Frm} {E : Ev} {H : Hp} {dst : Option Tmp} {ty : TypeId} {pos : String} {after : Array Edge} {guard : Option (Nat × Bool)}

theorem Own.perm {w : World} {H H' : Hp} (h : Own w H F) (hp : H.Perm H') : Own w H' F :=
  ⟨h.os, h.tape, h.output, fun c hc => h.mem c (hp.mem_iff.2 hc), (hp.filterMap _).nodup_iff.1 h.nd, h.fr, fun c hc => h.ap c (hp.mem_iff.2 hc)⟩
theorem at_perm {G : Act → World → Prop} {H' : Hp} (hp : H.Perm H') (h : At n F E H' G) : At n F E H G := fun a w he hw => h a w he (hw.perm hp)
theorem SC.perm {f : FuncId} {args : Array Value} {H' : Hp} {R : Value → Hp → Prop} (hp : H.Perm H') (h : SC P f args H' F R) : SC P f args H F R := fun w hw => h w (hw.perm hp)
/-- What is left, in another order. -/
theorem SC.postPerm {f : FuncId} {args : Array Value} {R R' : Value → Hp → Prop} (h : SC P f args H F R) (hr : ∀ v H', R v H' → ∃ H'', H'.Perm H'' ∧ R' v H'') : SC P f args H F R' := fun w hw =>
  (h w hw).mono fun _ _ ⟨v, H', e, r, o⟩ => by
    obtain ⟨H'', hp, hr'⟩ := hr v H' r
    exact ⟨v, H'', e, hr', o.perm hp⟩
/-- The slice that is nil holds nothing of its own. -/
theorem Own.nilsl {w : World} (h : Own w H F) (e : TypeId) (sz : Nat) : Own w (.sl (.slice none 0 0) e sz 0 [] :: H) F :=
  h.cons_new (Below.refl _ _) _ ⟨by simp, .inl ⟨rfl, rfl⟩⟩ (fun b hb => by simp [Chk.fp, Value.ownBlock] at hb)
theorem at_nilsl (e : TypeId) (sz : Nat) {G : Act → World → Prop} (h : At n F E (.sl (.slice none 0 0) e sz 0 [] :: H) G) : At n F E H G := fun a w he hw => h a w he (hw.nilsl e sz)
/-- A call that is handed H1. -/
theorem l_callP {c : Operand} {f : FuncId} {first : List Value} {xs : Array Operand} {vs : List Value} {ats : Array TypeId} {R : Value → Hp → Prop} {H1 H2 : Hp} (hp : H.Perm (H1 ++ H2)) (hc : ev E c = some (.func (.func f) first.toArray #[])) (hf : callB P f = true) (hv : evl E xs.toList = some vs)
    (h : ∀ F', F.le F' → (∀ c ∈ H2, c.sat F'.heap) → SC P f (first ++ vs).toArray H1 F' R) :
    LOp P n F { dst, op := .call { callee := .value c, args := xs, argTypes := ats }, type := ty, pos, after, guard } E H (fun u H' => ∃ K, R u K ∧ H' = K ++ H2) := fun a w he hw Q K k => by
  have hr := run_call (P := P) (w := w) (dst := dst) (ty := ty) (pos := pos) (after := after) (guard := guard) (xs := xs) (ats := ats) (he.ev hc) hf
  have hargs : first.toArray ++ xs.map a.eval = (first ++ vs).toArray := by
    rw [← evl_spec he _ _ hv]; apply Array.ext'; simp
  rw [hargs] at hr
  unfold Oper.wp
  rw [hr]
  simp only [Oper.upon]
  refine (callSl (hw.perm hp) h).mono ?_
  rintro e w' ⟨v, H', rfl, ⟨K', hR, rfl⟩, ho⟩
  exact k _ _ _ ⟨K', hR, rfl⟩ ho

/-- A truth is one of two. -/
theorem at_split {G : Act → World → Prop} (t : Nat) {b : Bool} (hb : lk E t = some (.bool b)) (hT : b = true → At n F ((t, .bool true) :: E) H G) (hF : b = false → At n F ((t, .bool false) :: E) H G) : At n F E H G := fun a w he hw => by
  have key : ∀ c, b = c → Env n a ((t, .bool c) :: E) := fun c hc => ⟨he.defers, he.size, fun k v hk => by
    simp only [lk] at hk
    cases h : t == k with
    | true => rw [h] at hk; cases hk; have := eq_of_beq h; subst this; subst hc; exact he.at_ _ _ hb
    | false => rw [h] at hk; exact he.at_ _ _ hk⟩
  cases b with
  | true => exact hT rfl a w (key _ rfl) hw
  | false => exact hF rfl a w (key _ rfl) hw
theorem rd_split {HS : Hp} {l : List Oper} {Q : Exit → Act → World → Prop} {B D L σ : List Nat} (t : Nat) {b : Bool} (hb : lk E t = some (.bool b)) (hT : b = true → Rd P n F l Q HS B D L σ ((t, .bool true) :: E) H) (hF : b = false → Rd P n F l Q HS B D L σ ((t, .bool false) :: E) H) : Rd P n F l Q HS B D L σ E H := fun a he => by
  have key : ∀ c, b = c → Env n a ((t, .bool c) :: E) := fun c hc => ⟨he.defers, he.size, fun k v hk => by
    simp only [lk] at hk
    cases h : t == k with
    | true => rw [h] at hk; cases hk; have := eq_of_beq h; subst this; subst hc; exact he.at_ _ _ hb
    | false => rw [h] at hk; exact he.at_ _ _ hk⟩
  cases b with
  | true => exact hT rfl a (key _ rfl)
  | false => exact hF rfl a (key _ rfl)
theorem at_cond_t {Q : Exit → Act → World → Prop} {c : Operand} {x y : Code} (hc : ev E c = some (.bool true)) (h : At n F E H (x.wp P Q)) : At n F E H ((Code.cond c x y).wp P Q) := at_cond hc (fun _ => h) (fun h => nomatch h)
theorem at_cond_f {Q : Exit → Act → World → Prop} {c : Operand} {x y : Code} (hc : ev E c = some (.bool false)) (h : At n F E H (y.wp P Q)) : At n F E H ((Code.cond c x y).wp P Q) := at_cond hc (fun h => nomatch h) (fun _ => h)

/-! ### Rows of the frame -/
/-- At A, and on, the frame holds these cells. -/
def FV (F : Frm) (A : Option Addr) (cs : List Value) : Prop := 0 < cs.length → ∃ b off, A = some ⟨b, off, none⟩ ∧ ∀ (j : Nat) (u : Value), cs[j]? = some u → F.cell? ⟨b, off + j, none⟩ = some u
theorem FV.mono {F' : Frm} {A : Option Addr} {cs : List Value} (h : FV F A cs) (hl : F.le F') : FV F' A cs := fun h0 => by
  obtain ⟨b, off, hA, hc⟩ := h h0
  refine ⟨b, off, hA, fun j u hu => ?_⟩
  have := hc j u hu
  unfold Frm.cell? at this ⊢
  simp only at this ⊢
  split at this
  · rename_i c t f hb
    rw [hl _ _ hb]; exact this
  · cases this
theorem FV.nil {A : Option Addr} : FV F A [] := fun h => absurd h (by simp)
theorem FV.drop {b off c k : Nat} {cs : List Value} (h : FV F (some ⟨b, off, none⟩) cs) (k : Nat) : FV F (some ⟨b, off + k, none⟩) (cs.drop k) := fun h0 => by
  simp only [List.length_drop] at h0
  obtain ⟨b', off', hA, hc⟩ := h (by omega)
  simp only [Option.some.injEq, Addr.mk.injEq, and_true] at hA
  obtain ⟨rfl, rfl⟩ := hA
  refine ⟨_, _, rfl, fun j u hu => ?_⟩
  rw [List.getElem?_drop] at hu
  rw [Nat.add_assoc]; exact hc _ u hu
theorem FV.take {A : Option Addr} {cs : List Value} (h : FV F A cs) (k : Nat) : FV F A (cs.take k) := fun h0 => by
  obtain ⟨b, off, hA, hc⟩ := h (by rw [List.length_take] at h0; omega)
  refine ⟨b, off, hA, fun j u hu => hc j u ?_⟩
  rw [List.getElem?_take] at hu
  split at hu
  · exact hu
  · cases hu
theorem fv_of_ob {b : Nat} {cs : List Value} {e : TypeId} (h : (Chk.ob b cs e).sat F.heap) : FV F (some ⟨b, 0, none⟩) cs := fun _ => ⟨b, 0, rfl, fun j u hu => by
  simp only [Chk.sat] at h
  unfold Frm.cell?
  simp [h, hu]⟩
theorem fv_of_sl {v : Value} {e : TypeId} {sz m : Nat} {cs : List Value} (h : (Chk.sl v e sz m cs).sat F.heap) : ∃ A c, v = .slice A m c ∧ cs.length = m * sz ∧ m ≤ c ∧ FV F A cs := by
  obtain ⟨h1, h2⟩ := h
  rcases h2 with ⟨rfl, rfl⟩ | ⟨g, cap, cur, rfl, hg, h3, h4, h5, h6⟩
  · refine ⟨none, 0, rfl, h1, Nat.le_refl _, ?_⟩
    have : cs = [] := List.length_eq_zero_iff.1 (by omega)
    subst this; exact FV.nil
  · refine ⟨_, cap, rfl, h1, h3, fun _ => ⟨g, 0, rfl, fun j u hu => ?_⟩⟩
    unfold Frm.cell?
    rw [← h6, List.getElem?_take] at hu
    split at hu
    · simp [hg]; simpa using hu
    · cases hu
theorem fv_slice {A : Option Addr} {e : TypeId} {sz m c : Nat} {cs : List Value} (h : (Chk.sl (.slice A m c) e sz m cs).sat F.heap) : FV F A cs := by
  obtain ⟨A', c', hv, _, _, hf⟩ := fv_of_sl h
  cases hv; exact hf
/-- Numbers of one kind. -/
abbrev ints (k : IntKind) (xs : List Int) : List Value := xs.map (Value.int k)
def gi (xs : List Int) (i : Int) : Int := xs.getD i.toNat 0
theorem gi_get {xs : List Int} {i : Int} (h0 : 0 ≤ i) (h : i < xs.length) : xs[i.toNat]? = some (gi xs i) := by
  unfold gi
  rw [List.getD_eq_getElem?_getD, List.getElem?_eq_getElem (by omega)]; rfl
theorem ints_get {k : IntKind} {xs : List Int} {i : Int} (h0 : 0 ≤ i) (h : i < xs.length) : (ints k xs)[i.toNat]? = some (.int k (gi xs i)) := by
  rw [List.getElem?_map, gi_get h0 h]; rfl
/-- A read of a row of numbers in the frame. -/
theorem FV.int {k : IntKind} {A : Option Addr} {xs : List Int} (h : FV F A (ints k xs)) {i : Int} (h0 : 0 ≤ i) (hi : i < xs.length) : ∃ b off, A = some ⟨b, off, none⟩ ∧ F.cell? ⟨b, off + i.toNat, none⟩ = some (.int k (gi xs i)) := by
  obtain ⟨b, off, hA, hc⟩ := h (by simp; omega)
  exact ⟨b, off, hA, hc _ _ (ints_get h0 hi)⟩
theorem p_iaO {t : TypeId} {x i : Operand} {g o m c sz : Nat} {k : IntKind} {j : Int} (hx : ev E x = some (.slice (some ⟨g, o, none⟩) m c)) (hi : ev E i = some (.int k j)) (hs : elSize P t = some sz) (h0 : 0 ≤ j) (h1 : j < m) :
    POp P n { dst, op := .indexAddr t x i, type := ty, pos, after, guard } E (.pointer (some ⟨g, o + j.toNat * sz, none⟩)) := by
  have := p_ia (n := n) (dst := dst) (ty := ty) (pos := pos) (after := after) (guard := guard) hx hi hs h0 h1
  rwa [add_at] at this
theorem p_iaO1 {t : TypeId} {x i : Operand} {g o m c : Nat} {k : IntKind} {j : Int} (hx : ev E x = some (.slice (some ⟨g, o, none⟩) m c)) (hi : ev E i = some (.int k j)) (hs : elSize P t = some 1) (h0 : 0 ≤ j) (h1 : j < m) :
    POp P n { dst, op := .indexAddr t x i, type := ty, pos, after, guard } E (.pointer (some ⟨g, o + j.toNat, none⟩)) := by
  have := p_ia (n := n) (dst := dst) (ty := ty) (pos := pos) (after := after) (guard := guard) hx hi hs h0 h1
  rwa [add_at, Nat.mul_one] at this

/-! ### Pairs of numbers -/
/-- A struct of two numbers. -/
def pairB (P : Program) (t : TypeId) : Option (List (Bool × Nat × TypeId × Bool) × Bool) := match P.underlying t with
  | some (.struct fs) => some (fs.toList.map fun f => (f.name == "_", f.offset, f.type, P.plainKey f.type), P.stoodInHeld t || P.eqGuardType P.depth t)
  | _ => none
theorem eqf_two {w : World} {d : Nat} {xs ys : Array Value} {f g : Field} {a b c e : Value} {r s : Bool} (hf : (f.name == "_") = false) (hg : (g.name == "_") = false)
    (ha : (part f.type xs f.offset).run P w = .ok a w) (hb : (part f.type ys f.offset).run P w = .ok b w) (hr : (Op.equalIn d f.type a b).run P w = .ok r w)
    (hc : (part g.type xs g.offset).run P w = .ok c w) (he : (part g.type ys g.offset).run P w = .ok e w) (hs : (Op.equalIn d g.type c e).run P w = .ok s w) :
    (Op.eqFields d xs ys [f, g]).run P w = .ok (r && s) w := by
  have hf' : f.name ≠ "_" := by simpa using hf
  have hg' : g.name ≠ "_" := by simpa using hg
  cases r <;> cases s <;> simp [Op.eqFields, if_pos hf', if_pos hg', Sem.run_bind, ha, hb, hr, hc, he, hs, Result.andThen_ok]
theorem p_eqP {t t' t1 t2 : TypeId} {x y : Operand} {a b c d : Int} {k1 k2 q1 q2 : IntKind} (hx : ev E x = some (.agg #[.int k1 a, .int k2 b])) (hy : ev E y = some (.agg #[.int k1 c, .int k2 d]))
    (hp : pairB P t = some ([(false, 0, t1, true), (false, 1, t2, true)], false)) (h1 : P.underlying t1 = some (.int q1)) (h2 : P.underlying t2 = some (.int q2)) :
    POp P n { dst, op := .binOp .eql t x y t', type := ty, pos, after, guard } E (.bool (decide (a = c) && decide (b = d))) := fun A w he => by
  unfold pairB at hp
  split at hp
  · rename_i fs hu
    simp only [Option.some.injEq, Prod.mk.injEq] at hp
    obtain ⟨hl, hst⟩ := hp
    rw [Bool.or_eq_false_iff] at hst
    obtain ⟨hst, hgu⟩ := hst
    obtain ⟨f, g, hfs⟩ : ∃ f g, fs.toList = [f, g] := by
      match h : fs.toList with
      | [] => rw [h] at hl; simp at hl
      | [_] => rw [h] at hl; simp at hl
      | [f, g] => exact ⟨f, g, rfl⟩
      | _ :: _ :: _ :: _ => rw [h] at hl; simp at hl
    rw [hfs] at hl
    simp only [List.map_cons, List.map_nil, List.cons.injEq, Prod.mk.injEq, and_true] at hl
    obtain ⟨⟨hf1, hf2, hf3, hf4⟩, hg1, hg2, hg3, hg4⟩ := hl
    have hfo : P.fieldsOf t = fs := by simp [Program.fieldsOf, hu]
    have h0 : (Op.equal t (.agg #[.int k1 a, .int k2 b]) (.agg #[.int k1 c, .int k2 d])).run P w = .ok (a == c && b == d) w := by
      refine (run_equalIn_struct (P := P) w 9999 t _ _ (by rw [hfo]; exact hu) hst).trans ?_
      rw [hfo, hfs]
      refine eqf_two hf1 hg1 (run_part_plain (P := P) (w := w) hf4 (by rw [hf2]; rfl)) (run_part_plain (P := P) (w := w) hf4 (by rw [hf2]; rfl)) ?_ (run_part_plain (P := P) (w := w) hg4 (by rw [hg2]; rfl)) (run_part_plain (P := P) (w := w) hg4 (by rw [hg2]; rfl)) ?_
      · exact run_equalIn_int w 9998 _ _ _ _ _ (by rw [hf3]; exact h1)
      · exact run_equalIn_int w 9998 _ _ _ _ _ (by rw [hg3]; exact h2)
    have h2 : binOp .eql t (.agg #[.int k1 a, .int k2 b]) (.agg #[.int k1 c, .int k2 d]) = (do pure (.bool (← Op.equal t (.agg #[.int k1 a, .int k2 b]) (.agg #[.int k1 c, .int k2 d])))) := rfl
    have h3 : (eqGuard .eql t x y (.agg #[.int k1 a, .int k2 b]) (.agg #[.int k1 c, .int k2 d])).run P w = .ok () w := by
      simp [eqGuard, hgu]
    unfold execOp; simp only [he.ev hx, he.ev hy, h2, h3, Sem.run_bind, Sem.run_pure, Result.andThen_ok, h0]
    rfl
  · cases hp

/-! ### Parts of rows and texts -/
theorem p_sliceL {t : TypeId} {x i : Operand} {A : Option Addr} {m c sz : Nat} {k : IntKind} {j : Int} (hx : ev E x = some (.slice A m c)) (hi : ev E i = some (.int k j)) (hs : elSize P t = some sz) (h0 : 0 ≤ j) (h1 : j ≤ m) :
    POp P n { dst, op := .slice t x (some i) none none, type := ty, pos, after, guard } E (.slice (if c = j.toNat then A else A.map (·.add (j.toNat * sz))) (m - j.toNat) (c - j.toNat)) := fun a w he => by
  unfold elSize at hs
  split at hs <;> try cases hs
  rename_i e ht
  obtain ⟨ti, hti, rfl⟩ := Option.map_eq_some_iff.1 hs
  unfold execOp
  simp [he.ev hx, he.ev hi, Instr.sliceAt, Instr.slice, Instr.sliceBounds, Instr.sliceBound, asIntOf, run_underlying ht, sizeOf, typeInfo, hti, h0, h1]
theorem p_sliceH {t : TypeId} {x i : Operand} {A : Option Addr} {m c sz : Nat} {k : IntKind} {j : Int} (hx : ev E x = some (.slice A m c)) (hi : ev E i = some (.int k j)) (hs : elSize P t = some sz) (h0 : 0 ≤ j) (h1 : j ≤ c) :
    POp P n { dst, op := .slice t x none (some i) none, type := ty, pos, after, guard } E (.slice (if c = 0 then A else A.map (·.add 0)) j.toNat c) := fun a w he => by
  unfold elSize at hs
  split at hs <;> try cases hs
  rename_i e ht
  obtain ⟨ti, hti, rfl⟩ := Option.map_eq_some_iff.1 hs
  unfold execOp
  simp [he.ev hx, he.ev hi, Instr.sliceAt, Instr.slice, Instr.sliceBounds, Instr.sliceBound, asIntOf, run_underlying ht, sizeOf, typeInfo, hti, h0, h1]
theorem p_cutH {t : TypeId} {x i : Operand} {s : ByteArray} {k : IntKind} {j : Int} (hx : ev E x = some (.string s)) (hi : ev E i = some (.int k j)) (ht : P.underlying t = some .string) (h0 : 0 ≤ j) (h1 : j ≤ s.size) :
    POp P n { dst, op := .slice t x none (some i) none, type := ty, pos, after, guard } E (.string (s.extract 0 j.toNat)) := fun a w he => by
  unfold execOp
  simp [he.ev hx, he.ev hi, Instr.sliceAt, Instr.slice, Instr.sliceBounds, Instr.sliceBound, asIntOf, run_underlying ht, h0, h1]
theorem FV.sliceH {A : Option Addr} {cs : List Value} {c : Nat} (h : FV F A cs) : FV F (if c = 0 then A else A.map (·.add 0)) cs := fun h0 => by
  obtain ⟨b, off, hA, hc⟩ := h h0
  refine ⟨b, off, ?_, hc⟩
  subst hA
  split <;> simp [add_at]
theorem FV.sliceL {A : Option Addr} {cs : List Value} {m c sz j : Nat} (h : FV F A cs) (hl : cs.length = m * sz) (hj : j ≤ m) (hc : m ≤ c) : FV F (if c = j then A else A.map (·.add (j * sz))) (cs.drop (j * sz)) := fun h0 => by
  rw [List.length_drop, hl, ← Nat.sub_mul] at h0
  have hp : 0 < m - j := Nat.pos_of_mul_pos_right h0 |> fun _ => by
    rcases Nat.eq_zero_or_pos (m - j) with e | e
    · rw [e] at h0; simp at h0
    · exact e
  have hz : 0 < cs.length := by
    have : (m - j) * sz ≤ m * sz := Nat.mul_le_mul_right _ (by omega)
    omega
  obtain ⟨b, off, hA, hg⟩ := h hz
  subst hA
  rw [if_neg (by omega)]
  refine ⟨b, off + j * sz, by simp [add_at], fun i u hu => ?_⟩
  rw [List.getElem?_drop] at hu
  rw [Nat.add_assoc]; exact hg _ u hu
/-- Bytes as a text. -/
theorem q_str {t u e : TypeId} {x : Operand} {v : Value} {m : Nat} {xs : List Int} (i : Nat) (hi : H[i]? = some (.sl v e 1 m (xs.map (Value.int .u8)))) (hx : ev E x = some v) {e' : TypeId} (hs : P.underlying t = some (.slice e')) (he' : P.underlying e' = some (.int .u8)) (hd : P.underlying u = some .string) :
    QOp P n F { dst, op := .convert t u x, type := ty, pos, after, guard } E H (.string (strOfNums xs)) := fun a w he hw => by
  obtain ⟨h1, h2⟩ := hw.get i hi
  have key : (convert t u v).run P w = .ok (.string (strOfNums xs)) w := by
    rcases h2 with ⟨rfl, rfl⟩ | ⟨g, cap, cur, rfl, hg, r⟩
    · have : xs = [] := List.length_eq_zero_iff.1 (by simpa using h1)
      subst this
      exact run_convert_bytes_nil w t e' hs he' 0 0 u hd
    · refine run_convert_bytes_arg w t e' hs he' g 0 m cap xs (by simpa using h1) (fun j hj => ?_) u hd
      have := hw.slcell (j := j) i hi (by omega)
      rw [Nat.zero_add, this, List.getElem?_map, List.getD_eq_getElem?_getD, List.getElem?_eq_getElem (by simp at h1; omega)]
      rfl
  unfold execOp
  simp only [he.ev hx, Sem.run_bind, key, Result.andThen_ok, Sem.run_pure]
  exact ⟨rfl, rfl⟩

/-- One result, a struct in a variable; these pieces alone are kept. -/
theorem fin_cd {R : Value → Hp → Prop} {fn : Func} {t : Tmp} {ty : TypeId} {b : Nat} {cs : List Value} {e : TypeId} (i : Nat) (is : List Nat) (hn : is.Nodup) (hr : fn.results = #[.cell t ty]) (hv : lk E t = some (.pointer (some ⟨b, 0, none⟩))) (hi : H[i]? = some (.ob b cs e)) (hu : rowB P ty = some true) (hs : szB P ty = some cs.length) (h : R (.agg cs.toArray) (pick H is)) : At n F E H (bodyPost P fn (SPost R F) .ret) := fun a w he hw => by
  obtain ⟨h1, v, h2, u, H', h3, h4, h5⟩ := fin_c (R := fun v H' => v = .agg cs.toArray ∧ H' = H) i hr hv hi hu hs ⟨rfl, rfl⟩ a w he hw
  obtain ⟨rfl, rfl⟩ := h4
  exact ⟨h1, v, h2, _, _, h3, h, h5.re is hn⟩

/-! ### A loop, round by round -/
theorem at_rounds {Q : Exit → Act → World → Prop} {c : Code} (k : Nat) (h : At n F E H (Code.rounds P c Q k)) : At n F E H ((Code.loop c).wp P Q) := fun a w he hw => wp_loop_rounds k (h a w he hw)
theorem at_round {Q : Exit → Act → World → Prop} {c : Code} {k : Nat} (h : At n F E H (c.wp P (Exit.then (Code.rounds P c Q k) Q))) : At n F E H (Code.rounds P c Q (k + 1)) := h
/-- An array's part. -/
theorem p_idxA {t e : TypeId} {x i : Operand} {vs : Array Value} {l : Nat} {k : IntKind} {j : Int} {v : Value} (hx : ev E x = some (.agg vs)) (hi : ev E i = some (.int k j)) (ht : P.underlying t = some (.array l e)) (he' : rowB P e = some false) (hz : szB P e = some 1) (h0 : 0 ≤ j) (h1 : j < l) (hv : vs[j.toNat]? = some v) :
    POp P n { dst, op := .index t x i, type := ty, pos, after, guard } E v := fun a w he => by
  obtain ⟨d, hd, hdr⟩ := Option.map_eq_some_iff.1 he'
  obtain ⟨ti, hti, hsz⟩ := Option.map_eq_some_iff.1 hz
  have hag : (isAgg e).run P w = .ok false w := by
    simp only [isAgg, Sem.run_bind, run_underlying hd, Result.andThen_ok]
    cases d <;> first | rfl | simp [TypeDesc.isRow] at hdr
  unfold execOp
  simp [he.ev hx, he.ev hi, Instr.index, asIntOf, run_underlying ht, sizeOf, typeInfo, hti, hsz, h0, h1, part, hag, hv]
theorem perm_focus {α : Type} : ∀ (l : List α) (d : Nat) (x : α), l[d]? = some x → l.Perm (x :: l.eraseIdx d)
  | [], _, _, h => by simp at h
  | y :: l, 0, x, h => by simp at h; subst h; exact .refl _
  | y :: l, d + 1, x, h => by
    simp only [List.getElem?_cons_succ] at h
    simp only [List.eraseIdx_cons_succ]
    exact ((perm_focus l d x h).cons y).trans (.swap _ _ _)
theorem perm_set {α : Type} : ∀ (l : List α) (d : Nat) (x : α), d < l.length → (l.set d x).Perm (x :: l.eraseIdx d)
  | [], _, _, h => by simp at h
  | y :: l, 0, x, _ => by simp
  | y :: l, d + 1, x, h => by
    simp only [List.set_cons_succ, List.eraseIdx_cons_succ]
    exact ((perm_set l d x (by simpa using h)).cons y).trans (.swap _ _ _)
/-- One piece is let go. -/
theorem at_dropAt {G : Act → World → Prop} (i : Nat) {c : Chk} {H' : Hp} (hi : H[i]? = some c) (he : H.eraseIdx i = H') (h : At n F E H' G) : At n F E H G := at_perm (perm_focus H i c hi) (at_drop (he ▸ h))
theorem SC.shape {f : FuncId} {args : Array Value} {e : TypeId} {sz m : Nat} {xs : List Value} (h : SC P f args H F (fun u H' => H' = [.sl u e sz m xs])) :
    SC P f args H F (fun u H' => ∃ A c, u = .slice A m c ∧ m ≤ c ∧ (0 < m → ∃ g, A = some ⟨g, 0, none⟩) ∧ H' = [.sl u e sz m xs]) := fun w hw =>
  (h w hw).mono fun _ _ ⟨v, H', e1, r, o⟩ => by
    subst r
    obtain ⟨A, c, h1, h2, _, _, h5⟩ := o.shape 0 rfl
    exact ⟨v, _, e1, ⟨A, c, h1, h2, h5, rfl⟩, o⟩
theorem at_shapeM {G : Act → World → Prop} (i : Nat) {v : Value} {e : TypeId} {sz m : Nat} {xs : List Value} (hi : H[i]? = some (.sl v e sz m xs))
    (h : ∀ A c, v = .slice A m c → m ≤ c → c ≤ maxLen → (0 < m → ∃ g, A = some ⟨g, 0, none⟩) → At n F E H G) : At n F E H G := fun a w he hw => by
  obtain ⟨A, c, h1, h2, h3, _, h4⟩ := hw.shape i hi
  exact h A c h1 h2 h3 h4 a w he hw
theorem p_to {o : Oper} {v v' : Value} (h : POp P n o E v) (e : v = v') : POp P n o E v' := e ▸ h
theorem p_isT {o : Oper} {b : Bool} (h : POp P n o E (.bool b)) (e : b = true) : POp P n o E (.bool true) := e ▸ h
theorem p_isF {o : Oper} {b : Bool} (h : POp P n o E (.bool b)) (e : b = false) : POp P n o E (.bool false) := e ▸ h
/-- Where ways meet: one state for all. -/
theorem at_mid {Q : Exit → Act → World → Prop} {x y : Code} (J : Ev → Hp → Prop) (h1 : At n F E H (x.wp P (Exit.then (fun a w => ∃ E' H', J E' H' ∧ Env n a E' ∧ Own w H' F) Q))) (h2 : ∀ E' H', J E' H' → At n F E' H' (y.wp P Q)) : At n F E H (x.wp P (Exit.then (y.wp P Q) Q)) := fun a w he hw => by
  refine Code.wp_mono ?_ (h1 a w he hw)
  intro e a' w' hq
  cases e with
  | normal => obtain ⟨E', H', hj, he', hw'⟩ := hq; exact h2 E' H' hj a' w' he' hw'
  | exit id => exact hq
  | goto l => exact hq
  | ret => exact hq
  | panic ch => exact hq
  | outgrown => exact hq
theorem at_meet {J : Ev → Hp → Prop} (hJ : J E H) : At n F E H (fun a w => ∃ E' H', J E' H' ∧ Env n a E' ∧ Own w H' F) := fun _ _ he hw => ⟨E, H, hJ, he, hw⟩
/-- Onto an owned row, what another row holds, be it nothing. -/
theorem l_appA {t e e' : TypeId} {sz sz' bytes l m c : Nat} {A : Option Addr} {zc : Array Value} {v : Value} {xs news : List Value} {s x : Operand} (i j : Nat) (hi : H[i]? = some (.sl v e sz l xs)) (hj : H[j]? = some (.sl (.slice A m c) e' sz' m news))
    (hE : elB P t = some (e, sz, bytes, zc)) (hzs : zc.size = sz) (hsz : 0 < sz) (hs : ev E s = some v) (hx : ev E x = some (.slice A m c)) (hl : news.length = m * sz) (h1 : ∀ u ∈ news, u.oneCell' = true) (hb0 : 0 < bytes) (hbytes : (l + m) * bytes ≤ 140737488355328) (hz' : sz' = sz) :
    LOp P n F { dst, op := .call { callee := .builtin .append, args := #[s, x], argTypes := #[t, t] }, type := ty, pos, after, guard } E H (fun u H' => ∃ A' c', u = .slice A' (l + m) c' ∧ H' = H.set i (.sl (.slice A' (l + m) c') e sz (l + m) (xs ++ news))) := fun a w he hw Q K k => by
  subst hz'
  obtain ⟨ti, z, ht, hti, hz, h6, rfl, rfl⟩ := elB_spec hE
  have hlm : l + m ≤ maxLen := by
    have := Nat.le_trans (Nat.le_mul_of_pos_right (l + m) hb0) hbytes
    simp only [maxLen]; omega
  have hsat := hw.get j hj
  rcases hsat.2 with ⟨h0, rfl⟩ | ⟨g, cap, cur, h0, _⟩
  · simp only [Value.slice.injEq] at h0
    obtain ⟨rfl, _, rfl⟩ := h0
    have hn : news = [] := List.length_eq_zero_iff.1 (by omega)
    subst hn
    have hr := run_append_owned_none (P := P) w 0 t ty e ti sz' ht hti v l xs (hw.owns i hi)
    obtain ⟨A', c', rfl, _⟩ := hw.shape i hi
    refine wp_val (v := .slice A' l c') (w' := w) ?_ (k _ _ _ ⟨A', c', rfl, ?_⟩ hw)
    · unfold execOp
      simp only [resolve, invoke, builtin, Sem.run_bind, Sem.run_pure, Result.andThen_ok, List.map_toArray, List.map_cons, List.map_nil, he.ev hs, he.ev hx, hr]
    · simp only [Nat.add_zero, List.append_nil]
      obtain ⟨hlt, hget⟩ := List.getElem?_eq_some_iff.1 hi
      rw [← hget]; exact (List.set_getElem_self hlt).symm
  · simp only [Value.slice.injEq] at h0
    obtain ⟨rfl, _, rfl⟩ := h0
    have hnews : ∀ j' u, news[j']? = some u → w.cell? ((⟨g, 0, none⟩ : Addr).add j') = some u := by
      intro j' u hu
      rw [add_at, Nat.zero_add, hw.slcell j hj j' ?_]
      · exact hu
      · rw [← (hw.owns j hj).1]; exact (List.getElem?_eq_some_iff.1 hu).1
    obtain ⟨v', w', hr, h2, hgr, _, hat⟩ := run_append_own_at (P := P) w 0 t ty e ti z ti.size ti.bytes ht hti hz rfl rfl (by rw [hzs, h6]) (by omega) v l xs (by rw [h6]; exact hw.owns i hi) ⟨g, 0, none⟩ m c news (by rw [h6]; exact hl) hnews h1 hlm hbytes (Nat.zero_le _)
    obtain ⟨A', c', rfl⟩ : ∃ A' c', v' = .slice A' (l + m) c' := by
      rcases h2.2 with ⟨hv, h0⟩ | ⟨g', c', _, hv, _⟩
      · exact ⟨none, 0, by rw [hv, h0]⟩
      · exact ⟨_, c', hv⟩
    rw [h6] at h2
    refine wp_val (v := .slice A' (l + m) c') (w' := w') ?_ (k _ _ _ ⟨A', c', rfl, rfl⟩ (hw.upd i hi _ hgr.os hgr.tape hgr.output (fun k hk hne => hgr.block k hk (fun e => hne (by simp [Chk.fp, ← e]))) (sat_of_owns h2) ?_))
    · unfold execOp
      simp only [resolve, invoke, builtin, Sem.run_bind, Sem.run_pure, Result.andThen_ok, List.map_toArray, List.map_cons, List.map_nil, he.ev hs, he.ev hx, hr]
    · intro b hb
      rcases hat with hat | hat
      · exact .inl (hat.symm.trans hb)
      · rw [Chk.fp, hat] at hb; cases hb; exact .inr (Nat.le_refl _)
theorem p_neP {t t' t1 t2 : TypeId} {x y : Operand} {a b c d : Int} {k1 k2 q1 q2 : IntKind} (hx : ev E x = some (.agg #[.int k1 a, .int k2 b])) (hy : ev E y = some (.agg #[.int k1 c, .int k2 d]))
    (hp : pairB P t = some ([(false, 0, t1, true), (false, 1, t2, true)], false)) (h1 : P.underlying t1 = some (.int q1)) (h2 : P.underlying t2 = some (.int q2)) :
    POp P n { dst, op := .binOp .neq t x y t', type := ty, pos, after, guard } E (.bool (!(decide (a = c) && decide (b = d)))) := fun A w he => by
  unfold pairB at hp
  split at hp
  · rename_i fs hu
    simp only [Option.some.injEq, Prod.mk.injEq] at hp
    obtain ⟨hl, hst⟩ := hp
    rw [Bool.or_eq_false_iff] at hst
    obtain ⟨hst, hgu⟩ := hst
    obtain ⟨f, g, hfs⟩ : ∃ f g, fs.toList = [f, g] := by
      match h : fs.toList with
      | [] => rw [h] at hl; simp at hl
      | [_] => rw [h] at hl; simp at hl
      | [f, g] => exact ⟨f, g, rfl⟩
      | _ :: _ :: _ :: _ => rw [h] at hl; simp at hl
    rw [hfs] at hl
    simp only [List.map_cons, List.map_nil, List.cons.injEq, Prod.mk.injEq, and_true] at hl
    obtain ⟨⟨hf1, hf2, hf3, hf4⟩, hg1, hg2, hg3, hg4⟩ := hl
    have hfo : P.fieldsOf t = fs := by simp [Program.fieldsOf, hu]
    have h0 : (Op.equal t (.agg #[.int k1 a, .int k2 b]) (.agg #[.int k1 c, .int k2 d])).run P w = .ok (a == c && b == d) w := by
      refine (run_equalIn_struct (P := P) w 9999 t _ _ (by rw [hfo]; exact hu) hst).trans ?_
      rw [hfo, hfs]
      refine eqf_two hf1 hg1 (run_part_plain (P := P) (w := w) hf4 (by rw [hf2]; rfl)) (run_part_plain (P := P) (w := w) hf4 (by rw [hf2]; rfl)) ?_ (run_part_plain (P := P) (w := w) hg4 (by rw [hg2]; rfl)) (run_part_plain (P := P) (w := w) hg4 (by rw [hg2]; rfl)) ?_
      · exact run_equalIn_int w 9998 _ _ _ _ _ (by rw [hf3]; exact h1)
      · exact run_equalIn_int w 9998 _ _ _ _ _ (by rw [hg3]; exact h2)
    have h2 : binOp .neq t (.agg #[.int k1 a, .int k2 b]) (.agg #[.int k1 c, .int k2 d]) = (do pure (.bool (!(← Op.equal t (.agg #[.int k1 a, .int k2 b]) (.agg #[.int k1 c, .int k2 d]))))) := rfl
    have h3 : (eqGuard .neq t x y (.agg #[.int k1 a, .int k2 b]) (.agg #[.int k1 c, .int k2 d])).run P w = .ok () w := by
      simp [eqGuard, hgu]
    unfold execOp; simp only [he.ev hx, he.ev hy, h2, h3, Sem.run_bind, Sem.run_pure, Result.andThen_ok, h0]
    rfl
  · cases hp

theorem p_min3 {t : Array TypeId} {x y z : Operand} {k : IntKind} {m j l r : Int} (hx : ev E x = some (.int k m)) (hy : ev E y = some (.int k j)) (hz : ev E z = some (.int k l)) (hr : (if l < (if j < m then j else m) then l else (if j < m then j else m)) = r) : POp P n { dst, op := .call { callee := .builtin .min, args := #[x, y, z], argTypes := t }, type := ty, pos, after, guard } E (.int k r) := fun a w he => by
  unfold execOp; simp [resolve, invoke, builtin, he.ev hx, he.ev hy, he.ev hz, Builtin.min_, Builtin.min2, hr]
end
end Go.Proofs.Ytbpbhjnkmonlbaa.Sl
