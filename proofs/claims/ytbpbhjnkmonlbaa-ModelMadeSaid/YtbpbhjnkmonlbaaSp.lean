/- The operations one by one, said of a state of slots and owned pieces. No condition. -/
import Derived.Test.YtbpbhjnkmonlbaaSe
import Derived.IntWalk
import Derived.Lib.Strings
namespace Go.Proofs.Ytbpbhjnkmonlbaa.Sl
open Go.RowKit
set_option linter.unusedVariables false
set_option linter.unusedSimpArgs false
section
variable {P : Program} {n : Nat} {F : Frm} {E : Ev} {H : Hp} {dst : Option Tmp} {ty : TypeId} {pos : String} {after : Array Edge} {guard : Option (Nat × Bool)}

/-! ### No memory -/
theorem p_move {x : Operand} {v : Value} (hx : ev E x = some v) : POp P n { dst, op := .move x, type := ty, pos, after, guard } E v := fun a w he => by
  unfold execOp; simp [he.ev hx]
theorem p_assign {x : Operand} {v : Value} (hx : ev E x = some v) : POp P n { dst, op := .assign x, type := ty, pos, after, guard } E v := fun a w he => by
  unfold execOp; simp [he.ev hx]
theorem p_nil {x : Operand} {ad : Addr} (hx : ev E x = some (.pointer (some ad))) : POp P n { dst, op := .nilCheck x, type := ty, pos, after, guard } E (.pointer (some ad)) := fun a w he => by
  unfold execOp; simp [he.ev hx]
theorem p_nilf {x : Operand} {f : FuncId} {fs cs : Array Value} (hx : ev E x = some (.func (.func f) fs cs)) : POp P n { dst, op := .nilCheck x, type := ty, pos, after, guard } E (.func (.func f) fs cs) := fun a w he => by
  unfold execOp; simp [he.ev hx]
theorem p_pick_t {c x y : Operand} {v : Value} (hc : ev E c = some (.bool true)) (hx : ev E x = some v) : POp P n { dst, op := .pick c x y, type := ty, pos, after, guard } E v := fun a w he => by
  unfold execOp; simp [he.ev hc, he.ev hx, asBool]
theorem p_pick_f {c x y : Operand} {v : Value} (hc : ev E c = some (.bool false)) (hy : ev E y = some v) : POp P n { dst, op := .pick c x y, type := ty, pos, after, guard } E v := fun a w he => by
  unfold execOp; simp [he.ev hc, he.ev hy, asBool]
theorem p_ext {x : Operand} {vs : Array Value} {i : Nat} {v : Value} (hx : ev E x = some (.tuple vs)) (hi : vs[i]? = some v) : POp P n { dst, op := .extract x i, type := ty, pos, after, guard } E v := fun a w he => by
  unfold execOp; simp [he.ev hx, Instr.extract, hi]
theorem p_not {t : TypeId} {x : Operand} {b : Bool} (hx : ev E x = some (.bool b)) : POp P n { dst, op := .unOp .not t x, type := ty, pos, after, guard } E (.bool (!b)) := fun a w he => by
  unfold execOp; simp [he.ev hx, Op.unary]
theorem p_neg {t : TypeId} {x : Operand} {k : IntKind} {m r : Int} (hx : ev E x = some (.int k m)) (hr : k.wrap (0 - m) = r) : POp P n { dst, op := .unOp .neg t x, type := ty, pos, after, guard } E (.int k r) := fun a w he => by
  unfold execOp; simp [he.ev hx, Op.unary, Op.intArith, ← hr]
theorem p_fn0 {f : FuncId} : POp P n { dst, op := .makeFunc (.func f) #[] #[], type := ty, pos, after, guard } E (.func (.func f) #[] #[]) := fun a w he => by
  unfold execOp; simp [Instr.makeFunc]
theorem p_fn1 {f : FuncId} {x : Operand} {v : Value} (hx : ev E x = some v) : POp P n { dst, op := .makeFunc (.func f) #[x] #[], type := ty, pos, after, guard } E (.func (.func f) #[v] #[]) := fun a w he => by
  unfold execOp; simp [Instr.makeFunc, he.ev hx]

section bin
variable {t t' : TypeId} {x y : Operand} {k : IntKind} {m j r : Int} (hx : ev E x = some (.int k m)) (hy : ev E y = some (.int k j))
include hx hy
theorem p_add (hr : k.wrap (m + j) = r) : POp P n { dst, op := .binOp .add t x y t', type := ty, pos, after, guard } E (.int k r) := fun a w he => by
  unfold execOp; simp [he.ev hx, he.ev hy, eqGuard, binOp, Op.intArith, hr]
theorem p_sub (hr : k.wrap (m - j) = r) : POp P n { dst, op := .binOp .sub t x y t', type := ty, pos, after, guard } E (.int k r) := fun a w he => by
  unfold execOp; simp [he.ev hx, he.ev hy, eqGuard, binOp, Op.intArith, hr]
theorem p_mul (hr : k.wrap (m * j) = r) : POp P n { dst, op := .binOp .mul t x y t', type := ty, pos, after, guard } E (.int k r) := fun a w he => by
  unfold execOp; simp [he.ev hx, he.ev hy, eqGuard, binOp, Op.intArith, hr]
theorem p_quo (hj : j ≠ 0) (hr : k.wrap (m.tdiv j) = r) : POp P n { dst, op := .binOp .quo t x y t', type := ty, pos, after, guard } E (.int k r) := fun a w he => by
  unfold execOp; simp [he.ev hx, he.ev hy, eqGuard, binOp, Op.intDiv, hr, hj]
theorem p_rem (hj : j ≠ 0) (hr : m.tmod j = r) : POp P n { dst, op := .binOp .rem t x y t', type := ty, pos, after, guard } E (.int k r) := fun a w he => by
  unfold execOp; simp [he.ev hx, he.ev hy, eqGuard, binOp, Op.intDiv, hr, hj]
theorem p_and (hr : k.wrap ↑((m % 2 ^ k.bits).toNat &&& (j % 2 ^ k.bits).toNat) = r) : POp P n { dst, op := .binOp .and t x y t', type := ty, pos, after, guard } E (.int k r) := fun a w he => by
  unfold execOp; simp only [he.ev hx, he.ev hy, eqGuard, binOp, Op.intBits]; simp [hr]
theorem p_or (hr : k.wrap ↑((m % 2 ^ k.bits).toNat ||| (j % 2 ^ k.bits).toNat) = r) : POp P n { dst, op := .binOp .or t x y t', type := ty, pos, after, guard } E (.int k r) := fun a w he => by
  unfold execOp; simp only [he.ev hx, he.ev hy, eqGuard, binOp, Op.intBits]; simp [hr]
theorem p_xor (hr : k.wrap ↑((m % 2 ^ k.bits).toNat ^^^ (j % 2 ^ k.bits).toNat) = r) : POp P n { dst, op := .binOp .xor t x y t', type := ty, pos, after, guard } E (.int k r) := fun a w he => by
  unfold execOp; simp only [he.ev hx, he.ev hy, eqGuard, binOp, Op.intBits]; simp [hr]
theorem p_lss : POp P n { dst, op := .binOp .lss t x y t', type := ty, pos, after, guard } E (.bool (decide (m < j))) := fun a w he => by
  unfold execOp; simp [he.ev hx, he.ev hy, eqGuard, binOp, Op.intCmp]
theorem p_leq : POp P n { dst, op := .binOp .leq t x y t', type := ty, pos, after, guard } E (.bool (decide (m ≤ j))) := fun a w he => by
  unfold execOp; simp [he.ev hx, he.ev hy, eqGuard, binOp, Op.intCmp]
theorem p_gtr : POp P n { dst, op := .binOp .gtr t x y t', type := ty, pos, after, guard } E (.bool (decide (j < m))) := fun a w he => by
  unfold execOp; simp [he.ev hx, he.ev hy, eqGuard, binOp, Op.intCmp]
theorem p_geq : POp P n { dst, op := .binOp .geq t x y t', type := ty, pos, after, guard } E (.bool (decide (j ≤ m))) := fun a w he => by
  unfold execOp; simp [he.ev hx, he.ev hy, eqGuard, binOp, Op.intCmp]
theorem p_eql : POp P n { dst, op := .binOp .eql t x y t', type := ty, pos, after, guard } E (.bool (decide (m = j))) := fun a w he => by
  unfold execOp; simp [he.ev hx, he.ev hy, eqGuard, binOp, Op.intCmp]; rfl
theorem p_neq : POp P n { dst, op := .binOp .neq t x y t', type := ty, pos, after, guard } E (.bool (!decide (m = j))) := fun a w he => by
  unfold execOp; simp [he.ev hx, he.ev hy, eqGuard, binOp, Op.intCmp]; rfl
end bin
section shift
variable {t t' : TypeId} {x y : Operand} {k k' : IntKind} {m j r : Int} (hx : ev E x = some (.int k m)) (hy : ev E y = some (.int k' j)) (hj : 0 ≤ j)
include hx hy hj
theorem p_shl (hr : k.wrap (m * 2 ^ min j.toNat k.bits) = r) : POp P n { dst, op := .binOp .shl t x y t', type := ty, pos, after, guard } E (.int k r) := fun a w he => by
  have hn : ¬ j < 0 := by omega
  unfold execOp; simp [he.ev hx, he.ev hy, eqGuard, binOp, Op.shift, hn, hr]
theorem p_shr (hr : m.fdiv (2 ^ min j.toNat k.bits) = r) : POp P n { dst, op := .binOp .shr t x y t', type := ty, pos, after, guard } E (.int k r) := fun a w he => by
  have hn : ¬ j < 0 := by omega
  unfold execOp; simp [he.ev hx, he.ev hy, eqGuard, binOp, Op.shift, hn, hr]
end shift
theorem ba_toList (s : ByteArray) : s.toList = s.data.toList := by
  have := Lib.extract_toList s 0 s.size
  rw [ByteArray.extract_zero_size] at this
  rw [this, List.drop_zero, Nat.sub_zero, List.take_of_length_le (by rw [Lib.size_eq]; exact Nat.le_refl _)]
theorem ba_ext {s u : ByteArray} (h : s.data.toList = u.data.toList) : s = u := by
  obtain ⟨⟨a⟩⟩ := s; obtain ⟨⟨b⟩⟩ := u; simp at h; rw [h]
theorem ba_beq (s u : ByteArray) : (s.toList == u.toList) = decide (s = u) := by
  rw [ba_toList, ba_toList, Bool.eq_iff_iff]
  simp only [beq_iff_eq, decide_eq_true_eq]
  exact ⟨ba_ext, fun h => by rw [h]⟩
theorem ba_get {s : ByteArray} {i : Nat} {b : UInt8} (h : s.data.toList[i]? = some b) : s[i]? = some b := by
  obtain ⟨hlt, rfl⟩ := List.getElem?_eq_some_iff.1 h
  have hs : i < s.size := by rw [Lib.size_eq]; exact hlt
  rw [getElem?_pos s i hs]; rfl
theorem p_eqs {t t' : TypeId} {x y : Operand} {s u : ByteArray} (hx : ev E x = some (.string s)) (hy : ev E y = some (.string u)) : POp P n { dst, op := .binOp .eql t x y t', type := ty, pos, after, guard } E (.bool (decide (s = u))) := fun a w he => by
  unfold execOp; simp [he.ev hx, he.ev hy, eqGuard, binOp, Op.stringOp, ba_beq]
theorem p_nes {t t' : TypeId} {x y : Operand} {s u : ByteArray} (hx : ev E x = some (.string s)) (hy : ev E y = some (.string u)) : POp P n { dst, op := .binOp .neq t x y t', type := ty, pos, after, guard } E (.bool (!decide (s = u))) := fun a w he => by
  unfold execOp; simp [he.ev hx, he.ev hy, eqGuard, binOp, Op.stringOp, ba_beq]
theorem p_adds {t t' : TypeId} {x y : Operand} {s u : ByteArray} (hx : ev E x = some (.string s)) (hy : ev E y = some (.string u)) (hl : s.size + u.size ≤ 9223372036854775807) : POp P n { dst, op := .binOp .add t x y t', type := ty, pos, after, guard } E (.string (s ++ u)) := fun a w he => by
  have hl' : ¬ (((s.size + u.size : Nat) : Int) > IntKind.i64.max) := by simp [IntKind.max, IntKind.signed, IntKind.bits]; omega
  unfold execOp; simp [he.ev hx, he.ev hy, eqGuard, binOp, Op.stringOp]; omega
/-- A pointer that is there is not nil. -/
theorem p_eqn {t t' : TypeId} {x : Operand} {ad : Addr} {y : Operand} (hx : ev E x = some (.pointer (some ad))) (hy : ev E y = some (.pointer none)) (hu : (P.underlying t).map (fun d => d matches .pointer _) = some true) : POp P n { dst, op := .binOp .eql t x y t', type := ty, pos, after, guard } E (.bool false) := fun a w he => by
  obtain ⟨d, hd, hp⟩ := Option.map_eq_some_iff.1 hu
  cases d <;> simp at hp
  have h0 : ∀ d, (Op.equalIn (d + 1) t (.pointer (some ad)) (.pointer none)).run P w = .ok false w := by
    intro d
    simp only [Op.equalIn, Sem.run_bind, run_underlying hd, Result.andThen_ok]; rfl
  have h1 : (Op.equal t (.pointer (some ad)) (.pointer none)).run P w = .ok false w := h0 9999
  have h2 : binOp .eql t (.pointer (some ad)) (.pointer none) = (do pure (.bool (← Op.equal t (.pointer (some ad)) (.pointer none)))) := rfl
  have h3 : eqGuard .eql t x y (.pointer (some ad)) (.pointer none) = pure () := rfl
  unfold execOp; simp only [he.ev hx, he.ev hy, h2, h3, Sem.run_bind, Sem.run_pure, Result.andThen_ok, h1]
theorem p_min {t : Array TypeId} {x y : Operand} {k : IntKind} {m j r : Int} (hx : ev E x = some (.int k m)) (hy : ev E y = some (.int k j)) (hr : (if j < m then j else m) = r) : POp P n { dst, op := .call { callee := .builtin .min, args := #[x, y], argTypes := t }, type := ty, pos, after, guard } E (.int k r) := fun a w he => by
  unfold execOp; simp [resolve, invoke, builtin, he.ev hx, he.ev hy, Builtin.min_, Builtin.min2, hr]
theorem p_max {t : Array TypeId} {x y : Operand} {k : IntKind} {m j r : Int} (hx : ev E x = some (.int k m)) (hy : ev E y = some (.int k j)) (hr : (if m < j then j else m) = r) : POp P n { dst, op := .call { callee := .builtin .max, args := #[x, y], argTypes := t }, type := ty, pos, after, guard } E (.int k r) := fun a w he => by
  unfold execOp; simp [resolve, invoke, builtin, he.ev hx, he.ev hy, Builtin.max_, Builtin.max2, hr]
theorem p_len {t : TypeId} {x : Operand} {A : Option Addr} {m c : Nat} (hx : ev E x = some (.slice A m c)) (hu : (P.underlying t).map (fun d => d matches .slice _) = some true) : POp P n { dst, op := .call { callee := .builtin .len, args := #[x], argTypes := #[t] }, type := ty, pos, after, guard } E (.int .i64 m) := fun a w he => by
  obtain ⟨d, hd, hp⟩ := Option.map_eq_some_iff.1 hu
  cases d <;> simp at hp
  unfold execOp; simp [resolve, invoke, builtin, he.ev hx, Builtin.len_, run_underlying hd, goInt]
theorem p_lens {t : TypeId} {x : Operand} {s : ByteArray} (hx : ev E x = some (.string s)) (hu : P.underlying t = some .string) : POp P n { dst, op := .call { callee := .builtin .len, args := #[x], argTypes := #[t] }, type := ty, pos, after, guard } E (.int .i64 s.size) := fun a w he => by
  unfold execOp; simp [resolve, invoke, builtin, he.ev hx, Builtin.len_, run_underlying hu, goInt]
theorem p_conv {t u : TypeId} {x : Operand} {k k' : IntKind} {m r : Int} {d : TypeDesc} (hx : ev E x = some (.int k m)) (ht : P.underlying t = some d) (hu : P.underlying u = some (.int k')) (hr : k'.wrap m = r) : POp P n { dst, op := .convert t u x, type := ty, pos, after, guard } E (.int k' r) := fun a w he => by
  unfold execOp
  cases d <;> simp [he.ev hx, convert, run_underlying ht, run_underlying hu, Conv.intToInt, hr]
theorem p_index {t : TypeId} {x i : Operand} {s : ByteArray} {k : IntKind} {m : Int} {b : UInt8} (hx : ev E x = some (.string s)) (hi : ev E i = some (.int k m)) (ht : P.underlying t = some .string) (h0 : 0 ≤ m) (hb : s.data.toList[m.toNat]? = some b) :
    POp P n { dst, op := .index t x i, type := ty, pos, after, guard } E (.int .u8 b.toNat) := fun a w he => by
  unfold execOp
  simp [he.ev hx, he.ev hi, Instr.index, asIntOf, run_underlying ht, h0, ba_get hb]

/-! ### Addresses -/
theorem p_field {s : TypeId} {x : Operand} {b off : Nat} {i : Nat} {fs : Array Field} {f : Field} {ti : TypeInfo} (hx : ev E x = some (.pointer (some ⟨b, off, none⟩))) (hs : P.underlying s = some (.struct fs)) (hf : fs[i]? = some f) (hi : P.info? f.type = some ti) (h0 : ti.size ≠ 0) :
    POp P n { dst, op := .fieldAddr s x i, type := ty, pos, after, guard } E (.pointer (some ⟨b, off + f.offset, none⟩)) := fun a w he => by
  have e : (⟨b, off, none⟩ : Addr).add f.offset = ⟨b, off + f.offset, none⟩ := by unfold Addr.add; split <;> simp_all
  unfold execOp
  simp [he.ev hx, Instr.fieldAt, run_underlying hs, hf, Instr.sureAddr, fieldPlace, sizeOf, typeInfo, hi, h0, e]
/-- The same by two closed facts. -/
def offOf (P : Program) (s : TypeId) (i : Nat) : Option Nat :=
  match P.underlying s with
  | some (.struct fs) => match fs[i]? with
    | some f => match P.info? f.type with
      | some ti => if ti.size = 0 then none else some f.offset
      | none => none
    | none => none
  | _ => none
theorem p_fa {s : TypeId} {x : Operand} {b off j : Nat} {i : Nat} (hx : ev E x = some (.pointer (some ⟨b, off, none⟩))) (ho : offOf P s i = some j) :
    POp P n { dst, op := .fieldAddr s x i, type := ty, pos, after, guard } E (.pointer (some ⟨b, off + j, none⟩)) := by
  unfold offOf at ho
  split at ho <;> try cases ho
  rename_i fs hs
  split at ho <;> try cases ho
  rename_i f hf
  split at ho <;> try cases ho
  rename_i ti hi
  split at ho <;> cases ho
  rename_i h0
  exact p_field hx hs hf hi h0
/-- At the head of a block. -/
theorem p_fa0 {s : TypeId} {x : Operand} {b j : Nat} {i : Nat} (hx : ev E x = some (.pointer (some ⟨b, 0, none⟩))) (ho : offOf P s i = some j) :
    POp P n { dst, op := .fieldAddr s x i, type := ty, pos, after, guard } E (.pointer (some ⟨b, j, none⟩)) := by
  have := p_fa (n := n) (dst := dst) (ty := ty) (pos := pos) (after := after) (guard := guard) hx ho
  rwa [Nat.zero_add] at this
/-- An element's size, of a slice's type. -/
def elSize (P : Program) (t : TypeId) : Option Nat :=
  match P.underlying t with
  | some (.slice e) => (P.info? e).map (·.size)
  | _ => none
theorem p_ia {t : TypeId} {x i : Operand} {ad : Addr} {m c sz : Nat} {k : IntKind} {j : Int} (hx : ev E x = some (.slice (some ad) m c)) (hi : ev E i = some (.int k j)) (hs : elSize P t = some sz) (h0 : 0 ≤ j) (h1 : j < m) :
    POp P n { dst, op := .indexAddr t x i, type := ty, pos, after, guard } E (.pointer (some (ad.add (j.toNat * sz)))) := fun a w he => by
  unfold elSize at hs
  split at hs <;> try cases hs
  rename_i e ht
  obtain ⟨ti, hti, rfl⟩ := Option.map_eq_some_iff.1 hs
  unfold execOp
  simp [he.ev hx, he.ev hi, Instr.indexAt, asIntOf, run_underlying ht, sizeOf, typeInfo, hti, h0, h1]
theorem add_at (g o j : Nat) : (⟨g, o, none⟩ : Addr).add j = ⟨g, o + j, none⟩ := by unfold Addr.add; split <;> simp_all
/-- One cell an element, at the head of a row. -/
theorem p_ia1 {t : TypeId} {x i : Operand} {g m c : Nat} {k : IntKind} {j : Int} (hx : ev E x = some (.slice (some ⟨g, 0, none⟩) m c)) (hi : ev E i = some (.int k j)) (hs : elSize P t = some 1) (h0 : 0 ≤ j) (h1 : j < m) :
    POp P n { dst, op := .indexAddr t x i, type := ty, pos, after, guard } E (.pointer (some ⟨g, j.toNat, none⟩)) := by
  have := p_ia (n := n) (dst := dst) (ty := ty) (pos := pos) (after := after) (guard := guard) hx hi hs h0 h1
  rwa [add_at, Nat.zero_add, Nat.mul_one] at this
theorem p_iaN {t : TypeId} {x i : Operand} {g m c sz : Nat} {k : IntKind} {j : Int} (hx : ev E x = some (.slice (some ⟨g, 0, none⟩) m c)) (hi : ev E i = some (.int k j)) (hs : elSize P t = some sz) (h0 : 0 ≤ j) (h1 : j < m) :
    POp P n { dst, op := .indexAddr t x i, type := ty, pos, after, guard } E (.pointer (some ⟨g, j.toNat * sz, none⟩)) := by
  have := p_ia (n := n) (dst := dst) (ty := ty) (pos := pos) (after := after) (guard := guard) hx hi hs h0 h1
  rwa [add_at, Nat.zero_add] at this
/-- An array's length, and the size of its elements. -/
def arSize (P : Program) (t : TypeId) : Option (Nat × Nat) :=
  match P.underlying t with
  | some (.array l e) => (P.info? e).map (fun i => (l, i.size))
  | _ => none
theorem p_iar {t : TypeId} {x i : Operand} {b o l sz : Nat} {k : IntKind} {j : Int} (hx : ev E x = some (.pointer (some ⟨b, o, none⟩))) (hi : ev E i = some (.int k j)) (hs : arSize P t = some (l, sz)) (h0 : 0 ≤ j) (h1 : j < l) :
    POp P n { dst, op := .indexAddr t x i, type := ty, pos, after, guard } E (.pointer (some ⟨b, o + j.toNat * sz, none⟩)) := fun a w he => by
  unfold arSize at hs
  split at hs <;> try cases hs
  rename_i l' e ht
  obtain ⟨ti, hti, hh⟩ := Option.map_eq_some_iff.1 hs
  simp only [Prod.mk.injEq] at hh
  obtain ⟨rfl, rfl⟩ := hh
  unfold execOp
  simp [he.ev hx, he.ev hi, Instr.indexAt, Instr.sureAddr, asIntOf, run_underlying ht, sizeOf, typeInfo, hti, h0, h1, add_at]
/-- Values of parts. -/
def evs (E : Ev) : List (Nat × Operand) → Option (List (Nat × Value))
  | [] => some []
  | (i, x) :: l => match ev E x, evs E l with
    | some v, some vs => some ((i, v) :: vs)
    | _, _ => none
theorem evs_spec {a : Act} (he : Env n a E) : ∀ (l : List (Nat × Operand)) (vs : List (Nat × Value)), evs E l = some vs → l.map (fun x => (x.1, a.eval x.2)) = vs
  | [], vs, h => by simp [evs] at h; subst h; rfl
  | (i, x) :: l, vs, h => by
    simp only [evs] at h
    cases h1 : ev E x with
    | none => simp [h1] at h
    | some v =>
      cases h2 : evs E l with
      | none => simp [h1, h2] at h
      | some us =>
        simp only [h1, h2, Option.some.injEq] at h
        subst h
        simp only [List.map_cons, he.ev h1, evs_spec he l us h2]
/-- A struct's, or an array's, value out of its parts: what it comes to is a closed fact of the program. -/
theorem p_build {t : TypeId} {parts : Array (Nat × Operand)} {vs : List (Nat × Value)} {cs : Array Value} (hp : evs E parts.toList = some vs) (hb : ∀ w, (Instr.build t vs.toArray).run P w = .ok (.agg cs) w) :
    POp P n { dst, op := .build t parts, type := ty, pos, after, guard } E (.agg cs) := fun a w he => by
  have e1 : (parts.map fun (i, x) => (i, a.eval x)) = vs.toArray := by
    rw [← evs_spec he _ _ hp, ← Array.toList_map, Array.toArray_toList]
  unfold execOp
  simp only [e1, Sem.run_bind, hb, Result.andThen_ok, Sem.run_pure]
end
end Go.Proofs.Ytbpbhjnkmonlbaa.Sl
