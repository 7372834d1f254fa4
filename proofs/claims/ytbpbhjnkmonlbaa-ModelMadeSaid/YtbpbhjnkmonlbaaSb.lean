/- Words on '[]byte(s)': a row whose bytes lie ahead of one frozen cell. No condition. -/
import Derived.Test.YtbpbhjnkmonlbaaSt
import Derived.Laws.IdiomStrings
namespace Go.Proofs.Ytbpbhjnkmonlbaa.Sl
open Go.RowKit
set_option linter.unusedVariables false
set_option linter.unusedSimpArgs false
section
variable {P : Program} {n : Nat} {F : Frm} {E : Ev} {H : Hp} {dst : Option Tmp} {ty : TypeId} {pos : String} {after : Array Edge} {guard : Option (Nat × Bool)}
/-- A string's bytes, as numbers. -/
def bytesV (s : ByteArray) : List Int := s.data.toList.map fun b => ((b.toNat : Nat) : Int)
theorem bytesV_len (s : ByteArray) : (bytesV s).length = s.size := by unfold bytesV; rw [List.length_map]; rfl
theorem bytesV_in {s : ByteArray} {x : Int} (h : x ∈ bytesV s) : 0 ≤ x ∧ x ≤ 255 := by
  obtain ⟨b, _, rfl⟩ := List.mem_map.1 h
  have := UInt8.toNat_lt b
  omega
theorem l_bytes {t u e : TypeId} {x : Operand} {s : ByteArray} (hx : ev E x = some (.string s)) (ht : P.underlying t = some .string) (hu : P.underlying u = some (.slice e)) (he : P.underlying e = some (.int .u8)) :
    LOp P n F { dst, op := .convert t u x, type := ty, pos, after, guard } E H (fun v H' => ∃ b c k, v = .slice (some ⟨b, 0, none⟩) s.size c ∧ H' = .pr b (ints .u8 (bytesV s) ++ List.replicate k (Value.int .u8 0)) e :: H) := fun a w hev hw Q K k => by
  have hr := run_bytes_of_string (P := P) w t u e s ht hu he
  obtain ⟨q, hq⟩ : ∃ q, q = grownCap w s.size 0 e := ⟨_, rfl⟩
  rw [← hq] at hr
  have hrow : (bytesRow s q).toList = ints .u8 (bytesV s) ++ List.replicate (q - s.size) (Value.int .u8 0) := by
    unfold bytesRow bytesV ints
    simp
  have hsz : (bytesRow s q).size = (ints .u8 (bytesV s) ++ List.replicate (q - s.size) (Value.int .u8 0)).length := by rw [← hrow]; simp
  have harr : bytesRow s q = (ints .u8 (bytesV s) ++ List.replicate (q - s.size) (Value.int .u8 0)).toArray := by rw [← hrow]
  rw [hsz, harr] at hr
  refine wp_val (v := .slice (some ⟨w.heap.size, 0, none⟩) s.size q) (w' := w.drew.alloc (.cells (ints .u8 (bytesV s) ++ List.replicate (q - s.size) (Value.int .u8 0)).toArray e ((ints .u8 (bytesV s) ++ List.replicate (q - s.size) (Value.int .u8 0)).length, (ints .u8 (bytesV s) ++ List.replicate (q - s.size) (Value.int .u8 0)).length + 1))) ?_ (k _ _ _ ⟨w.heap.size, q, q - s.size, rfl, rfl⟩ (hw.drew.cons_new (below_alloc' w.drew _) _ (heap_alloc_new w.drew _) (fun b hb => by cases hb; exact Nat.le_refl _)))
  unfold execOp
  simp only [hev.ev hx, Sem.run_bind, hr, Result.andThen_ok, Sem.run_pure]
theorem Own.prcell {w : World} (h : Own w H F) (i : Nat) {b : Nat} {cs : List Value} {e : TypeId} (hi : H[i]? = some (.pr b cs e)) (j : Nat) : w.cell? ⟨b, j, none⟩ = cs[j]? := by
  have : w.heap[b]? = some (.cells cs.toArray e (cs.length, cs.length + 1)) := h.get i hi
  simp [World.cell?, this]
theorem q_pr {t : TypeId} {x : Operand} {b j : Nat} {cs : List Value} {e : TypeId} {v : Value} (i : Nat) (hi : H[i]? = some (.pr b cs e)) (hx : ev E x = some (.pointer (some ⟨b, j, none⟩))) (hu : rowB P t = some false) (hc : cs[j]? = some v) :
    QOp P n F { dst, op := .load t x, type := ty, pos, after, guard } E H v := fun a w he hw => by
  rw [run_load1 rfl (he.ev hx) hu ((hw.prcell i hi j).trans hc)]; exact ⟨rfl, rfl⟩
theorem l_pr {t : TypeId} {x y : Operand} {b j : Nat} {cs : List Value} {e : TypeId} {v : Value} (i : Nat) (hi : H[i]? = some (.pr b cs e)) (hx : ev E x = some (.pointer (some ⟨b, j, none⟩))) (hy : ev E y = some v) (hv : v.cells = #[v]) (h1 : v.oneCell' = true) (hs : szB P t = some 1) (hj : j < cs.length) :
    LOp P n F { dst, op := .store t x y, type := ty, pos, after, guard } E H (fun u H' => u = undef ∧ H' = H.set i (.pr b (cs.set j v) e)) := fun a w he hw Q K k => by
  have hb : w.heap[b]? = some (.cells cs.toArray e (cs.length, cs.length + 1)) := hw.get i hi
  have hcell : w.cell? ⟨b, j, none⟩ = some (cs[j]) := by rw [hw.prcell i hi j]; exact List.getElem?_eq_getElem hj
  have hfro : w.frozen? ⟨b, j, none⟩ = false := by
    simp only [World.frozen?, hb, Bool.and_eq_false_iff, decide_eq_false_iff_not]
    left; omega
  have hst : (store (⟨b, j, none⟩ : Addr) v).run P w = .ok () (w.setRow b (cs.set j v).toArray) := by
    rw [Go.run_store P w _ v _ h1, hcell]
    simp [hfro, setCell_eq_setRow w b j cs.toArray e _ v hb]
  obtain ⟨ti, hti, hsz⟩ := Option.map_eq_some_iff.1 hs
  have hadd : (⟨b, j, none⟩ : Addr).add 0 = ⟨b, j, none⟩ := by rw [add_at]; rfl
  have hr : (execOp a.eval { dst, op := .store t x y, type := ty, pos, after, guard }).run P w = .ok .skip (w.setRow b (cs.set j v).toArray) := by
    unfold execOp
    simp [Instr.storeAt, he.ev hx, he.ev hy, Instr.sureAddr, storeVar, sizeOf, typeInfo, hti, hv, hsz, storeCells, hadd, hst]
  have hheap := setRow_heap w b cs.toArray (cs.set j v).toArray e (cs.length, cs.length + 1) hb
  refine wp_skp hr (k _ _ _ ⟨rfl, rfl⟩ (hw.upd i hi _ rfl rfl rfl (fun k _ hk => setRow_other w b k _ (fun e => hk (by simp [Chk.fp, e]))) ?_ (fun b' hb' => .inl hb')))
  simp only [Chk.sat, List.length_set]
  exact hheap
/-- Bytes as a text. -/
theorem q_strP {t u e : TypeId} {x : Operand} {b m c : Nat} {cs : List Value} {xs : List Int} (i : Nat) (hi : H[i]? = some (.pr b cs e)) (hx : ev E x = some (.slice (some ⟨b, 0, none⟩) m c)) (hm : xs.length = m) (hc : ∀ j, j < m → cs[j]? = some (.int .u8 (xs.getD j 0))) {e' : TypeId} (hs : P.underlying t = some (.slice e')) (he' : P.underlying e' = some (.int .u8)) (hd : P.underlying u = some .string) :
    QOp P n F { dst, op := .convert t u x, type := ty, pos, after, guard } E H (.string (strOfNums xs)) := fun a w he hw => by
  have key : (convert t u (.slice (some ⟨b, 0, none⟩) m c)).run P w = .ok (.string (strOfNums xs)) w :=
    run_convert_bytes_arg w t e' hs he' b 0 m c xs hm (fun j hj => by rw [Nat.zero_add, hw.prcell i hi j]; exact hc j hj) u hd
  unfold execOp
  simp only [he.ev hx, Sem.run_bind, key, Result.andThen_ok, Sem.run_pure]
  exact ⟨rfl, rfl⟩
/-- A struct's field: where it lies, and that it is one plain cell. -/
def fldB (P : Program) (t : TypeId) (i : Nat) : Option (Nat × TypeId × Bool) := match P.underlying t with
  | some (.struct fs) => fs[i]?.map fun f => (f.offset, f.type, P.plainKey f.type)
  | _ => none
theorem p_fld {t ft : TypeId} {x : Operand} {i o : Nat} {cs : Array Value} {v : Value} (hx : ev E x = some (.agg cs)) (hp : fldB P t i = some (o, ft, true)) (hc : cs[o]? = some v) :
    POp P n { dst, op := .field t x i, type := ty, pos, after, guard } E v := fun a w he => by
  unfold fldB at hp
  split at hp
  · rename_i fs hu
    obtain ⟨f, hf, hq⟩ := Option.map_eq_some_iff.1 hp
    simp only [Prod.mk.injEq] at hq
    obtain ⟨h1, h2, h3⟩ := hq
    have hr := run_part_plain (P := P) (w := w) h3 (show cs[f.offset]? = some v by rw [h1]; exact hc)
    unfold execOp
    simp [he.ev hx, Instr.field, run_underlying hu, hf, asAgg, hr]
  · cases hp
end
end Go.Proofs.Ytbpbhjnkmonlbaa.Sl
