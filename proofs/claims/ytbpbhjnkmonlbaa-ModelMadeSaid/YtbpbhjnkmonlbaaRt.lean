/- What was put is told: numbers alone. No condition. -/
import Derived.Test.YtbpbhjnkmonlbaaNu
namespace Go.Proofs.Ytbpbhjnkmonlbaa
open Sl Go
set_option linter.unusedVariables false
set_option maxRecDepth 10000
/-! ### The number of the first bytes -/
theorem valL_snoc (l : List UInt8) (b : UInt8) : valL (l ++ [b]) = valL l * 256 + b.toNat := by simp [valL, List.foldl_append]
theorem be_take : ∀ (k n i : Nat), i ≤ k → (be k n).take i = be i (n / 256 ^ (k - i))
  | 0, n, i, h => by
    obtain rfl : i = 0 := by omega
    simp [be]
  | k + 1, n, i, h => by
    rcases Nat.lt_or_ge i (k + 1) with h1 | h1
    · rw [be, List.take_append_of_le_length (by rw [be_len]; omega), be_take k _ i (by omega), Nat.div_div_eq_div_mul, show k + 1 - i = (k - i) + 1 by omega, Nat.pow_succ, Nat.mul_comm]
    · obtain rfl : i = k + 1 := by omega
      rw [List.take_of_length_le (by rw [be_len]; omega), Nat.sub_self, Nat.pow_zero, Nat.div_one]
theorem val_be : ∀ (k n : Nat), valL ((be k n).map fun x => UInt8.ofNat x.toNat) = n % 256 ^ k
  | 0, n => by simp [be, valL, Nat.mod_one]
  | k + 1, n => by
    rw [be, List.map_append, List.map_cons, List.map_nil, valL_snoc, val_be k]
    have h1 : (UInt8.ofNat (((n % 256 : Nat) : Int).toNat)).toNat = n % 256 := by
      rw [Int.toNat_natCast, UInt8.toNat_ofNat']; omega
    rw [h1, Nat.pow_succ, Nat.mul_comm (256 ^ k) 256, Nat.mod_mul]
    omega
theorem valS_be {k n i : Nat} (h : i ≤ k) : valS (strOfNums (be k n)) i = n / 256 ^ (k - i) % 256 ^ i := by
  unfold valS
  rw [strOfNums_data, ← List.map_take, be_take k n i h, val_be]
/-! ### From a coder to its end -/
structure Lead (c f : Cd) : Prop where
  k : c.k ≤ f.k
  lo : c.n * 256 ^ (f.k - c.k) ≤ f.n
  hi : f.n + f.r ≤ (c.n + c.r) * 256 ^ (f.k - c.k)
theorem Lead.refl (c : Cd) : Lead c c := ⟨Nat.le_refl _, by simp, by simp⟩
theorem Lead.trans {c d f : Cd} (h : Lead c d) (g : Lead d f) : Lead c f := by
  have e : 256 ^ (f.k - c.k) = 256 ^ (d.k - c.k) * 256 ^ (f.k - d.k) := by
    rw [← Nat.pow_add]; congr 1; have := h.k; have := g.k; omega
  refine ⟨Nat.le_trans h.k g.k, ?_, ?_⟩
  · rw [e, ← Nat.mul_assoc]
    exact Nat.le_trans (Nat.mul_le_mul_right _ h.lo) g.lo
  · rw [e, ← Nat.mul_assoc]
    exact Nat.le_trans g.hi (Nat.mul_le_mul_right _ h.hi)
theorem lead_grow (c : Cd) : Lead c (growC c) := by
  unfold growC
  split
  · refine ⟨by simp only; omega, ?_, ?_⟩
    · simp only [show c.k + 2 - c.k = 2 by omega]; omega
    · simp only [show c.k + 2 - c.k = 2 by omega]; omega
  · split
    · refine ⟨by simp only; omega, ?_, ?_⟩
      · simp only [show c.k + 1 - c.k = 1 by omega]; omega
      · simp only [show c.k + 1 - c.k = 1 by omega]; omega
    · exact Lead.refl c
theorem Lead.sub {c d f : Cd} (h : Lead d f) (hk : d.k = c.k) (h1 : c.n ≤ d.n) (h2 : d.n + d.r ≤ c.n + c.r) : Lead c f := by
  refine ⟨hk ▸ h.k, ?_, ?_⟩
  · rw [← hk]; exact Nat.le_trans (Nat.mul_le_mul_right _ h1) h.lo
  · rw [← hk]; exact Nat.le_trans h.hi (Nat.mul_le_mul_right _ h2)
/-- The bytes of the end. -/
def bytesC (f : Cd) : ByteArray := strOfNums (be f.k f.n)
theorem lead_val {c f : Cd} (h : Lead c f) (hf : f.ok) (hk : 5 ≤ c.k) (ht : c.n + c.r ≤ 256 ^ c.k) : c.k ≤ (bytesC f).size ∧ c.n ≤ valS (bytesC f) c.k ∧ valS (bytesC f) c.k < c.n + c.r := by
  have hp : 0 < 256 ^ (f.k - c.k) := Nat.pow_pos (by decide)
  have hr := hf.lo
  have h1 : c.n ≤ f.n / 256 ^ (f.k - c.k) := (Nat.le_div_iff_mul_le hp).2 h.lo
  have h2 : f.n / 256 ^ (f.k - c.k) < c.n + c.r := (Nat.div_lt_iff_lt_mul hp).2 (by have := h.hi; omega)
  have e : valS (bytesC f) c.k = f.n / 256 ^ (f.k - c.k) := by
    unfold bytesC
    rw [valS_be h.k, Nat.mod_eq_of_lt (by omega)]
  rw [e]
  exact ⟨by unfold bytesC; rw [strOfNums_size, be_len]; exact h.k, h1, h2⟩
theorem ok_top {c : Cd} (h : c.ok) : c.n + c.r ≤ 256 ^ c.k := by
  have := (top_lt h.k5 (m := c.n + c.r) h.top).1
  omega
theorem lead_gate {c f : Cd} (h : Lead c f) (hf : f.ok) (hc : c.ok) : gateE (bytesC f) (c, false) = 0 := by
  obtain ⟨h1, h2, h3⟩ := lead_val h hf hc.k5 (ok_top hc)
  unfold gateE
  simp only [Bool.false_eq_true, if_false]
  rw [if_neg (by omega), if_neg (by omega)]
/-- A bit that was put is told. -/
theorem tell_bit {c f : Cd} {p b : Int} (hb : b = 0 ∨ b = 1) (hc : c.ok) (hf : f.ok) (h : Lead (bitC c p b) f) : Lead c f ∧ dBit (bytesC f) (c, false) p = (b, 0, (bitC c p b, false)) := by
  have hs := shr_in hc.lo p
  have hk5 := hc.k5
  have ht := ok_top hc
  rcases hb with rfl | rfl
  · have h1 : Lead ⟨c.k, c.n + shr_ c.r p, c.r - shr_ c.r p⟩ f := (lead_grow _).trans h
    have h0 : Lead c f := h1.sub rfl (by simp only; omega) (by simp only; omega)
    refine ⟨h0, ?_⟩
    obtain ⟨v1, v2, v3⟩ := lead_val h1 hf hk5 (by simp only; omega)
    simp only at v1 v2 v3
    unfold dBit
    rw [if_pos (lead_gate h0 hf hc), if_neg (by simp only; omega)]
  · have h1 : Lead ⟨c.k, c.n, shr_ c.r p⟩ f := (lead_grow _).trans h
    have h0 : Lead c f := h1.sub rfl (by simp only; omega) (by simp only; omega)
    refine ⟨h0, ?_⟩
    obtain ⟨v1, v2, v3⟩ := lead_val h1 hf hk5 (by simp only; omega)
    simp only at v1 v2 v3
    unfold dBit
    rw [if_pos (lead_gate h0 hf hc), if_pos (by simp only; omega)]
theorem tell_end {f : Cd} (hf : f.ok) : dEnd (bytesC f) (f, false) = 0 := by
  unfold dEnd
  rw [if_pos (lead_gate (Lead.refl f) hf hf), if_pos]
  have := ok_top hf
  have := hf.lo
  exact ⟨by simp only; unfold bytesC; rw [valS_be (Nat.le_refl _), Nat.sub_self, Nat.pow_zero, Nat.div_one, Nat.mod_eq_of_lt (by omega)], by simp only; unfold bytesC; rw [strOfNums_size, be_len]⟩
theorem tell_half {c f : Cd} {b : Nat} (hb : b = 0 ∨ b = 1) (hc : c.ok) (hf : f.ok) (h : Lead (halfC c b) f) : Lead c f ∧ (if valS (bytesC f) c.k - c.n < c.r / 2 then 0 else 1) = b := by
  have hk5 := hc.k5
  have ht := ok_top hc
  have hlo := hc.lo
  rcases hb with rfl | rfl
  · have h1 : Lead ⟨c.k, c.n, c.r / 2⟩ f := (lead_grow _).trans h
    have h0 : Lead c f := h1.sub rfl (by simp only; omega) (by simp only; omega)
    obtain ⟨v1, v2, v3⟩ := lead_val h1 hf hk5 (by simp only; omega)
    simp only at v1 v2 v3
    exact ⟨h0, if_pos (by omega)⟩
  · have h1 : Lead ⟨c.k, c.n + c.r / 2, c.r / 2⟩ f := (lead_grow _).trans h
    have h0 : Lead c f := h1.sub rfl (by simp only; omega) (by simp only; omega)
    obtain ⟨v1, v2, v3⟩ := lead_val h1 hf hk5 (by simp only; omega)
    simp only at v1 v2 v3
    exact ⟨h0, if_neg (by omega)⟩
theorem tell_dir {f : Cd} (hf : f.ok) (v : Nat) : ∀ (i a : Nat) (c : Cd), c.ok → i ≤ 64 → (a + 1) * 2 ^ i ≤ 18446744073709551616 → Lead (dirC c v i) f → Lead c f ∧ dDirG (bytesC f) i a (c, false) = (((a * 2 ^ i + v % 2 ^ i : Nat) : Int), 0, (dirC c v i, false))
  | 0, a, c, hc, _, _, h => ⟨h, by simp [dDirG, dirC, Nat.mod_one]⟩
  | i + 1, a, c, hc, hi, ha, h => by
    simp only [dirC] at h
    have hb : v / 2 ^ i % 2 = 0 ∨ v / 2 ^ i % 2 = 1 := by omega
    rw [Nat.pow_succ] at ha
    have hp : 0 < 2 ^ i := Nat.pow_pos (by decide)
    have ha2 : (a + 1) * 2 ≤ 18446744073709551616 := by
      have := Nat.le_mul_of_pos_right ((a + 1) * 2) hp
      rw [Nat.mul_assoc, Nat.mul_comm 2] at this
      omega
    have e1 : (a * 2 + v / 2 ^ i % 2 + 1) * 2 ^ i ≤ (a + 1) * (2 ^ i * 2) := by
      rw [Nat.mul_comm (2 ^ i) 2, ← Nat.mul_assoc]
      exact Nat.mul_le_mul_right _ (by omega)
    obtain ⟨h1, h2⟩ := tell_dir hf v i (a * 2 + v / 2 ^ i % 2) (halfC c (v / 2 ^ i % 2)) (hc.half _) (by omega) (by omega) h
    obtain ⟨h3, h4⟩ := tell_half hb hc hf h1
    refine ⟨h3, ?_⟩
    rw [dDirG, if_pos (lead_gate h3 hf hc)]
    simp only [h4]
    rw [Nat.mod_eq_of_lt (show a * 2 < 18446744073709551616 by omega), h2]
    have e2 : (a * 2 + v / 2 ^ i % 2) * 2 ^ i + v % 2 ^ i = a * 2 ^ (i + 1) + v % 2 ^ (i + 1) := by
      rw [Nat.mod_pow_succ, Nat.pow_succ, Nat.add_mul, Nat.mul_assoc, Nat.mul_comm 2 (2 ^ i), Nat.mul_comm (v / 2 ^ i % 2)]
      omega
    rw [e2]; rfl
theorem tell_go {f : Cd} (hf : f.ok) : ∀ (bs : List Int) (d node : Nat) (m m' : Ms) (c c' : Cd), (∀ b ∈ bs, b = 0 ∨ b = 1) → c.ok → forthGo encP bs d node m c = some (m', c') → bs.foldl (fun n b => 2 * n + b.toNat) node - 128 < 65 → Lead c' f →
    c'.ok ∧ Lead c f ∧ classS (decS (bytesC f)) bs.length d node m (c, false) = some (((bs.foldl (fun n b => 2 * n + b.toNat) node - 128 : Nat) : Int), 0, m'.came (bs.foldl (fun n b => 2 * n + b.toNat) node - 128), (c', false))
  | [], d, node, m, m', c, c', _, hc, h, hlt, hl => by
    simp only [forthGo, Option.some.injEq, Prod.mk.injEq] at h
    obtain ⟨rfl, rfl⟩ := h
    simp only [List.foldl_nil] at hlt
    refine ⟨hc, hl, ?_⟩
    simp only [List.length_nil, classS, List.foldl_nil]
    rw [if_neg (by omega)]
  | b :: bs, d, node, m, m', c, c', hb, hc, h, hlt, hl => by
    simp only [forthGo, encP] at h
    split at h
    · cases h
    · rename_i c1 hc1
      obtain ⟨hk, hc1⟩ := (Option.ite_none_right_eq_some).1 hc1
      simp only [Option.some.injEq] at hc1
      subst hc1
      obtain ⟨h1, h2, h3⟩ := tell_go hf bs (d + 1) (2 * node + b.toNat) _ m' _ c' (fun x hx => hb x (List.mem_cons_of_mem _ hx)) (hc.bit _ _) h hlt hl
      obtain ⟨h4, h5⟩ := tell_bit (hb b List.mem_cons_self) hc hf h2
      refine ⟨h1, h4, ?_⟩
      simp only [List.length_cons, classS, bitS, decS, if_pos hk, h5, if_true, List.foldl_cons]
      exact h3
theorem tell_class {f : Cd} (hf : f.ok) {m m' : Ms} {cl : Nat} {c c' : Cd} (hcl : cl < 65) (hc : c.ok) (h : forthS encP m cl c = some (m', c')) (hl : Lead c' f) :
    c'.ok ∧ Lead c f ∧ classS (decS (bytesC f)) 7 0 1 m (c, false) = some ((cl : Int), 0, m', (c', false)) := by
  unfold forthS at h
  split at h
  · cases h
  · rename_i m1 s1 hg
    simp only [Option.some.injEq, Prod.mk.injEq] at h
    obtain ⟨rfl, rfl⟩ := h
    obtain ⟨h1, h2, h3⟩ := tell_go hf (bitsv cl 7) 0 1 m m1 c s1 (fun b hb => by obtain ⟨j, _, rfl⟩ := List.mem_map.1 hb; exact btv_in _ _) hc hg (by rw [bits_node cl hcl]; omega) hl
    rw [bits_node cl hcl, bitsv_len, show 128 + cl - 128 = cl by omega] at h3
    exact ⟨h1, h2, h3⟩
theorem forthS_cok {m m' : Ms} {cl : Nat} {c c' : Cd} (hcl : cl < 65) (hc : c.ok) (h : forthS encP m cl c = some (m', c')) : c'.ok := by
  have key : ∀ (bs : List Int) (d node : Nat) (m m' : Ms) (c c' : Cd), c.ok → forthGo encP bs d node m c = some (m', c') → c'.ok := by
    intro bs
    induction bs with
    | nil => intro d node m m' c c' hc h; simp only [forthGo, Option.some.injEq, Prod.mk.injEq] at h; exact h.2 ▸ hc
    | cons b bs ih =>
      intro d node m m' c c' hc h
      simp only [forthGo, encP] at h
      split at h
      · cases h
      · rename_i c1 hc1
        obtain ⟨_, hc1⟩ := (Option.ite_none_right_eq_some).1 hc1
        simp only [Option.some.injEq] at hc1
        subst hc1
        exact ih _ _ _ _ _ _ (hc.bit _ _) h
  unfold forthS at h
  split at h
  · cases h
  · rename_i m1 s1 hg
    simp only [Option.some.injEq, Prod.mk.injEq] at h
    exact h.2 ▸ key _ _ _ _ _ _ _ hc hg
/-- Parts that were put are told. -/
theorem tell_parts : ∀ (ps : List (Int × Int)) (m : Ms) (c : Cd) (acc : List (Int × Int)) (bytes : List Int), (∀ p ∈ ps, 0 ≤ p.2) → c.ok → putGo ps m c = some (bytes, 0) →
    ∃ f : Cd, f.ok ∧ Lead c f ∧ bytes = be f.k f.n ∧ f.k < 30000000000000 ∧ getGo (bytesC f) ps.length m (c, false) acc = some (acc ++ ps, 0)
  | [], m, c, acc, bytes, _, hc, h => by
    simp only [putGo] at h
    obtain ⟨hk, h⟩ := (Option.ite_none_right_eq_some).1 h
    simp only [Option.some.injEq, Prod.mk.injEq, and_true] at h
    refine ⟨c, hc, Lead.refl c, h.symm, hk, ?_⟩
    simp only [List.length_nil, getGo, if_pos hk, if_pos (tell_end hc), List.append_nil]
  | (cl, r) :: ps, m, c, acc, bytes, hr, hc, h => by
    have hr0 := hr _ List.mem_cons_self
    simp only at hr0
    simp only [putGo] at h
    split at h
    · rename_i hm
      have hmv : (cl = 0 ∧ r = 0) ∨ (1 ≤ cl ∧ cl ≤ 64 ∧ r < 2 ^ (cl - 1).toNat) := by unfold mayv at hm; simpa using hm
      split at h
      · cases h
      · rename_i m1 c1 hf1
        obtain ⟨hk1, h⟩ := (Option.ite_none_right_eq_some).1 h
        have hc1 := forthS_cok (by omega) hc hf1
        obtain ⟨f, hf, hl, hb, hfk, hg⟩ := tell_parts ps m1 _ (acc ++ [(cl, r)]) bytes (fun p hp => hr p (List.mem_cons_of_mem _ hp)) (hc1.dir r.toNat (dirN (cl - 1))) h
        have hd := dirN_in (cl - 1)
        have hdn : dirN (cl - 1) = (cl - 1).toNat := by unfold mx mn at hd; omega
        have hrl : r.toNat < 2 ^ dirN (cl - 1) := by
          rw [hdn]
          rcases hmv with ⟨rfl, rfl⟩ | ⟨_, _, h3⟩
          · decide
          · have e : ((2 ^ (cl - 1).toNat : Nat) : Int) = (2 : Int) ^ (cl - 1).toNat := by push_cast; rfl
            omega
        obtain ⟨hl1, hdd⟩ := tell_dir hf r.toNat (dirN (cl - 1)) 0 c1 hc1 hd.2 (by
          have := Nat.pow_le_pow_right (n := 2) (by decide) hd.2
          simpa using this) hl
        rw [Nat.zero_mul, Nat.zero_add, Nat.mod_eq_of_lt hrl] at hdd
        have e1 : ((cl.toNat : Nat) : Int) = cl := by omega
        have e2 : ((r.toNat : Nat) : Int) = r := by omega
        obtain ⟨_, hl0, hcl⟩ := tell_class hf (by omega) hc hf1 hl1
        refine ⟨f, hf, hl0, hb, hfk, ?_⟩
        rw [e1] at hcl
        rw [e2] at hdd
        have hdd' : dDir (bytesC f) (c1, false) (cl - 1) = (r, 0, (dirC c1 r.toNat (dirN (cl - 1)), false)) := hdd
        simp only [List.length_cons, getGo, hcl, if_true, if_pos hk1, hdd']
        rw [hg]; simp
    · simp at h
theorem forthGo_some : ∀ (bs : List Int) (d node : Nat) (m : Ms) (c : Cd), c.k + 2 * bs.length ≤ 29999999999999 → ∃ m' c', forthGo encP bs d node m c = some (m', c') ∧ c'.k ≤ c.k + 2 * bs.length
  | [], d, node, m, c, _ => ⟨m, c, rfl, by simp⟩
  | b :: bs, d, node, m, c, h => by
    simp only [List.length_cons] at h
    have hb := bitC_k c (m.chance d node) b
    obtain ⟨m', c', h1, h2⟩ := forthGo_some bs (d + 1) (2 * node + b.toNat) (m.learn d node (m.chance d node) b) (bitC c (m.chance d node) b) (by omega)
    refine ⟨m', c', ?_, by simp only [List.length_cons]; omega⟩
    simp only [forthGo, encP, if_pos (show c.k < 30000000000000 by omega)]
    exact h1
theorem forthS_some (m : Ms) (cl : Nat) (c : Cd) (h : c.k ≤ 29999999990000) : ∃ m' c', forthS encP m cl c = some (m', c') ∧ c'.k ≤ c.k + 14 := by
  obtain ⟨m', c', h1, h2⟩ := forthGo_some (bitsv cl 7) 0 1 m c (by rw [bitsv_len]; omega)
  rw [bitsv_len] at h2
  exact ⟨m'.came cl, c', by unfold forthS; rw [h1], by omega⟩
theorem putGo_some : ∀ (ps : List (Int × Int)) (m : Ms) (c : Cd), (∀ p ∈ ps, mayv p.1 p.2 = true) → c.k + 200 * ps.length ≤ 29999999990000 → ∃ bytes, putGo ps m c = some (bytes, 0)
  | [], m, c, _, h => ⟨be c.k c.n, by simp only [putGo]; rw [if_pos (by simp at h; omega)]⟩
  | (cl, r) :: ps, m, c, hp, h => by
    simp only [List.length_cons] at h
    have h0 := hp _ List.mem_cons_self
    simp only at h0
    obtain ⟨m', c', h1, h2⟩ := forthS_some m cl.toNat c (by omega)
    have h3 := dirC_k c' r.toNat (dirN (cl - 1))
    have h4 := (dirN_in (cl - 1)).2
    obtain ⟨bytes, h5⟩ := putGo_some ps m' (dirC c' r.toNat (dirN (cl - 1))) (fun p hq => hp p (List.mem_cons_of_mem _ hq)) (by omega)
    refine ⟨bytes, ?_⟩
    simp only [putGo, h0, if_true, h1]
    rw [if_pos (by omega)]; exact h5
/-- Put, and told again. -/
theorem back {ps : List (Int × Int)} (hp : ∀ p ∈ ps, mayv p.1 p.2 = true ∧ 0 ≤ p.2) (hl : ps.length ≤ 4096) : ∃ bytes, putGo ps ms0 cd0 = some (bytes, 0) ∧ getS (strOfNums bytes) (ps.length : Nat) = some (ps, 0) := by
  obtain ⟨bytes, h⟩ := putGo_some ps ms0 cd0 (fun p hq => (hp p hq).1) (by simp only [cd0]; omega)
  obtain ⟨f, _, _, rfl, _, hg⟩ := tell_parts ps ms0 cd0 [] bytes (fun p hq => (hp p hq).2) cd0_ok h
  refine ⟨_, h, ?_⟩
  unfold getS
  rw [if_neg (by omega), Int.toNat_natCast]
  simpa [bytesC] using hg
end Go.Proofs.Ytbpbhjnkmonlbaa
