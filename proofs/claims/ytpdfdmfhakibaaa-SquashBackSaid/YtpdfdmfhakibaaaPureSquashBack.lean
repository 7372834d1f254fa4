/- A stretched chance is squashed to it or to the next one above; one less is squashed below it. No condition. -/
import Derived.Test.YtpdfdmfhakibaaaMSquashBack
namespace Go.Proofs.Ytpdfdmfhakibaaa.Pure
open Go.RowKit Go.Proofs.Ytpdfdmfhakibaaa.PSquashBack Go.Proofs.YtpdfdmfhakibaaaW.PrintWords Go.Proofs.YtpdfdmfhakibaaaW.PrintLast Go.Proofs.YtpdfdmfhakibaaaW.PrintMore
set_option maxRecDepth 100000
set_option maxHeartbeats 4000000

/-- A logit that may be. -/
def cl (a : Int) : Int := mx (-2047) (mn a 2047)
/-- A chance that may be. -/
def cp (a : Int) : Int := mx 1 (mn a 4095)
theorem cl_in (a : Int) : -2047 ≤ cl a ∧ cl a ≤ 2047 := by unfold cl mx mn; omega
theorem cl_id {a : Int} (h : -2047 ≤ a) (h' : a ≤ 2047) : cl a = a := by unfold cl mx mn; omega
theorem cp_in (a : Int) : 1 ≤ cp a ∧ cp a ≤ 4095 := by unfold cp mx mn; omega
theorem cp_id {a : Int} (h : 1 ≤ a) (h' : a ≤ 4095) : cp a = a := by unfold cp mx mn; omega
theorem cl_cl (a : Int) : mx (-2047) (mn (mx (-2047) (mn a 2047)) 2047) = mx (-2047) (mn a 2047) := cl_id (cl_in a).1 (cl_in a).2
theorem cp_cp (a : Int) : mx 1 (mn (mx 1 (mn a 4095)) 4095) = mx 1 (mn a 4095) := cp_id (cp_in a).1 (cp_in a).2
/-- Squash, and Stretch, with rounds enough. -/
def sq (x : Int) : Int := (squash_Squash.f 3 x).getD 0
def st (p : Int) : Int := (squash_Stretch.f 20 p).getD 0
theorem sq_clamp (k : Nat) (a : Int) : squash_Squash.f k a = squash_Squash.f k (cl a) := by
  cases k with
  | zero => rfl
  | succ k => unfold cl; simp only [squash_Squash.f, cl_cl]
theorem st_clamp (k : Nat) (a : Int) : squash_Stretch.f k a = squash_Stretch.f k (cp a) := by
  unfold cp squash_Stretch.f; rw [cp_cp]
def chkQ (i : Nat) : Bool := match squash_Squash.f 3 ((i : Int) - 2047) with | some r => decide (1 ≤ r) && decide (r ≤ 4095) && (match squash_Squash.f 3 (2047 - (i : Int)) with | some q => decide (r + q = 4096) | none => false) && (match squash_Squash.f 3 ((i : Int) - 2046) with | some q => decide (r ≤ q) | none => false) | none => false
theorem allQ : (List.range 4095).all chkQ = true := by decide +kernel
def chkT (i : Nat) : Bool := match squash_Stretch.f 20 ((i : Int) + 1) with
  | some r => decide (-2047 ≤ r) && decide (r ≤ 2047) && (match squash_Squash.f 3 r, squash_Squash.f 3 (r - 1) with | some q, some q' => (decide (r = 2047) || decide (i + 1 ≤ q)) && (decide (r = -2047) || decide (q' < i + 1)) | _, _ => false)
  | none => false
theorem allT : (List.range 4095).all chkT = true := by decide +kernel
theorem at_range (f : Nat → Bool) (h : (List.range 4095).all f = true) {i : Nat} (hi : i < 4095) : f i = true := List.all_eq_true.1 h i (List.mem_range.2 hi)
theorem sq_step {x : Int} (h : -2047 ≤ x) (h' : x ≤ 2047) : squash_Squash.f 3 x = some (sq x) ∧ 1 ≤ sq x ∧ sq x ≤ 4095 ∧ sq x + sq (-x) = 4096 ∧ sq x ≤ sq (x + 1) := by
  have hk := at_range _ allQ (i := (x + 2047).toNat) (by omega)
  have e : (((x + 2047).toNat : Nat) : Int) = x + 2047 := by omega
  unfold chkQ at hk
  rw [e, show x + 2047 - 2047 = x by omega, show 2047 - (x + 2047) = -x by omega, show x + 2047 - 2046 = x + 1 by omega] at hk
  unfold sq
  cases h1 : squash_Squash.f 3 x with
  | none => rw [h1] at hk; simp at hk
  | some r =>
    cases h2 : squash_Squash.f 3 (-x) with
    | none => rw [h1, h2] at hk; simp at hk
    | some q =>
      cases h3 : squash_Squash.f 3 (x + 1) with
      | none => rw [h1, h2, h3] at hk; simp at hk
      | some q' =>
        rw [h1, h2, h3] at hk
        simp only [Bool.and_eq_true, decide_eq_true_eq] at hk
        simp only [Option.getD_some]
        exact ⟨trivial, hk.1.1.1, hk.1.1.2, hk.1.2, hk.2⟩
theorem sq_some (k : Nat) (a : Int) : squash_Squash.f (k + 3) a = some (sq (cl a)) := by
  rw [sq_clamp]
  have h := (sq_step (cl_in a).1 (cl_in a).2).1
  exact at_rounds (g := fun k => squash_Squash.f k (cl a)) (fun k => squash_Squash.mono_l k _) (Nat.le_add_left 3 k) h
theorem sq_le {x y : Int} (h0 : -2047 ≤ x) (h : x ≤ y) (h1 : y ≤ 2047) : sq x ≤ sq y := by
  obtain ⟨n, rfl⟩ : ∃ n : Nat, y = x + n := ⟨(y - x).toNat, by omega⟩
  clear h
  induction n with
  | zero => simp
  | succ n ih =>
    have h2 := ih (by omega)
    have h3 := (sq_step (x := x + n) (by omega) (by omega)).2.2.2.2
    rw [show x + ((n + 1 : Nat) : Int) = x + n + 1 by omega]
    omega
theorem st_step {p : Int} (h : 1 ≤ p) (h' : p ≤ 4095) : squash_Stretch.f 20 p = some (st p) ∧ -2047 ≤ st p ∧ st p ≤ 2047 ∧ (st p = 2047 ∨ p ≤ sq (st p)) ∧ (st p = -2047 ∨ sq (st p - 1) < p) := by
  have hk := at_range _ allT (i := (p - 1).toNat) (by omega)
  have e : (((p - 1).toNat : Nat) : Int) = p - 1 := by omega
  unfold chkT at hk
  rw [e, show p - 1 + 1 = p by omega] at hk
  unfold st sq
  cases h1 : squash_Stretch.f 20 p with
  | none => rw [h1] at hk; simp at hk
  | some r =>
    simp only [h1] at hk
    simp only [Option.getD_some]
    cases h2 : squash_Squash.f 3 r with
    | none => rw [h2] at hk; simp at hk
    | some q =>
      cases h3 : squash_Squash.f 3 (r - 1) with
      | none => rw [h2, h3] at hk; simp at hk
      | some q' =>
        rw [h2, h3] at hk
        simp only [Bool.and_eq_true, Bool.or_eq_true, decide_eq_true_eq] at hk
        simp only [Option.getD_some]
        exact ⟨trivial, hk.1.1, hk.1.2, hk.2.1, hk.2.2⟩
theorem st_some (a : Int) : squash_Stretch.f 20 a = some (st (cp a)) := by
  rw [st_clamp]; exact (st_step (cp_in a).1 (cp_in a).2).1
theorem st_le {p q : Int} (h0 : 1 ≤ p) (h : p ≤ q) (h1 : q ≤ 4095) : st p ≤ st q := by
  have a := st_step h0 (by omega)
  have b := st_step (p := q) (by omega) h1
  rcases b.2.2.2.1 with e | e
  · omega
  rcases a.2.2.2.2 with e' | e'
  · omega
  by_cases hlt : st q < st p
  · have := sq_le (x := st q) (y := st p - 1) b.2.1 (by omega) (by omega)
    omega
  · omega
theorem awake_some : wringerlaw17_awake.f 20 = some true := by decide +kernel

theorem SquashBack : wringerlaw17_SquashBack.Pure := by
  intro a0 h
  have hb : 0 ≤ a0 ∧ a0 ≤ 65535 := by simpa [Lit.wf, IntKind.min, IntKind.max, IntKind.signed, IntKind.bits] using h
  refine ⟨20, ?_⟩
  unfold wringerlaw17_SquashBack.f
  have S : ∀ a, squash_Squash.f 20 a = some (sq (cl a)) := fun a => sq_some 17 a
  have hw : wrap64 a0 = a0 := by unfold wrap64; omega
  have hm : 0 ≤ Int.tmod a0 4095 ∧ Int.tmod a0 4095 < 4095 := ⟨Int.tmod_nonneg _ hb.1, Int.tmod_lt_of_pos a0 (by omega)⟩
  rw [hw, show wrap64 (1 + Int.tmod a0 4095) = 1 + Int.tmod a0 4095 from by unfold wrap64; omega]
  generalize Int.tmod a0 4095 = m at *
  have hp := cp_id (a := 1 + m) (by omega) (by omega)
  have ht := st_step (p := 1 + m) (by omega) (by omega)
  rw [st_some, hp]
  simp only [Option.bind_some, S]
  generalize st (1 + m) = t at *
  obtain ⟨_, t1, t2, t3, t4⟩ := ht
  rw [show wrap64 (t - 1) = t - 1 from by unfold wrap64; omega]
  have aw : ((wringerlaw17_awake.f 20).bind fun t106 => some t106) = some true := by rw [awake_some]; rfl
  by_cases e : t = 2047
  · rw [if_pos e, if_neg (by omega), cl_id (a := t - 1) (by omega) (by omega), if_pos (by omega), aw]
  · rw [if_neg e, cl_id t1 t2, if_pos (by omega)]
    by_cases e' : t = -2047
    · rw [if_pos e', aw]
    · rw [if_neg e', cl_id (a := t - 1) (by omega) (by omega), if_pos (by omega), aw]

end Go.Proofs.Ytpdfdmfhakibaaa.Pure
