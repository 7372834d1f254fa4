/- The functions that SquashKnown reaches, and their walks. No condition. -/
import Derived.Test.YtpdfdmfhakibaaaPSquashKnownx0
namespace Go.Proofs.Ytpdfdmfhakibaaa.PSquashKnown
open Go.RowKit Go.Proofs.YtpdfdmfhakibaaaW.PrintWords Go.Proofs.YtpdfdmfhakibaaaW.PrintLast Go.Proofs.YtpdfdmfhakibaaaW.PrintMore
attribute [local go_sem] max2_int min2_int max_two min_two max_three min_three max_four min_four   -- for this text's walks alone
set_option linter.unusedVariables false
set_option linter.unusedSimpArgs false

/-! ### squash_Squash: function 8 -/
def squash_Squash.f : Nat → Int → Option (Int)
  | 0, _ => none
  | k + 1, a0 => if (mx (-2047) (mn a0 2047)) < 0 then ((squash_Squash.f k (-(mx (-2047) (mn a0 2047)))).bind fun t101 => (some (wrap64 (4096 - t101)))) else (if 0 ≤ (wrap64 (Int.tdiv (mx (-2047) (mn a0 2047)) 256)) then (if (wrap64 (65536 + (wrap64 ((shr .i64 65536 (wrap64 (Int.tdiv (mx (-2047) (mn a0 2047)) 256))) - (wrap64 (Int.tdiv (wrap64 (((shr .i64 65536 (wrap64 (Int.tdiv (mx (-2047) (mn a0 2047)) 256))) / 2) * (Int.tmod (mx (-2047) (mn a0 2047)) 256))) 256)))))) = 0 then (none) else (some (wrap64 ((268435456 : Int) / (wrap64 (65536 + (wrap64 ((shr .i64 65536 (wrap64 (Int.tdiv (mx (-2047) (mn a0 2047)) 256))) - (wrap64 (Int.tdiv (wrap64 (((shr .i64 65536 (wrap64 (Int.tdiv (mx (-2047) (mn a0 2047)) 256))) / 2) * (Int.tmod (mx (-2047) (mn a0 2047)) 256))) 256)))))))))) else (none))
theorem squash_Squash.mono_l : ∀ k, (∀ y0, LeO (squash_Squash.f k y0) (squash_Squash.f (k + 1) y0))
  | 0 => fun _ r h => by simp [squash_Squash.f] at h
  | k + 1 => by
    have ih0 := squash_Squash.mono_l k
    · intro y0
      unfold squash_Squash.f
      repeat' first
      | (with_reducible exact ih0 _)
      | (with_reducible exact LeO.refl _)
      | (with_reducible exact LeO.none _)
      | (with_reducible refine LeO.ite ?_ ?_)
      | (with_reducible refine LeO.bind ?_ (fun _ => ?_))
      | exact ih0 _
      | exact LeO.none _
      | refine LeO.ite ?_ ?_
      | refine LeO.bind ?_ (fun _ => ?_)
theorem squash_Squash.mono : ∀ a0 k, LeO (squash_Squash.f k a0) (squash_Squash.f (k + 1) a0) := by
  intro a0 k
  have ih0 := squash_Squash.mono_l k
  exact ih0 a0
set_option maxHeartbeats 8000000 in
set_option maxRecDepth 100000 in
theorem squash_Squash.calls (k : Nat) : ∀ (a0 : Int) (r : Int) (w : World) (h : squash_Squash.f k a0 = some r),
    Calls Try.prog 8 #[.int .i64 a0] w fun e w' => e = .returned (.int .i64 r) ∧ Below w.heap.size w w' := by
  induction k using Nat.strongRecOn with
  | _ k ih =>
  intro a0 r w h
  cases k with
  | zero => exact absurd h (by simp [squash_Squash.f])
  | succ k =>
  simp only [squash_Squash.f] at h
  have HB := Aside0.mk (Below.refl w.heap.size w)
  have H : (if (mx (-2047) (mn a0 2047)) < 0 then ((squash_Squash.f k (-(mx (-2047) (mn a0 2047)))).bind fun t101 => (some (wrap64 (4096 - t101)))) else (if 0 ≤ (wrap64 (Int.tdiv (mx (-2047) (mn a0 2047)) 256)) then (if (wrap64 (65536 + (wrap64 ((shr .i64 65536 (wrap64 (Int.tdiv (mx (-2047) (mn a0 2047)) 256))) - (wrap64 (Int.tdiv (wrap64 (((shr .i64 65536 (wrap64 (Int.tdiv (mx (-2047) (mn a0 2047)) 256))) / 2) * (Int.tmod (mx (-2047) (mn a0 2047)) 256))) 256)))))) = 0 then (none) else (some (wrap64 ((268435456 : Int) / (wrap64 (65536 + (wrap64 ((shr .i64 65536 (wrap64 (Int.tdiv (mx (-2047) (mn a0 2047)) 256))) - (wrap64 (Int.tdiv (wrap64 (((shr .i64 65536 (wrap64 (Int.tdiv (mx (-2047) (mn a0 2047)) 256))) / 2) * (Int.tmod (mx (-2047) (mn a0 2047)) 256))) 256)))))))))) else (none))) = some r := h
  clear h
  obtain ⟨ji2, hji2⟩ : ∃ j_ : Int, (mn a0 2047) = j_ := ⟨_, rfl⟩
  replace H : (if (mx (-2047) (ji2)) < 0 then ((squash_Squash.f k (-(mx (-2047) (ji2)))).bind fun t101 => (some (wrap64 (4096 - t101)))) else (if 0 ≤ (wrap64 (Int.tdiv (mx (-2047) (ji2)) 256)) then (if (wrap64 (65536 + (wrap64 ((shr .i64 65536 (wrap64 (Int.tdiv (mx (-2047) (ji2)) 256))) - (wrap64 (Int.tdiv (wrap64 (((shr .i64 65536 (wrap64 (Int.tdiv (mx (-2047) (ji2)) 256))) / 2) * (Int.tmod (mx (-2047) (ji2)) 256))) 256)))))) = 0 then (none) else (some (wrap64 ((268435456 : Int) / (wrap64 (65536 + (wrap64 ((shr .i64 65536 (wrap64 (Int.tdiv (mx (-2047) (ji2)) 256))) - (wrap64 (Int.tdiv (wrap64 (((shr .i64 65536 (wrap64 (Int.tdiv (mx (-2047) (ji2)) 256))) / 2) * (Int.tmod (mx (-2047) (ji2)) 256))) 256)))))))))) else (none))) = some r := by first | (rw [hji2] at H; exact H) | (simp only [hji2] at H ⊢; exact H)
  (try (have hji2h : ji2 ≤ 2047 := by (rw [← hji2]; unfold mn; (repeat' split) <;> omega)))
  (try (have hji2g : ji2 ≤ 64 := by omega))
  have hji2_ : (if 2047 < a0 then 2047 else a0) = ji2 := hji2
  obtain ⟨ji3, hji3⟩ : ∃ j_ : Int, (mx (-2047) (ji2)) = j_ := ⟨_, rfl⟩
  replace H : (if (ji3) < 0 then ((squash_Squash.f k (-(ji3))).bind fun t101 => (some (wrap64 (4096 - t101)))) else (if 0 ≤ (wrap64 (Int.tdiv (ji3) 256)) then (if (wrap64 (65536 + (wrap64 ((shr .i64 65536 (wrap64 (Int.tdiv (ji3) 256))) - (wrap64 (Int.tdiv (wrap64 (((shr .i64 65536 (wrap64 (Int.tdiv (ji3) 256))) / 2) * (Int.tmod (ji3) 256))) 256)))))) = 0 then (none) else (some (wrap64 ((268435456 : Int) / (wrap64 (65536 + (wrap64 ((shr .i64 65536 (wrap64 (Int.tdiv (ji3) 256))) - (wrap64 (Int.tdiv (wrap64 (((shr .i64 65536 (wrap64 (Int.tdiv (ji3) 256))) / 2) * (Int.tmod (ji3) 256))) 256)))))))))) else (none))) = some r := by first | (rw [hji3] at H; exact H) | (simp only [hji3] at H ⊢; exact H)
  have hji3_ : (if (-2047) < (ji2) then (ji2) else (-2047)) = ji3 := hji3
  by_cases c4 : (ji3) < 0
  · rw [if_pos c4] at H
    have c4b0 : decide ((ji3) < 0) = true := decide_eq_true c4
    clear c4
    replace H := Option.bind_eq_some_iff.mp H
    obtain ⟨t101, A50, H⟩ := H
    replace H : (some (wrap64 (4096 - t101))) = some r := H
    have A5 := Aside0.mk A50
    clear A50
    obtain rfl := Option.some.inj H
    go_enter Try.func8, Try.ntmps8
    go_wp2_with (first | ((with_reducible refine gate_callee (f := 8) rfl ?_); refine goesL_ (some 11) rfl rfl Try.func8 (by kernel_rfl) rfl #[.int .i64 (-(ji3))] rfl (by (try simp only [List.map_toArray, List.map_cons, List.map_nil]); first | done | (simp only [hji3]; rfl) | rfl | (simp only [List.length_drop, List.length_take]; rfl)) ?_; (with_reducible refine (ih k (by omega) (-(ji3)) t101 _ A5.out).mono ?_); rintro e w6 ⟨rfl, hb⟩; refine ⟨_, rfl, ?_⟩; have n0_ := Aside0.mk (below_step (by repeat (first | (with_reducible first | exact HB.out | apply below_alloc | apply pw_below_drewN | apply below_drew1) | exact HB.out)) hb); clear HB; have HB := n0_; clear n0_; (try clear hb); (try clear hb2); (try clear hk); (try clear hi)))
    go_ret
    exact ⟨by first | rfl | (simp [errW_none, errW_some] <;> rfl) | (simp only [← hji2, ← hji3]; first | rfl | (simp [errW_none, errW_some] <;> rfl)) | (simp [*, errW_none, errW_some] <;> rfl), by repeat (first | (with_reducible first | exact HB.out | apply below_alloc | apply pw_below_drewN | apply below_drew1) | exact HB.out)⟩
  · rw [if_neg c4] at H
    have c4b0 : decide ((ji3) < 0) = false := decide_eq_false c4
    clear c4
    obtain ⟨ji7, hji7⟩ : ∃ j_ : Int, (wrap64 (Int.tdiv (ji3) 256)) = j_ := ⟨_, rfl⟩
    replace H : (if 0 ≤ (ji7) then (if (wrap64 (65536 + (wrap64 ((shr .i64 65536 (ji7)) - (wrap64 (Int.tdiv (wrap64 (((shr .i64 65536 (ji7)) / 2) * (Int.tmod (ji3) 256))) 256)))))) = 0 then (none) else (some (wrap64 ((268435456 : Int) / (wrap64 (65536 + (wrap64 ((shr .i64 65536 (ji7)) - (wrap64 (Int.tdiv (wrap64 (((shr .i64 65536 (ji7)) / 2) * (Int.tmod (ji3) 256))) 256)))))))))) else (none)) = some r := by first | (rw [hji7] at H; exact H) | (simp only [hji7] at H ⊢; exact H)
    have hji7w : (IntKind.i64.wrap (Int.tdiv (ji3) 256)) = ji7 := (i64_w _).trans hji7
    by_cases c8 : 0 ≤ (ji7)
    · rw [if_pos c8] at H
      have c8b0 := eq_true c8
      have c8b1 : decide (0 ≤ (ji7)) = true := decide_eq_true c8
      clear c8
      obtain ⟨ji9, hji9⟩ : ∃ j_ : Int, (shr .i64 65536 (ji7)) = j_ := ⟨_, rfl⟩
      replace H : (if (wrap64 (65536 + (wrap64 ((ji9) - (wrap64 (Int.tdiv (wrap64 (((ji9) / 2) * (Int.tmod (ji3) 256))) 256)))))) = 0 then (none) else (some (wrap64 ((268435456 : Int) / (wrap64 (65536 + (wrap64 ((ji9) - (wrap64 (Int.tdiv (wrap64 (((ji9) / 2) * (Int.tmod (ji3) 256))) 256)))))))))) = some r := by first | (rw [hji9] at H; exact H) | (simp only [hji9] at H ⊢; exact H)
      have hji9_ : (65536 / 2 ^ min (ji7).toNat 64) = ji9 := hji9
      have hji9z : (ji7) ≤ 64 → (65536 / 2 ^ (ji7).toNat) = ji9 := shr_small hji9
      by_cases c10 : (wrap64 (65536 + (wrap64 ((ji9) - (wrap64 (Int.tdiv (wrap64 (((ji9) / 2) * (Int.tmod (ji3) 256))) 256)))))) = 0
      · rw [if_pos c10] at H
        exact absurd H (by simp)
      · rw [if_neg c10] at H
        have c10b0 : ((wrap64 (65536 + (wrap64 ((ji9) - (wrap64 (Int.tdiv (wrap64 (((ji9) / 2) * (Int.tmod (ji3) 256))) 256)))))) == 0) = false := beq_eq_false_iff_ne.mpr c10
        have c10b1 : ((wrap64 (65536 + (wrap64 ((ji9) - (wrap64 (Int.tdiv (wrap64 (((ji9) / 2) * (Int.tmod (ji3) 256))) 256)))))) != 0) = true := bne_iff_ne.mpr c10
        obtain rfl := Option.some.inj H
        obtain ⟨hji9n, hji9m⟩ : 0 ≤ ji9 ∧ ji9 ≤ 65536 := by rw [← hji9]; unfold shr; exact ⟨Int.ediv_nonneg (by decide) (Int.le_of_lt (Int.pow_pos (by decide))), Int.ediv_le_self _ (by decide)⟩
        rw [← Int.tdiv_eq_ediv_of_nonneg (a := 268435456) (by decide)]
        go_enter Try.func8, Try.ntmps8
        go_wp2
        go_ret
        exact ⟨by first | rfl | (simp [errW_none, errW_some] <;> rfl) | (simp only [← hji2, ← hji3, ← hji7, ← hji9]; first | rfl | (simp [errW_none, errW_some] <;> rfl)) | (simp [*, errW_none, errW_some] <;> rfl), by repeat (first | (with_reducible first | exact HB.out | apply below_alloc | apply pw_below_drewN | apply below_drew1) | exact HB.out)⟩
    · rw [if_neg c8] at H
      exact absurd H (by simp)

/-! ### squash_Stretch: function 10 -/
def squash_Stretch.l0 : Nat → Int → Int → Int → Option (Int)
  | 0, _, _, _ => none
  | k + 1, x0, x3, x4 => if x3 < x4 then ((squash_Squash.f k (wrap64 ((wrap64 (Int.tdiv (wrap64 (x3 + x4)) 2)) - 2047))).bind fun t102 => (if t102 < x0 then (squash_Stretch.l0 k x0 (wrap64 ((wrap64 (Int.tdiv (wrap64 (x3 + x4)) 2)) + 1)) x4) else (squash_Stretch.l0 k x0 x3 (wrap64 (Int.tdiv (wrap64 (x3 + x4)) 2))))) else (some (mn (wrap64 (x3 - 2047)) 2047))
def squash_Stretch.f (k : Nat) (a0 : Int) : Option (Int) := squash_Stretch.l0 k (mx 1 (mn a0 4095)) 0 4095
theorem squash_Stretch.mono_l : ∀ k, (∀ y0 y1 y2, LeO (squash_Stretch.l0 k y0 y1 y2) (squash_Stretch.l0 (k + 1) y0 y1 y2))
  | 0 => fun _ _ _ r h => by simp [squash_Stretch.l0] at h
  | k + 1 => by
    have ih0 := squash_Stretch.mono_l k
    · intro y0 y1 y2
      unfold squash_Stretch.l0
      repeat' first
      | (with_reducible exact ih0 _ _ _)
      | (with_reducible exact squash_Squash.mono _ _)
      | (with_reducible exact LeO.refl _)
      | (with_reducible exact LeO.none _)
      | (with_reducible refine LeO.ite ?_ ?_)
      | (with_reducible refine LeO.bind ?_ (fun _ => ?_))
      | exact ih0 _ _ _
      | exact squash_Squash.mono _ _
      | exact LeO.none _
      | refine LeO.ite ?_ ?_
      | refine LeO.bind ?_ (fun _ => ?_)
theorem squash_Stretch.mono : ∀ a0 k, LeO (squash_Stretch.f k a0) (squash_Stretch.f (k + 1) a0) := by
  intro a0 k
  have ih0 := squash_Stretch.mono_l k
  unfold squash_Stretch.f
  repeat' first
      | (with_reducible exact ih0 _ _ _)
      | (with_reducible exact squash_Squash.mono _ _)
      | (with_reducible exact LeO.refl _)
      | (with_reducible exact LeO.none _)
      | (with_reducible refine LeO.ite ?_ ?_)
      | (with_reducible refine LeO.bind ?_ (fun _ => ?_))
      | exact ih0 _ _ _
      | exact squash_Squash.mono _ _
      | exact LeO.none _
      | refine LeO.ite ?_ ?_
      | refine LeO.bind ?_ (fun _ => ?_)
set_option maxHeartbeats 8000000 in
set_option maxRecDepth 100000 in
theorem squash_Stretch.calls (k : Nat) (a0 : Int) (r : Int) (w : World) (h : squash_Stretch.f k a0 = some r) :
    Calls Try.prog 10 #[.int .i64 a0] w fun e w' => e = .returned (.int .i64 r) ∧ Below w.heap.size w w' := by
  have HB := Aside0.mk (Below.refl w.heap.size w)
  have H : (squash_Stretch.l0 k (mx 1 (mn a0 4095)) 0 4095) = some r := h
  clear h
  obtain ⟨ji2, hji2⟩ : ∃ j_ : Int, (mn a0 4095) = j_ := ⟨_, rfl⟩
  replace H : (squash_Stretch.l0 k (mx 1 (ji2)) 0 4095) = some r := by first | (rw [hji2] at H; exact H) | (simp only [hji2] at H ⊢; exact H)
  (try (have hji2h : ji2 ≤ 4095 := by (rw [← hji2]; unfold mn; (repeat' split) <;> omega)))
  (try (have hji2g : ji2 ≤ 64 := by omega))
  have hji2_ : (if 4095 < a0 then 4095 else a0) = ji2 := hji2
  obtain ⟨ji3, hji3⟩ : ∃ j_ : Int, (mx 1 (ji2)) = j_ := ⟨_, rfl⟩
  replace H : (squash_Stretch.l0 k ji3 0 4095) = some r := by first | (rw [hji3] at H; exact H) | (simp only [hji3] at H ⊢; exact H)
  have hji3_ : (if 1 < (ji2) then (ji2) else 1) = ji3 := hji3
  have H' := Aside0.mk H
  clear H
  go_enter Try.func10, Try.ntmps10
  go_wp2
  go_loopg [3, 4] k (fun kq v3 v4 w' => ∃ (x3_1 : Int) (x4_1 : Int), v3 = .int .i64 x3_1 ∧ v4 = .int .i64 x4_1 ∧ Aside0 (squash_Stretch.l0 kq ji3 x3_1 x4_1 = some r) ∧ Aside0 (kq ≤ k) ∧ Aside0 (Below w.heap.size w w'))
  case atStart => exact ⟨(0), (4095), (by first | rfl | (simp; done) | (simp [*]; done)), (by first | rfl | (simp; done) | (simp [*]; done)), H', ⟨Nat.le_refl _⟩, ⟨by repeat (first | (with_reducible first | exact HB.out | apply below_alloc | apply pw_below_drewN | apply below_drew1) | exact HB.out)⟩⟩
  case round =>
    clear H'
    try clear c1
    try clear p2
    obtain ⟨x3_1, x4_1, rfl, rfl, HA, HK1, HB⟩ := hrel
    cases gk with
    | zero => exact absurd HA.out (by simp [squash_Stretch.l0])
    | succ k1 =>
      have H := HA.out
      clear HA
      simp only [squash_Stretch.l0] at H
      by_cases c4 : x3_1 < x4_1
      · rw [if_pos c4] at H
        have c4b0 : decide (x3_1 < x4_1) = true := decide_eq_true c4
        clear c4
        replace H := Option.bind_eq_some_iff.mp H
        obtain ⟨t102, A50, H⟩ := H
        replace H : (if t102 < ji3 then (squash_Stretch.l0 k1 ji3 (wrap64 ((wrap64 (Int.tdiv (wrap64 (x3_1 + x4_1)) 2)) + 1)) x4_1) else (squash_Stretch.l0 k1 ji3 x3_1 (wrap64 (Int.tdiv (wrap64 (x3_1 + x4_1)) 2)))) = some r := H
        have A5 := Aside0.mk A50
        clear A50
        by_cases c6 : t102 < ji3
        · rw [if_pos c6] at H
          have c6b0 : decide (t102 < ji3) = true := decide_eq_true c6
          clear c6
          have H' := Aside0.mk H
          clear H
          go_wp2_with (first | ((with_reducible refine gate_callee (f := 8) rfl ?_); refine goesL_ (some 18) rfl rfl Try.func8 (by kernel_rfl) rfl #[.int .i64 (wrap64 ((wrap64 (Int.tdiv (wrap64 (x3_1 + x4_1)) 2)) - 2047))] rfl (by (try simp only [List.map_toArray, List.map_cons, List.map_nil]); first | done | rfl | (simp only [List.length_drop, List.length_take]; rfl)) ?_; (with_reducible refine (squash_Squash.calls k1 (wrap64 ((wrap64 (Int.tdiv (wrap64 (x3_1 + x4_1)) 2)) - 2047)) t102 _ A5.out).mono ?_); rintro e w7 ⟨rfl, hb⟩; refine ⟨_, rfl, ?_⟩; have n0_ := Aside0.mk (below_step (by repeat (first | (with_reducible first | exact HB.out | apply below_alloc | apply pw_below_drewN | apply below_drew1) | exact HB.out)) hb); clear HB; have HB := n0_; clear n0_; (try clear hb); (try clear hb2); (try clear hk); (try clear hi)))
          go_roundg k1
          case measure => have := HK1.out; omega
          case rel => exact ⟨(wrap64 ((wrap64 (Int.tdiv (wrap64 (x3_1 + x4_1)) 2)) + 1)), (x4_1), (by first | rfl | (simp; done) | (simp [*]; done)), (by first | rfl | (simp; done) | (simp [*]; done)), H', ⟨by have := HK1.out; omega⟩, ⟨by repeat (first | (with_reducible first | exact HB.out | apply below_alloc | apply pw_below_drewN | apply below_drew1) | exact HB.out)⟩⟩
        · rw [if_neg c6] at H
          have c6b0 : decide (t102 < ji3) = false := decide_eq_false c6
          clear c6
          have H' := Aside0.mk H
          clear H
          go_wp2_with (first | ((with_reducible refine gate_callee (f := 8) rfl ?_); refine goesL_ (some 18) rfl rfl Try.func8 (by kernel_rfl) rfl #[.int .i64 (wrap64 ((wrap64 (Int.tdiv (wrap64 (x3_1 + x4_1)) 2)) - 2047))] rfl (by (try simp only [List.map_toArray, List.map_cons, List.map_nil]); first | done | rfl | (simp only [List.length_drop, List.length_take]; rfl)) ?_; (with_reducible refine (squash_Squash.calls k1 (wrap64 ((wrap64 (Int.tdiv (wrap64 (x3_1 + x4_1)) 2)) - 2047)) t102 _ A5.out).mono ?_); rintro e w8 ⟨rfl, hb⟩; refine ⟨_, rfl, ?_⟩; have n0_ := Aside0.mk (below_step (by repeat (first | (with_reducible first | exact HB.out | apply below_alloc | apply pw_below_drewN | apply below_drew1) | exact HB.out)) hb); clear HB; have HB := n0_; clear n0_; (try clear hb); (try clear hb2); (try clear hk); (try clear hi)))
          go_roundg k1
          case measure => have := HK1.out; omega
          case rel => exact ⟨(x3_1), (wrap64 (Int.tdiv (wrap64 (x3_1 + x4_1)) 2)), (by first | rfl | (simp; done) | (simp [*]; done)), (by first | rfl | (simp; done) | (simp [*]; done)), H', ⟨by have := HK1.out; omega⟩, ⟨by repeat (first | (with_reducible first | exact HB.out | apply below_alloc | apply pw_below_drewN | apply below_drew1) | exact HB.out)⟩⟩
      · rw [if_neg c4] at H
        have c4b0 : decide (x3_1 < x4_1) = false := decide_eq_false c4
        clear c4
        obtain ⟨ji9, hji9⟩ : ∃ j_ : Int, (mn (wrap64 (x3_1 - 2047)) 2047) = j_ := ⟨_, rfl⟩
        replace H : (some ji9) = some r := by first | (rw [hji9] at H; exact H) | (simp only [hji9] at H ⊢; exact H)
        have hji9_ : (if 2047 < (wrap64 (x3_1 - 2047)) then 2047 else (wrap64 (x3_1 - 2047))) = ji9 := hji9
        obtain rfl := Option.some.inj H
        go_wp2
        go_ret
        exact ⟨by first | rfl | (simp [errW_none, errW_some] <;> rfl) | (simp only [← hji2, ← hji3, ← hji9]; first | rfl | (simp [errW_none, errW_some] <;> rfl)) | (simp [*, errW_none, errW_some] <;> rfl), by repeat (first | (with_reducible first | exact HB.out | apply below_alloc | apply pw_below_drewN | apply below_drew1) | exact HB.out)⟩

/-! ### wringerlaw17_awake: function 12 -/
def wringerlaw17_awake.f (k : Nat)  : Option (Bool) := (squash_Squash.f k 0).bind fun t103 => (if t103 = 2048 then ((squash_Stretch.f k 2048).bind fun t104 => (some (t104 == 0))) else (some false))
theorem wringerlaw17_awake.mono : ∀ k, LeO (wringerlaw17_awake.f k ) (wringerlaw17_awake.f (k + 1) ) := by
  intro  k
  unfold wringerlaw17_awake.f
  repeat' first
      | (with_reducible exact squash_Squash.mono _ _)
      | (with_reducible exact squash_Stretch.mono _ _)
      | (with_reducible exact LeO.refl _)
      | (with_reducible exact LeO.none _)
      | (with_reducible refine LeO.ite ?_ ?_)
      | (with_reducible refine LeO.bind ?_ (fun _ => ?_))
      | exact squash_Squash.mono _ _
      | exact squash_Stretch.mono _ _
      | exact LeO.none _
      | refine LeO.ite ?_ ?_
      | refine LeO.bind ?_ (fun _ => ?_)
set_option maxHeartbeats 8000000 in
set_option maxRecDepth 100000 in
theorem wringerlaw17_awake.calls (k : Nat)  (r : Bool) (w : World) (h : wringerlaw17_awake.f k  = some r) :
    Calls Try.prog 12 #[] w fun e w' => e = .returned (.bool r) ∧ Below w.heap.size w w' := by
  have HB := Aside0.mk (Below.refl w.heap.size w)
  have H : ((squash_Squash.f k 0).bind fun t103 => (if t103 = 2048 then ((squash_Stretch.f k 2048).bind fun t104 => (some (t104 == 0))) else (some false))) = some r := h
  clear h
  replace H := Option.bind_eq_some_iff.mp H
  obtain ⟨t103, A10, H⟩ := H
  replace H : (if t103 = 2048 then ((squash_Stretch.f k 2048).bind fun t104 => (some (t104 == 0))) else (some false)) = some r := H
  have A1 := Aside0.mk A10
  clear A10
  by_cases c2 : t103 = 2048
  · rw [if_pos c2] at H
    have c2b0 : (t103 == 2048) = true := beq_iff_eq.mpr c2
    have c2b1 : (t103 != 2048) = false := bne_eq_false_iff_eq.mpr c2
    clear c2
    replace H := Option.bind_eq_some_iff.mp H
    obtain ⟨t104, A30, H⟩ := H
    replace H : (some (t104 == 0)) = some r := H
    have A3 := Aside0.mk A30
    clear A30
    obtain rfl := Option.some.inj H
    go_enter Try.func12, Try.ntmps12
    go_wp2_with (first | ((with_reducible refine gate_callee (f := 8) rfl ?_); refine goesL_ (some 1) rfl rfl Try.func8 (by kernel_rfl) rfl #[.int .i64 0] rfl (by (try simp only [List.map_toArray, List.map_cons, List.map_nil]); first | done | rfl | (simp only [List.length_drop, List.length_take]; rfl)) ?_; (with_reducible refine (squash_Squash.calls k 0 t103 _ A1.out).mono ?_); rintro e w4 ⟨rfl, hb⟩; refine ⟨_, rfl, ?_⟩; have n0_ := Aside0.mk (below_step (by repeat (first | (with_reducible first | exact HB.out | apply below_alloc | apply pw_below_drewN | apply below_drew1) | exact HB.out)) hb); clear HB; have HB := n0_; clear n0_; (try clear hb); (try clear hb2); (try clear hk); (try clear hi)) | (go_at_call 10; (with_reducible refine (squash_Stretch.calls k 2048 t104 _ A3.out).mono ?_); rintro e w5 ⟨rfl, hb⟩; have n0_ := Aside0.mk (below_step (by repeat (first | (with_reducible first | exact HB.out | apply below_alloc | apply pw_below_drewN | apply below_drew1) | exact HB.out)) hb); clear HB; have HB := n0_; clear n0_; (try clear hb); (try clear hb2); (try clear hk); (try clear hi)))
    go_ret
    exact ⟨by first | rfl | (simp [errW_none, errW_some] <;> rfl) | (simp [*, errW_none, errW_some] <;> rfl), by repeat (first | (with_reducible first | exact HB.out | apply below_alloc | apply pw_below_drewN | apply below_drew1) | exact HB.out)⟩
  · rw [if_neg c2] at H
    have c2b0 : (t103 == 2048) = false := beq_eq_false_iff_ne.mpr c2
    have c2b1 : (t103 != 2048) = true := bne_iff_ne.mpr c2
    obtain rfl := Option.some.inj H
    go_enter Try.func12, Try.ntmps12
    go_wp2_with (first | ((with_reducible refine gate_callee (f := 8) rfl ?_); refine goesL_ (some 1) rfl rfl Try.func8 (by kernel_rfl) rfl #[.int .i64 0] rfl (by (try simp only [List.map_toArray, List.map_cons, List.map_nil]); first | done | rfl | (simp only [List.length_drop, List.length_take]; rfl)) ?_; (with_reducible refine (squash_Squash.calls k 0 t103 _ A1.out).mono ?_); rintro e w6 ⟨rfl, hb⟩; refine ⟨_, rfl, ?_⟩; have n0_ := Aside0.mk (below_step (by repeat (first | (with_reducible first | exact HB.out | apply below_alloc | apply pw_below_drewN | apply below_drew1) | exact HB.out)) hb); clear HB; have HB := n0_; clear n0_; (try clear hb); (try clear hb2); (try clear hk); (try clear hi)))
    go_ret
    exact ⟨by first | rfl | (simp [errW_none, errW_some] <;> rfl) | (simp [*, errW_none, errW_some] <;> rfl), by repeat (first | (with_reducible first | exact HB.out | apply below_alloc | apply pw_below_drewN | apply below_drew1) | exact HB.out)⟩

/-! ### wringerlaw17_SquashKnown: function 6 -/
def wringerlaw17_SquashKnown.f (k : Nat) (a0 : Int) : Option (Bool) := (some (([0, 256, 512, 768, 1024, 1280, 1536, 1792, 2047, (-256), (-2047), 128] : List Int) : List Int)).bind fun y105 => ((some (([2048, 2730, 3276, 3640, 3855, 3971, 4032, 4064, 4080, 1366, 16, 2340] : List Int) : List Int)).bind fun y108 => (if (y105.length : Int) = 0 then (none) else (if 0 ≤ (Int.tmod (wrap64 (a0)) (y105.length : Int)) then (if (Int.tmod (wrap64 (a0)) (y105.length : Int)) < (y105.length : Int) then ((squash_Squash.f k (rd y105 (Int.tmod (wrap64 (a0)) (y105.length : Int)))).bind fun t112 => (if (Int.tmod (wrap64 (a0)) (y105.length : Int)) < (y108.length : Int) then (if t112 = (rd y108 (Int.tmod (wrap64 (a0)) (y105.length : Int))) then ((wringerlaw17_awake.f k).bind fun t114 => (some t114)) else (some false)) else (none))) else (none)) else (none))))
theorem wringerlaw17_SquashKnown.mono : ∀ a0 k, LeO (wringerlaw17_SquashKnown.f k a0) (wringerlaw17_SquashKnown.f (k + 1) a0) := by
  intro a0 k
  unfold wringerlaw17_SquashKnown.f
  repeat' first
      | (with_reducible exact squash_Squash.mono _ _)
      | (with_reducible exact wringerlaw17_awake.mono _)
      | (with_reducible exact LeO.refl _)
      | (with_reducible exact LeO.none _)
      | (with_reducible refine LeO.ite ?_ ?_)
      | (with_reducible refine LeO.bind ?_ (fun _ => ?_))
      | exact squash_Squash.mono _ _
      | exact wringerlaw17_awake.mono _
      | exact LeO.none _
      | refine LeO.ite ?_ ?_
      | refine LeO.bind ?_ (fun _ => ?_)
def wringerlaw17_SquashKnown.T4 : Bool × List (List Nat × List Nat) := (true, [([], []), ([], []), ([0, 1], [0, 1]), ([2], [2]), ([3], [3]), ([], []), ([], []), ([5, 6], [5, 6]), ([7], [7]), ([4, 8], [4, 8]), ([9, 4], [9]), ([10, 10], [10]), ([10, 11], [10, 11]), ([12, 11, 0, 1, 2, 3, 4, 5, 6, 7, 8, 9, 10, 11, 12], [12])])
def wringerlaw17_SquashKnown.B4 : List Nat := [0, 0, 3, 7, 15, 0, 0, 96, 224, 511, 1023, 2047, 4095, 8191]
theorem wringerlaw17_SquashKnown.tab4 : rtab .any (opsOf Try.f6 4) = wringerlaw17_SquashKnown.T4 := by kernel_rfl
theorem wringerlaw17_SquashKnown.bits4 : waitsOk wringerlaw17_SquashKnown.T4.2 wringerlaw17_SquashKnown.B4 = true := by kernel_rfl
set_option maxHeartbeats 8000000 in
set_option maxRecDepth 100000 in
theorem wringerlaw17_SquashKnown.calls (k : Nat) (a0 : Int) (r : Bool) (w : World) (h : wringerlaw17_SquashKnown.f k a0 = some r) :
    Calls Try.prog 6 #[.int .u8 a0] w fun e w' => e = .returned (.bool r) ∧ Below w.heap.size w w' := by
  have HB := Aside0.mk (Below.refl w.heap.size w)
  have H : ((some (([0, 256, 512, 768, 1024, 1280, 1536, 1792, 2047, (-256), (-2047), 128] : List Int) : List Int)).bind fun y105 => ((some (([2048, 2730, 3276, 3640, 3855, 3971, 4032, 4064, 4080, 1366, 16, 2340] : List Int) : List Int)).bind fun y108 => (if (y105.length : Int) = 0 then (none) else (if 0 ≤ (Int.tmod (wrap64 (a0)) (y105.length : Int)) then (if (Int.tmod (wrap64 (a0)) (y105.length : Int)) < (y105.length : Int) then ((squash_Squash.f k (rd y105 (Int.tmod (wrap64 (a0)) (y105.length : Int)))).bind fun t112 => (if (Int.tmod (wrap64 (a0)) (y105.length : Int)) < (y108.length : Int) then (if t112 = (rd y108 (Int.tmod (wrap64 (a0)) (y105.length : Int))) then ((wringerlaw17_awake.f k).bind fun t114 => (some t114)) else (some false)) else (none))) else (none)) else (none))))) = some r := h
  clear h
  obtain ⟨y105, hy105⟩ : ∃ y_ : List Int, y_ = (([0, 256, 512, 768, 1024, 1280, 1536, 1792, 2047, (-256), (-2047), 128] : List Int)) := ⟨_, rfl⟩
  replace H : ((some (([2048, 2730, 3276, 3640, 3855, 3971, 4032, 4064, 4080, 1366, 16, 2340] : List Int) : List Int)).bind fun y108 => (if (y105.length : Int) = 0 then (none) else (if 0 ≤ (Int.tmod (wrap64 (a0)) (y105.length : Int)) then (if (Int.tmod (wrap64 (a0)) (y105.length : Int)) < (y105.length : Int) then ((squash_Squash.f k (rd y105 (Int.tmod (wrap64 (a0)) (y105.length : Int)))).bind fun t112 => (if (Int.tmod (wrap64 (a0)) (y105.length : Int)) < (y108.length : Int) then (if t112 = (rd y108 (Int.tmod (wrap64 (a0)) (y105.length : Int))) then ((wringerlaw17_awake.f k).bind fun t114 => (some t114)) else (some false)) else (none))) else (none)) else (none)))) = some r := by first | (rw [hy105]; with_reducible exact H) | (have H2_ := (Option.bind_some _ _).symm.trans H; rw [hy105]; with_reducible exact H2_) | (have H2_ := (Option.bind_some _ _).symm.trans H; with_reducible exact H2_) | with_reducible exact H | (rw [hy105]; exact H) | exact H
  have Ny105 := Aside0.mk hy105
  clear hy105
  obtain ⟨y108, hy108⟩ : ∃ y_ : List Int, y_ = (([2048, 2730, 3276, 3640, 3855, 3971, 4032, 4064, 4080, 1366, 16, 2340] : List Int)) := ⟨_, rfl⟩
  replace H : (if (y105.length : Int) = 0 then (none) else (if 0 ≤ (Int.tmod (wrap64 (a0)) (y105.length : Int)) then (if (Int.tmod (wrap64 (a0)) (y105.length : Int)) < (y105.length : Int) then ((squash_Squash.f k (rd y105 (Int.tmod (wrap64 (a0)) (y105.length : Int)))).bind fun t112 => (if (Int.tmod (wrap64 (a0)) (y105.length : Int)) < (y108.length : Int) then (if t112 = (rd y108 (Int.tmod (wrap64 (a0)) (y105.length : Int))) then ((wringerlaw17_awake.f k).bind fun t114 => (some t114)) else (some false)) else (none))) else (none)) else (none))) = some r := by first | (rw [hy108]; with_reducible exact H) | (have H2_ := (Option.bind_some _ _).symm.trans H; rw [hy108]; with_reducible exact H2_) | (have H2_ := (Option.bind_some _ _).symm.trans H; with_reducible exact H2_) | with_reducible exact H | (rw [hy108]; exact H) | exact H
  have Ny108 := Aside0.mk hy108
  clear hy108
  by_cases c2 : (y105.length : Int) = 0
  · rw [if_pos c2] at H
    exact absurd H (by simp)
  · rw [if_neg c2] at H
    have c2b0 : ((y105.length : Int) == 0) = false := beq_eq_false_iff_ne.mpr c2
    have c2b1 : ((y105.length : Int) != 0) = true := bne_iff_ne.mpr c2
    have c2b2 : ¬ (y105 = []) := fun h_ => c2 (by rw [h_]; rfl)
    obtain ⟨ji3, hji3⟩ : ∃ j_ : Int, (Int.tmod (wrap64 (a0)) (y105.length : Int)) = j_ := ⟨_, rfl⟩
    replace H : (if 0 ≤ (ji3) then (if (ji3) < (y105.length : Int) then ((squash_Squash.f k (rd y105 (ji3))).bind fun t112 => (if (ji3) < (y108.length : Int) then (if t112 = (rd y108 (ji3)) then ((wringerlaw17_awake.f k).bind fun t114 => (some t114)) else (some false)) else (none))) else (none)) else (none)) = some r := by first | (rw [hji3] at H; exact H) | (simp only [hji3] at H ⊢; exact H)
    by_cases c4 : 0 ≤ (ji3)
    · rw [if_pos c4] at H
      have c4b0 : decide (0 ≤ (ji3)) = true := decide_eq_true c4
      clear c4
      by_cases c5 : (ji3) < (y105.length : Int)
      · rw [if_pos c5] at H
        have c5b0 : decide ((ji3) < (y105.length : Int)) = true := decide_eq_true c5
        clear c5
        replace H := Option.bind_eq_some_iff.mp H
        obtain ⟨t112, A60, H⟩ := H
        replace H : (if (ji3) < (y108.length : Int) then (if t112 = (rd y108 (ji3)) then ((wringerlaw17_awake.f k).bind fun t114 => (some t114)) else (some false)) else (none)) = some r := H
        have A6 := Aside0.mk A60
        clear A60
        by_cases c7 : (ji3) < (y108.length : Int)
        · rw [if_pos c7] at H
          have c7b0 : decide ((ji3) < (y108.length : Int)) = true := decide_eq_true c7
          clear c7
          by_cases c8 : t112 = (rd y108 (ji3))
          · rw [if_pos c8] at H
            have c8b0 : (t112 == (rd y108 (ji3))) = true := beq_iff_eq.mpr c8
            have c8b1 : (t112 != (rd y108 (ji3))) = false := bne_eq_false_iff_eq.mpr c8
            clear c8
            replace H := Option.bind_eq_some_iff.mp H
            obtain ⟨t114, A90, H⟩ := H
            replace H : (some t114) = some r := H
            have A9 := Aside0.mk A90
            clear A90
            obtain rfl := Option.some.inj H
            go_enter Try.func6, Try.ntmps6
            try go_wp2_with (first | ((with_reducible refine gate_dst (N := 6) rfl ?_); refine Kd.R_lit (Kd.int .i64) _ 3 ?hg (N := 6) ?hd (xs := ([0, 256, 512, 768, 1024, 1280, 1536, 1792, 2047, (-256), (-2047), 128] : List Int)) (inner := [.int .i64 0, .int .i64 256, .int .i64 512, .int .i64 768, .int .i64 1024, .int .i64 1280, .int .i64 1536, .int .i64 1792, .int .i64 2047, .int .i64 (-256), .int .i64 (-2047), .int .i64 128]) (ok := fun _ => True) (okp := fun _ => True) ?hr ?hp (fun _ hk => hk) trivial (Below.refl _ _) (Nat.le_refl _) (by simp) ?_; (case hd => rfl); (case hg => rfl); (case hr => first | (go_simp; done) | (go_simp; rfl)); (case hp => exact (Reps.one (show Kd.M (Kd.int .i64) _ _ _ 0 [.int .i64 0] from rfl) (Reps.one (show Kd.M (Kd.int .i64) _ _ _ 256 [.int .i64 256] from rfl) (Reps.one (show Kd.M (Kd.int .i64) _ _ _ 512 [.int .i64 512] from rfl) (Reps.one (show Kd.M (Kd.int .i64) _ _ _ 768 [.int .i64 768] from rfl) (Reps.one (show Kd.M (Kd.int .i64) _ _ _ 1024 [.int .i64 1024] from rfl) (Reps.one (show Kd.M (Kd.int .i64) _ _ _ 1280 [.int .i64 1280] from rfl) (Reps.one (show Kd.M (Kd.int .i64) _ _ _ 1536 [.int .i64 1536] from rfl) (Reps.one (show Kd.M (Kd.int .i64) _ _ _ 1792 [.int .i64 1792] from rfl) (Reps.one (show Kd.M (Kd.int .i64) _ _ _ 2047 [.int .i64 2047] from rfl) (Reps.one (show Kd.M (Kd.int .i64) _ _ _ (-256) [.int .i64 (-256)] from rfl) (Reps.one (show Kd.M (Kd.int .i64) _ _ _ (-2047) [.int .i64 (-2047)] from rfl) (Reps.one (show Kd.M (Kd.int .i64) _ _ _ 128 [.int .i64 128] from rfl) (Reps.none _ _)))))))))))))); intro v106 w10 ho11 hb hg_ hnew_; clear hg_ hnew_; (first | rw [← Ny105.out] at ho11 | (simp only [Int.reduceToNat] at ho11; rw [← Ny105.out] at ho11)); have n0_ := Aside0.mk (Kd.R_lower ho11 (below_size (by repeat (first | (with_reducible first | exact HB.out | apply below_alloc | apply pw_below_drewN | apply below_drew1) | exact HB.out)))); have n1_ := Aside0.mk (below_step (by repeat (first | (with_reducible first | exact HB.out | apply below_alloc | apply pw_below_drewN | apply below_drew1) | exact HB.out)) hb); clear HB; have HO107 := n0_; have HB := n1_; clear n0_ n1_; clear hb ho11) | ((with_reducible refine gate_dst (N := 7) rfl ?_); refine Kd.R_lit (Kd.int .i64) _ 3 ?hg (N := 7) ?hd (xs := ([2048, 2730, 3276, 3640, 3855, 3971, 4032, 4064, 4080, 1366, 16, 2340] : List Int)) (inner := [.int .i64 2048, .int .i64 2730, .int .i64 3276, .int .i64 3640, .int .i64 3855, .int .i64 3971, .int .i64 4032, .int .i64 4064, .int .i64 4080, .int .i64 1366, .int .i64 16, .int .i64 2340]) (ok := fun _ => True) (okp := fun _ => True) ?hr ?hp (fun _ hk => hk) trivial (Below.refl _ _) (Nat.le_refl _) (by simp) ?_; (case hd => rfl); (case hg => rfl); (case hr => first | (go_simp; done) | (go_simp; rfl)); (case hp => exact (Reps.one (show Kd.M (Kd.int .i64) _ _ _ 2048 [.int .i64 2048] from rfl) (Reps.one (show Kd.M (Kd.int .i64) _ _ _ 2730 [.int .i64 2730] from rfl) (Reps.one (show Kd.M (Kd.int .i64) _ _ _ 3276 [.int .i64 3276] from rfl) (Reps.one (show Kd.M (Kd.int .i64) _ _ _ 3640 [.int .i64 3640] from rfl) (Reps.one (show Kd.M (Kd.int .i64) _ _ _ 3855 [.int .i64 3855] from rfl) (Reps.one (show Kd.M (Kd.int .i64) _ _ _ 3971 [.int .i64 3971] from rfl) (Reps.one (show Kd.M (Kd.int .i64) _ _ _ 4032 [.int .i64 4032] from rfl) (Reps.one (show Kd.M (Kd.int .i64) _ _ _ 4064 [.int .i64 4064] from rfl) (Reps.one (show Kd.M (Kd.int .i64) _ _ _ 4080 [.int .i64 4080] from rfl) (Reps.one (show Kd.M (Kd.int .i64) _ _ _ 1366 [.int .i64 1366] from rfl) (Reps.one (show Kd.M (Kd.int .i64) _ _ _ 16 [.int .i64 16] from rfl) (Reps.one (show Kd.M (Kd.int .i64) _ _ _ 2340 [.int .i64 2340] from rfl) (Reps.none _ _)))))))))))))); intro v109 w12 ho13 hb hg_ hnew_; clear hg_ hnew_; (first | rw [← Ny108.out] at ho13 | (simp only [Int.reduceToNat] at ho13; rw [← Ny108.out] at ho13)); have n0_ := Aside0.mk (Kd.R_elder' (by (with_reducible repeat (first | apply Kd.R_alloc | apply Kd.R_drewN | apply Kd.R_drew)); exact HO107.out) (Kd.R_base ho13) hb); have n1_ := Aside0.mk (Kd.R_lower (Kd.R_new' ho13 (Kd.R_lt (by (with_reducible repeat (first | apply Kd.R_alloc | apply Kd.R_drewN | apply Kd.R_drew)); exact HO107.out))) (below_size (by repeat (first | (with_reducible first | exact HB.out | apply below_alloc | apply pw_below_drewN | apply below_drew1) | exact HB.out)))); have n2_ := Aside0.mk (below_step (by repeat (first | (with_reducible first | exact HB.out | apply below_alloc | apply pw_below_drewN | apply below_drew1) | exact HB.out)) hb); clear HO107; clear HB; have HO107 := n0_; have HO110 := n1_; have HB := n2_; clear n0_ n1_ n2_; clear hb ho13; obtain ⟨Ao14, co14, eo14⟩ := Kd.R_slice HO107.out; subst eo14))
            have n0_ := Aside0.mk (Kd.R_drew HO107.out)
            have n1_ := Aside0.mk (Kd.R_drew HO110.out)
            have n2_ := Aside0.mk (below_drew1 HB.out)
            clear HO107
            clear HO110
            clear HB
            have HO107 := n0_
            have HO110 := n1_
            have HB := n2_
            clear n0_ n1_ n2_
            have p111 : 0 ≤ ((ji3) : Int) := of_decide_eq_true (by first | (with_reducible assumption) | assumption)
            have q111 : (ji3) < (y105.length : Int) := of_decide_eq_true (by first | (with_reducible assumption) | assumption)
            obtain ⟨ad111, e111, hx111_0⟩ := Kd.at_int (Kd.R_reads' HO107.out).2.2 (ji3) p111 q111
            cases e111
            replace p111 := eq_true p111
            replace q111 := eq_true q111
            obtain ⟨Ao16, co16, eo16⟩ := Kd.R_slice HO110.out
            (first | subst eo16 | (injection eo16 with f1_ f2_ f3_; have f4_ := f1_.symm; have f5_ := f3_.symm; clear f1_ f2_ f3_; subst f4_; subst f5_))
            have p113 : 0 ≤ ((ji3) : Int) := of_decide_eq_true (by first | (with_reducible assumption) | assumption)
            have q113 : (ji3) < (y108.length : Int) := of_decide_eq_true (by first | (with_reducible assumption) | assumption)
            obtain ⟨ad113, e113, hx113_0⟩ := Kd.at_int (Kd.R_reads' HO110.out).2.2 (ji3) p113 q113
            cases e113
            replace p113 := eq_true p113
            replace q113 := eq_true q113
            refine start_ (n := 14) (S := fun w' => w'.cell? (ad111.add ((ji3)).toNat) = some (.int .i64 (rd y105 (ji3))) ∧ w'.cell? (ad113.add ((ji3)).toNat) = some (.int .i64 (rd y108 (ji3)))) (ds := []) #[false, false, false, false, false, false, false, false, false, false, false, false, false, false] (by kernel_rfl) rfl rfl ⟨hx111_0, hx113_0⟩ (fun hHeld => ?_); refine with_tabW wringerlaw17_SquashKnown.tab4 wringerlaw17_SquashKnown.bits4 (fun HT_ HW_ => ?_)
            generalize w12.drew = w15 at HO107 HO110 HB hx111_0 hx113_0 hHeld ⊢
            refine pure_ (i := 0) (N := some 13) (v := ?_) (a' := ?_) #[true, false, false, false, false, false, false, false, false, false, false, false, false, false] rfl rfl (any_of HT_.out (by kernel_rfl)) (fun _ _ _ h => h) (Or.inl ⟨by rfl, ?_⟩) ?_ ?_
            rotate_left
            · intro w'
              go_simp
              with_reducible rfl
            rotate_left
            · simp only [Act.put, List.setIfInBounds_toArray, List.set_cons_zero, List.set_cons_succ, i64_w, i32_w]
              rfl
            refine pure_ (i := 1) (N := some 14) (v := ?_) (a' := ?_) #[true, true, false, false, false, false, false, false, false, false, false, false, false, false] rfl rfl (any_of HT_.out (by kernel_rfl)) (fun _ _ _ h => h) (Or.inl ⟨by rfl, ?_⟩) ?_ ?_
            rotate_left
            · intro w'
              go_simp
              with_reducible rfl
            rotate_left
            · simp only [Act.put, List.setIfInBounds_toArray, List.set_cons_zero, List.set_cons_succ, i64_w, i32_w]
              rfl
            refine pure_ (i := 2) (N := some 15) (v := ?_) (a' := ?_) #[true, true, true, false, false, false, false, false, false, false, false, false, false, false] rfl rfl (any_of HT_.out (by kernel_rfl)) (fun _ _ _ h => h) (Or.inl ⟨by rfl, ?_⟩) ?_ ?_
            rotate_left
            · intro w'
              go_simp
              with_reducible rfl
            rotate_left
            · simp only [Act.put, List.setIfInBounds_toArray, List.set_cons_zero, List.set_cons_succ, i64_w, i32_w]
              rfl
            refine pure_ (i := 5) (N := some 18) (v := ?_) (a' := ?_) #[true, true, true, false, false, true, false, false, false, false, false, false, false, false] rfl rfl (any_of HT_.out (by kernel_rfl)) (fun _ _ _ h => h) (Or.inl ⟨by rfl, ?_⟩) ?_ ?_
            rotate_left
            · intro w'
              go_simp
              with_reducible rfl
            rotate_left
            · simp only [Act.put, List.setIfInBounds_toArray, List.set_cons_zero, List.set_cons_succ, i64_w, i32_w]
              rfl
            refine pure_ (i := 6) (N := some 19) (v := ?_) (a' := ?_) #[true, true, true, false, false, true, true, false, false, false, false, false, false, false] rfl rfl (any_of HT_.out (by kernel_rfl)) (fun _ _ _ h => h) (Or.inl ⟨by rfl, ?_⟩) ?_ ?_
            rotate_left
            · intro w'
              go_simp
              with_reducible rfl
            rotate_left
            · simp only [Act.put, List.setIfInBounds_toArray, List.set_cons_zero, List.set_cons_succ, i64_w, i32_w]
              rfl
            refine pure_ (i := 7) (N := some 20) (v := ?_) (a' := ?_) #[true, true, true, false, false, true, true, true, false, false, false, false, false, false] rfl rfl (any_of HT_.out (by kernel_rfl)) (fun _ _ _ h => h) (Or.inl ⟨by rfl, ?_⟩) ?_ ?_
            rotate_left
            · intro w'
              go_simp
              with_reducible rfl
            rotate_left
            · simp only [Act.put, List.setIfInBounds_toArray, List.set_cons_zero, List.set_cons_succ, i64_w, i32_w]
              rfl
            refine take_ (i := 3) (N := some 16) (v := ?_) (a' := ?_) #[true, true, true, true, false, true, true, true, false, false, false, false, false, false] rfl rfl (take_ofW HT_.out HW_.out (by kernel_rfl)) (fun _ _ _ h => h) (Or.inl ⟨by rfl, ?_⟩) hHeld ?_ ?_
            rotate_left
            · rintro w' ⟨s0, s1⟩
              go_simp
              with_reducible rfl
            rotate_left
            · simp only [Act.put, List.setIfInBounds_toArray, List.set_cons_zero, List.set_cons_succ, i64_w, i32_w]
              rfl
            refine take_ (i := 8) (N := some 21) (v := ?_) (a' := ?_) #[true, true, true, true, false, true, true, true, true, false, false, false, false, false] rfl rfl (take_ofW HT_.out HW_.out (by kernel_rfl)) (fun _ _ _ h => h) (Or.inl ⟨by rfl, ?_⟩) hHeld ?_ ?_
            rotate_left
            · rintro w' ⟨s0, s1⟩
              go_simp
              with_reducible rfl
            rotate_left
            · simp only [Act.put, List.setIfInBounds_toArray, List.set_cons_zero, List.set_cons_succ, i64_w, i32_w]
              rfl
            refine one_ (i := 4) (N := some 17) #[true, true, true, true, true, true, true, true, true, false, false, false, false, false] rfl rfl (one_of HT_.out (by kernel_rfl)) (by decide) (fun K hK => ?_)
            refine goes_ Try.func8 (by kernel_rfl) rfl #[.int .i64 (rd y105 (ji3))] (by rfl) rfl rfl (by (try simp only [List.map_toArray, List.map_cons, List.map_nil]); first | done | (simp only [hji3]; rfl) | rfl | (simp only [List.length_drop, List.length_take]; rfl)) ?_
            with_reducible refine (squash_Squash.calls k (rd y105 (ji3)) t112 _ A6.out).mono ?_
            rintro e w17 ⟨rfl, hb⟩
            have HS0_ := (hb.cell (World.block_lt_of_cell? _ _ (hHeld.1))).trans (hHeld.1)
            have HS1_ := (hb.cell (World.block_lt_of_cell? _ _ (hHeld.2))).trans (hHeld.2)
            refine ⟨_, rfl, ?_⟩
            have n0_ := Aside0.mk (Kd.R_below (by (with_reducible repeat (first | apply Kd.R_alloc | apply Kd.R_drewN | apply Kd.R_drew)); exact HO107.out) hb)
            have n1_ := Aside0.mk (Kd.R_below (by (with_reducible repeat (first | apply Kd.R_alloc | apply Kd.R_drewN | apply Kd.R_drew)); exact HO110.out) hb)
            have n2_ := Aside0.mk (below_step (by repeat (first | (with_reducible first | exact HB.out | apply below_alloc | apply pw_below_drewN | apply below_drew1) | exact HB.out)) hb)
            clear HO107
            clear HO110
            clear HB
            have HO107 := n0_
            have HO110 := n1_
            have HB := n2_
            clear n0_ n1_ n2_
            (try clear hb)
            (try clear hb2)
            (try clear hk)
            (try clear hi)
            refine hK.out _ _ ⟨HS0_, HS1_⟩ (fun hHeld => ?_)
            clear hK K
            refine norm_ (a' := ?_) ?_ ?_
            rotate_left
            · show Act.put _ (some 17) _ = _
              simp only [Act.put, List.setIfInBounds_toArray, List.set_cons_zero, List.set_cons_succ, i64_w, i32_w]
              rfl
            refine pure_ (i := 9) (N := some 22) (v := ?_) (a' := ?_) #[true, true, true, true, true, true, true, true, true, true, false, false, false, false] rfl rfl (any_of HT_.out (by kernel_rfl)) (fun _ _ _ h => h) (Or.inl ⟨by rfl, ?_⟩) ?_ ?_
            rotate_left
            · intro w'
              go_simp
              with_reducible rfl
            rotate_left
            · simp only [Act.put, List.setIfInBounds_toArray, List.set_cons_zero, List.set_cons_succ, i64_w, i32_w]
              rfl
            refine pure_ (i := 10) (N := some 23) (v := ?_) (a' := ?_) #[true, true, true, true, true, true, true, true, true, true, true, false, false, false] rfl rfl (any_of HT_.out (by kernel_rfl)) (fun _ _ _ h => h) (Or.inl ⟨by rfl, ?_⟩) ?_ ?_
            rotate_left
            · intro w'
              go_simp
              with_reducible rfl
            rotate_left
            · simp only [Act.put, List.setIfInBounds_toArray, List.set_cons_zero, List.set_cons_succ, i64_w, i32_w]
              rfl
            refine one_ (i := 11) (N := some 24) #[true, true, true, true, true, true, true, true, true, true, true, true, false, false] rfl rfl (one_of HT_.out (by kernel_rfl)) (by decide) (fun K hK => ?_)
            refine goes_ Try.func12 (by kernel_rfl) rfl #[] (by rfl) rfl rfl (by (try simp only [List.map_toArray, List.map_cons, List.map_nil]); first | done | rfl | (simp only [List.length_drop, List.length_take]; rfl)) ?_
            with_reducible refine (wringerlaw17_awake.calls k  t114 _ A9.out).mono ?_
            rintro e w18 ⟨rfl, hb⟩
            have HS0_ := (hb.cell (World.block_lt_of_cell? _ _ (hHeld.1))).trans (hHeld.1)
            have HS1_ := (hb.cell (World.block_lt_of_cell? _ _ (hHeld.2))).trans (hHeld.2)
            refine ⟨_, rfl, ?_⟩
            have n0_ := Aside0.mk (Kd.R_below (by (with_reducible repeat (first | apply Kd.R_alloc | apply Kd.R_drewN | apply Kd.R_drew)); exact HO107.out) hb)
            have n1_ := Aside0.mk (Kd.R_below (by (with_reducible repeat (first | apply Kd.R_alloc | apply Kd.R_drewN | apply Kd.R_drew)); exact HO110.out) hb)
            have n2_ := Aside0.mk (below_step (by repeat (first | (with_reducible first | exact HB.out | apply below_alloc | apply pw_below_drewN | apply below_drew1) | exact HB.out)) hb)
            clear HO107
            clear HO110
            clear HB
            have HO107 := n0_
            have HO110 := n1_
            have HB := n2_
            clear n0_ n1_ n2_
            (try clear hb)
            (try clear hb2)
            (try clear hk)
            (try clear hi)
            refine hK.out _ _ ⟨HS0_, HS1_⟩ (fun hHeld => ?_)
            clear hK K
            refine norm_ (a' := ?_) ?_ ?_
            rotate_left
            · show Act.put _ (some 24) _ = _
              simp only [Act.put, List.setIfInBounds_toArray, List.set_cons_zero, List.set_cons_succ, i64_w, i32_w]
              rfl
            refine pure_ (i := 12) (N := some 25) (v := ?_) (a' := ?_) #[true, true, true, true, true, true, true, true, true, true, true, true, true, false] rfl rfl (any_of HT_.out (by kernel_rfl)) (fun _ _ _ h => h) (Or.inl ⟨by rfl, ?_⟩) ?_ ?_
            rotate_left
            · intro w'
              go_simp
              with_reducible rfl
            rotate_left
            · simp only [Act.put, List.setIfInBounds_toArray, List.set_cons_zero, List.set_cons_succ, i64_w, i32_w]
              rfl
            refine pure_ (i := 13) (N := some 2) (v := ?_) (a' := ?_) #[true, true, true, true, true, true, true, true, true, true, true, true, true, true] rfl rfl (any_of HT_.out (by kernel_rfl)) (fun _ _ _ h => h) (Or.inl ⟨by rfl, ?_⟩) ?_ ?_
            rotate_left
            · intro w'
              go_simp
              with_reducible rfl
            rotate_left
            · simp only [Act.put, List.setIfInBounds_toArray, List.set_cons_zero, List.set_cons_succ, i64_w, i32_w]
              rfl
            refine done_ (done_of HT_.out (by kernel_rfl)) ?_
            try go_wp2
            go_ret
            exact ⟨by first | rfl | (simp [errW_none, errW_some] <;> rfl) | (simp only [← hji3]; first | rfl | (simp [errW_none, errW_some] <;> rfl)) | (simp [*, errW_none, errW_some] <;> rfl), by repeat (first | (with_reducible first | exact HB.out | apply below_alloc | apply pw_below_drewN | apply below_drew1) | exact HB.out)⟩
          · rw [if_neg c8] at H
            have c8b0 : (t112 == (rd y108 (ji3))) = false := beq_eq_false_iff_ne.mpr c8
            have c8b1 : (t112 != (rd y108 (ji3))) = true := bne_iff_ne.mpr c8
            obtain rfl := Option.some.inj H
            go_enter Try.func6, Try.ntmps6
            try go_wp2_with (first | ((with_reducible refine gate_dst (N := 6) rfl ?_); refine Kd.R_lit (Kd.int .i64) _ 3 ?hg (N := 6) ?hd (xs := ([0, 256, 512, 768, 1024, 1280, 1536, 1792, 2047, (-256), (-2047), 128] : List Int)) (inner := [.int .i64 0, .int .i64 256, .int .i64 512, .int .i64 768, .int .i64 1024, .int .i64 1280, .int .i64 1536, .int .i64 1792, .int .i64 2047, .int .i64 (-256), .int .i64 (-2047), .int .i64 128]) (ok := fun _ => True) (okp := fun _ => True) ?hr ?hp (fun _ hk => hk) trivial (Below.refl _ _) (Nat.le_refl _) (by simp) ?_; (case hd => rfl); (case hg => rfl); (case hr => first | (go_simp; done) | (go_simp; rfl)); (case hp => exact (Reps.one (show Kd.M (Kd.int .i64) _ _ _ 0 [.int .i64 0] from rfl) (Reps.one (show Kd.M (Kd.int .i64) _ _ _ 256 [.int .i64 256] from rfl) (Reps.one (show Kd.M (Kd.int .i64) _ _ _ 512 [.int .i64 512] from rfl) (Reps.one (show Kd.M (Kd.int .i64) _ _ _ 768 [.int .i64 768] from rfl) (Reps.one (show Kd.M (Kd.int .i64) _ _ _ 1024 [.int .i64 1024] from rfl) (Reps.one (show Kd.M (Kd.int .i64) _ _ _ 1280 [.int .i64 1280] from rfl) (Reps.one (show Kd.M (Kd.int .i64) _ _ _ 1536 [.int .i64 1536] from rfl) (Reps.one (show Kd.M (Kd.int .i64) _ _ _ 1792 [.int .i64 1792] from rfl) (Reps.one (show Kd.M (Kd.int .i64) _ _ _ 2047 [.int .i64 2047] from rfl) (Reps.one (show Kd.M (Kd.int .i64) _ _ _ (-256) [.int .i64 (-256)] from rfl) (Reps.one (show Kd.M (Kd.int .i64) _ _ _ (-2047) [.int .i64 (-2047)] from rfl) (Reps.one (show Kd.M (Kd.int .i64) _ _ _ 128 [.int .i64 128] from rfl) (Reps.none _ _)))))))))))))); intro v106 w19 ho20 hb hg_ hnew_; clear hg_ hnew_; (first | rw [← Ny105.out] at ho20 | (simp only [Int.reduceToNat] at ho20; rw [← Ny105.out] at ho20)); have n0_ := Aside0.mk (Kd.R_lower ho20 (below_size (by repeat (first | (with_reducible first | exact HB.out | apply below_alloc | apply pw_below_drewN | apply below_drew1) | exact HB.out)))); have n1_ := Aside0.mk (below_step (by repeat (first | (with_reducible first | exact HB.out | apply below_alloc | apply pw_below_drewN | apply below_drew1) | exact HB.out)) hb); clear HB; have HO107 := n0_; have HB := n1_; clear n0_ n1_; clear hb ho20) | ((with_reducible refine gate_dst (N := 7) rfl ?_); refine Kd.R_lit (Kd.int .i64) _ 3 ?hg (N := 7) ?hd (xs := ([2048, 2730, 3276, 3640, 3855, 3971, 4032, 4064, 4080, 1366, 16, 2340] : List Int)) (inner := [.int .i64 2048, .int .i64 2730, .int .i64 3276, .int .i64 3640, .int .i64 3855, .int .i64 3971, .int .i64 4032, .int .i64 4064, .int .i64 4080, .int .i64 1366, .int .i64 16, .int .i64 2340]) (ok := fun _ => True) (okp := fun _ => True) ?hr ?hp (fun _ hk => hk) trivial (Below.refl _ _) (Nat.le_refl _) (by simp) ?_; (case hd => rfl); (case hg => rfl); (case hr => first | (go_simp; done) | (go_simp; rfl)); (case hp => exact (Reps.one (show Kd.M (Kd.int .i64) _ _ _ 2048 [.int .i64 2048] from rfl) (Reps.one (show Kd.M (Kd.int .i64) _ _ _ 2730 [.int .i64 2730] from rfl) (Reps.one (show Kd.M (Kd.int .i64) _ _ _ 3276 [.int .i64 3276] from rfl) (Reps.one (show Kd.M (Kd.int .i64) _ _ _ 3640 [.int .i64 3640] from rfl) (Reps.one (show Kd.M (Kd.int .i64) _ _ _ 3855 [.int .i64 3855] from rfl) (Reps.one (show Kd.M (Kd.int .i64) _ _ _ 3971 [.int .i64 3971] from rfl) (Reps.one (show Kd.M (Kd.int .i64) _ _ _ 4032 [.int .i64 4032] from rfl) (Reps.one (show Kd.M (Kd.int .i64) _ _ _ 4064 [.int .i64 4064] from rfl) (Reps.one (show Kd.M (Kd.int .i64) _ _ _ 4080 [.int .i64 4080] from rfl) (Reps.one (show Kd.M (Kd.int .i64) _ _ _ 1366 [.int .i64 1366] from rfl) (Reps.one (show Kd.M (Kd.int .i64) _ _ _ 16 [.int .i64 16] from rfl) (Reps.one (show Kd.M (Kd.int .i64) _ _ _ 2340 [.int .i64 2340] from rfl) (Reps.none _ _)))))))))))))); intro v109 w21 ho22 hb hg_ hnew_; clear hg_ hnew_; (first | rw [← Ny108.out] at ho22 | (simp only [Int.reduceToNat] at ho22; rw [← Ny108.out] at ho22)); have n0_ := Aside0.mk (Kd.R_elder' (by (with_reducible repeat (first | apply Kd.R_alloc | apply Kd.R_drewN | apply Kd.R_drew)); exact HO107.out) (Kd.R_base ho22) hb); have n1_ := Aside0.mk (Kd.R_lower (Kd.R_new' ho22 (Kd.R_lt (by (with_reducible repeat (first | apply Kd.R_alloc | apply Kd.R_drewN | apply Kd.R_drew)); exact HO107.out))) (below_size (by repeat (first | (with_reducible first | exact HB.out | apply below_alloc | apply pw_below_drewN | apply below_drew1) | exact HB.out)))); have n2_ := Aside0.mk (below_step (by repeat (first | (with_reducible first | exact HB.out | apply below_alloc | apply pw_below_drewN | apply below_drew1) | exact HB.out)) hb); clear HO107; clear HB; have HO107 := n0_; have HO110 := n1_; have HB := n2_; clear n0_ n1_ n2_; clear hb ho22; obtain ⟨Ao23, co23, eo23⟩ := Kd.R_slice HO107.out; subst eo23))
            have n0_ := Aside0.mk (Kd.R_drew HO107.out)
            have n1_ := Aside0.mk (Kd.R_drew HO110.out)
            have n2_ := Aside0.mk (below_drew1 HB.out)
            clear HO107
            clear HO110
            clear HB
            have HO107 := n0_
            have HO110 := n1_
            have HB := n2_
            clear n0_ n1_ n2_
            have p111 : 0 ≤ ((ji3) : Int) := of_decide_eq_true (by first | (with_reducible assumption) | assumption)
            have q111 : (ji3) < (y105.length : Int) := of_decide_eq_true (by first | (with_reducible assumption) | assumption)
            obtain ⟨ad111, e111, hx111_0⟩ := Kd.at_int (Kd.R_reads' HO107.out).2.2 (ji3) p111 q111
            cases e111
            replace p111 := eq_true p111
            replace q111 := eq_true q111
            obtain ⟨Ao25, co25, eo25⟩ := Kd.R_slice HO110.out
            (first | subst eo25 | (injection eo25 with f1_ f2_ f3_; have f4_ := f1_.symm; have f5_ := f3_.symm; clear f1_ f2_ f3_; subst f4_; subst f5_))
            have p113 : 0 ≤ ((ji3) : Int) := of_decide_eq_true (by first | (with_reducible assumption) | assumption)
            have q113 : (ji3) < (y108.length : Int) := of_decide_eq_true (by first | (with_reducible assumption) | assumption)
            obtain ⟨ad113, e113, hx113_0⟩ := Kd.at_int (Kd.R_reads' HO110.out).2.2 (ji3) p113 q113
            cases e113
            replace p113 := eq_true p113
            replace q113 := eq_true q113
            refine start_ (n := 14) (S := fun w' => w'.cell? (ad111.add ((ji3)).toNat) = some (.int .i64 (rd y105 (ji3))) ∧ w'.cell? (ad113.add ((ji3)).toNat) = some (.int .i64 (rd y108 (ji3)))) (ds := []) #[false, false, false, false, false, false, false, false, false, false, false, false, false, false] (by kernel_rfl) rfl rfl ⟨hx111_0, hx113_0⟩ (fun hHeld => ?_); refine with_tabW wringerlaw17_SquashKnown.tab4 wringerlaw17_SquashKnown.bits4 (fun HT_ HW_ => ?_)
            generalize w21.drew = w24 at HO107 HO110 HB hx111_0 hx113_0 hHeld ⊢
            refine pure_ (i := 0) (N := some 13) (v := ?_) (a' := ?_) #[true, false, false, false, false, false, false, false, false, false, false, false, false, false] rfl rfl (any_of HT_.out (by kernel_rfl)) (fun _ _ _ h => h) (Or.inl ⟨by rfl, ?_⟩) ?_ ?_
            rotate_left
            · intro w'
              go_simp
              with_reducible rfl
            rotate_left
            · simp only [Act.put, List.setIfInBounds_toArray, List.set_cons_zero, List.set_cons_succ, i64_w, i32_w]
              rfl
            refine pure_ (i := 1) (N := some 14) (v := ?_) (a' := ?_) #[true, true, false, false, false, false, false, false, false, false, false, false, false, false] rfl rfl (any_of HT_.out (by kernel_rfl)) (fun _ _ _ h => h) (Or.inl ⟨by rfl, ?_⟩) ?_ ?_
            rotate_left
            · intro w'
              go_simp
              with_reducible rfl
            rotate_left
            · simp only [Act.put, List.setIfInBounds_toArray, List.set_cons_zero, List.set_cons_succ, i64_w, i32_w]
              rfl
            refine pure_ (i := 2) (N := some 15) (v := ?_) (a' := ?_) #[true, true, true, false, false, false, false, false, false, false, false, false, false, false] rfl rfl (any_of HT_.out (by kernel_rfl)) (fun _ _ _ h => h) (Or.inl ⟨by rfl, ?_⟩) ?_ ?_
            rotate_left
            · intro w'
              go_simp
              with_reducible rfl
            rotate_left
            · simp only [Act.put, List.setIfInBounds_toArray, List.set_cons_zero, List.set_cons_succ, i64_w, i32_w]
              rfl
            refine pure_ (i := 5) (N := some 18) (v := ?_) (a' := ?_) #[true, true, true, false, false, true, false, false, false, false, false, false, false, false] rfl rfl (any_of HT_.out (by kernel_rfl)) (fun _ _ _ h => h) (Or.inl ⟨by rfl, ?_⟩) ?_ ?_
            rotate_left
            · intro w'
              go_simp
              with_reducible rfl
            rotate_left
            · simp only [Act.put, List.setIfInBounds_toArray, List.set_cons_zero, List.set_cons_succ, i64_w, i32_w]
              rfl
            refine pure_ (i := 6) (N := some 19) (v := ?_) (a' := ?_) #[true, true, true, false, false, true, true, false, false, false, false, false, false, false] rfl rfl (any_of HT_.out (by kernel_rfl)) (fun _ _ _ h => h) (Or.inl ⟨by rfl, ?_⟩) ?_ ?_
            rotate_left
            · intro w'
              go_simp
              with_reducible rfl
            rotate_left
            · simp only [Act.put, List.setIfInBounds_toArray, List.set_cons_zero, List.set_cons_succ, i64_w, i32_w]
              rfl
            refine pure_ (i := 7) (N := some 20) (v := ?_) (a' := ?_) #[true, true, true, false, false, true, true, true, false, false, false, false, false, false] rfl rfl (any_of HT_.out (by kernel_rfl)) (fun _ _ _ h => h) (Or.inl ⟨by rfl, ?_⟩) ?_ ?_
            rotate_left
            · intro w'
              go_simp
              with_reducible rfl
            rotate_left
            · simp only [Act.put, List.setIfInBounds_toArray, List.set_cons_zero, List.set_cons_succ, i64_w, i32_w]
              rfl
            refine take_ (i := 3) (N := some 16) (v := ?_) (a' := ?_) #[true, true, true, true, false, true, true, true, false, false, false, false, false, false] rfl rfl (take_ofW HT_.out HW_.out (by kernel_rfl)) (fun _ _ _ h => h) (Or.inl ⟨by rfl, ?_⟩) hHeld ?_ ?_
            rotate_left
            · rintro w' ⟨s0, s1⟩
              go_simp
              with_reducible rfl
            rotate_left
            · simp only [Act.put, List.setIfInBounds_toArray, List.set_cons_zero, List.set_cons_succ, i64_w, i32_w]
              rfl
            refine take_ (i := 8) (N := some 21) (v := ?_) (a' := ?_) #[true, true, true, true, false, true, true, true, true, false, false, false, false, false] rfl rfl (take_ofW HT_.out HW_.out (by kernel_rfl)) (fun _ _ _ h => h) (Or.inl ⟨by rfl, ?_⟩) hHeld ?_ ?_
            rotate_left
            · rintro w' ⟨s0, s1⟩
              go_simp
              with_reducible rfl
            rotate_left
            · simp only [Act.put, List.setIfInBounds_toArray, List.set_cons_zero, List.set_cons_succ, i64_w, i32_w]
              rfl
            refine one_ (i := 4) (N := some 17) #[true, true, true, true, true, true, true, true, true, false, false, false, false, false] rfl rfl (one_of HT_.out (by kernel_rfl)) (by decide) (fun K hK => ?_)
            refine goes_ Try.func8 (by kernel_rfl) rfl #[.int .i64 (rd y105 (ji3))] (by rfl) rfl rfl (by (try simp only [List.map_toArray, List.map_cons, List.map_nil]); first | done | (simp only [hji3]; rfl) | rfl | (simp only [List.length_drop, List.length_take]; rfl)) ?_
            with_reducible refine (squash_Squash.calls k (rd y105 (ji3)) t112 _ A6.out).mono ?_
            rintro e w26 ⟨rfl, hb⟩
            have HS0_ := (hb.cell (World.block_lt_of_cell? _ _ (hHeld.1))).trans (hHeld.1)
            have HS1_ := (hb.cell (World.block_lt_of_cell? _ _ (hHeld.2))).trans (hHeld.2)
            refine ⟨_, rfl, ?_⟩
            have n0_ := Aside0.mk (Kd.R_below (by (with_reducible repeat (first | apply Kd.R_alloc | apply Kd.R_drewN | apply Kd.R_drew)); exact HO107.out) hb)
            have n1_ := Aside0.mk (Kd.R_below (by (with_reducible repeat (first | apply Kd.R_alloc | apply Kd.R_drewN | apply Kd.R_drew)); exact HO110.out) hb)
            have n2_ := Aside0.mk (below_step (by repeat (first | (with_reducible first | exact HB.out | apply below_alloc | apply pw_below_drewN | apply below_drew1) | exact HB.out)) hb)
            clear HO107
            clear HO110
            clear HB
            have HO107 := n0_
            have HO110 := n1_
            have HB := n2_
            clear n0_ n1_ n2_
            (try clear hb)
            (try clear hb2)
            (try clear hk)
            (try clear hi)
            refine hK.out _ _ ⟨HS0_, HS1_⟩ (fun hHeld => ?_)
            clear hK K
            refine norm_ (a' := ?_) ?_ ?_
            rotate_left
            · show Act.put _ (some 17) _ = _
              simp only [Act.put, List.setIfInBounds_toArray, List.set_cons_zero, List.set_cons_succ, i64_w, i32_w]
              rfl
            refine pure_ (i := 9) (N := some 22) (v := ?_) (a' := ?_) #[true, true, true, true, true, true, true, true, true, true, false, false, false, false] rfl rfl (any_of HT_.out (by kernel_rfl)) (fun _ _ _ h => h) (Or.inl ⟨by rfl, ?_⟩) ?_ ?_
            rotate_left
            · intro w'
              go_simp
              with_reducible rfl
            rotate_left
            · simp only [Act.put, List.setIfInBounds_toArray, List.set_cons_zero, List.set_cons_succ, i64_w, i32_w]
              rfl
            refine pure_ (i := 10) (N := some 23) (v := ?_) (a' := ?_) #[true, true, true, true, true, true, true, true, true, true, true, false, false, false] rfl rfl (any_of HT_.out (by kernel_rfl)) (fun _ _ _ h => h) (Or.inl ⟨by rfl, ?_⟩) ?_ ?_
            rotate_left
            · intro w'
              go_simp
              with_reducible rfl
            rotate_left
            · simp only [Act.put, List.setIfInBounds_toArray, List.set_cons_zero, List.set_cons_succ, i64_w, i32_w]
              rfl
            refine pure_ (i := 11) (N := some 24) (v := undef) (a' := ?_) #[true, true, true, true, true, true, true, true, true, true, true, true, false, false] rfl rfl (any_of HT_.out (by kernel_rfl)) (fun _ _ _ h => h) (Or.inr ⟨by rfl, rfl⟩) ?_ ?_
            rotate_left
            · simp only [Act.put, List.setIfInBounds_toArray, List.set_cons_zero, List.set_cons_succ, i64_w, i32_w]
              rfl
            refine pure_ (i := 12) (N := some 25) (v := ?_) (a' := ?_) #[true, true, true, true, true, true, true, true, true, true, true, true, true, false] rfl rfl (any_of HT_.out (by kernel_rfl)) (fun _ _ _ h => h) (Or.inl ⟨by rfl, ?_⟩) ?_ ?_
            rotate_left
            · intro w'
              go_simp
              with_reducible rfl
            rotate_left
            · simp only [Act.put, List.setIfInBounds_toArray, List.set_cons_zero, List.set_cons_succ, i64_w, i32_w]
              rfl
            refine pure_ (i := 13) (N := some 2) (v := ?_) (a' := ?_) #[true, true, true, true, true, true, true, true, true, true, true, true, true, true] rfl rfl (any_of HT_.out (by kernel_rfl)) (fun _ _ _ h => h) (Or.inl ⟨by rfl, ?_⟩) ?_ ?_
            rotate_left
            · intro w'
              go_simp
              with_reducible rfl
            rotate_left
            · simp only [Act.put, List.setIfInBounds_toArray, List.set_cons_zero, List.set_cons_succ, i64_w, i32_w]
              rfl
            refine done_ (done_of HT_.out (by kernel_rfl)) ?_
            try go_wp2
            go_ret
            exact ⟨by first | rfl | (simp [errW_none, errW_some] <;> rfl) | (simp only [← hji3]; first | rfl | (simp [errW_none, errW_some] <;> rfl)) | (simp [*, errW_none, errW_some] <;> rfl), by repeat (first | (with_reducible first | exact HB.out | apply below_alloc | apply pw_below_drewN | apply below_drew1) | exact HB.out)⟩
        · rw [if_neg c7] at H
          exact absurd H (by simp)
      · rw [if_neg c5] at H
        exact absurd H (by simp)
    · rw [if_neg c4] at H
      exact absurd H (by simp)

/-- THE ONE PURE STATEMENT of wringerlaw17_SquashKnown: yours. -/
def wringerlaw17_SquashKnown.Pure : Prop := ∀ (a0 : Int), (Lit.int .u8 a0).wf = true → ∃ k, wringerlaw17_SquashKnown.f k a0 = some true
theorem wringerlaw17_SquashKnown.walk (P : wringerlaw17_SquashKnown.Pure) (a0 : Int) (w : World) (w0 : (Lit.int .u8 a0).wf = true) :
    Calls Try.prog 6 #[.int .u8 a0] w fun e w' => e = .returned (.bool true) ∧ Below w.heap.size w w' := by
  obtain ⟨k, h⟩ := P a0 w0
  refine (wringerlaw17_SquashKnown.calls k a0 true w h).mono ?_
  rintro e w' ⟨rfl, hd⟩
  exact ⟨rfl, hd⟩

end Go.Proofs.Ytpdfdmfhakibaaa.PSquashKnown
