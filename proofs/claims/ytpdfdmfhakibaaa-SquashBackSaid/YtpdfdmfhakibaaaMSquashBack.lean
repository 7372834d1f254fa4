/- The functions that SquashBack reaches, and their walks. No condition. -/
import Derived.Test.YtpdfdmfhakibaaaPSquashBackx0
namespace Go.Proofs.Ytpdfdmfhakibaaa.PSquashBack
open Go.RowKit Go.Proofs.YtpdfdmfhakibaaaW.PrintWords Go.Proofs.YtpdfdmfhakibaaaW.PrintLast Go.Proofs.YtpdfdmfhakibaaaW.PrintMore
attribute [local go_sem] max2_int min2_int max_two min_two max_three min_three max_four min_four   -- for this text's walks alone
set_option linter.unusedVariables false
set_option linter.unusedSimpArgs false

/-! ### squash_Squash: function 8 -/
def squash_Squash.f : Nat → Int → Option (Int)
  | 0, _ => none
  | k + 1, a0 => if (mx (-2047) (mn a0 2047)) < 0 then ((squash_Squash.f k (-(mx (-2047) (mn a0 2047)))).bind fun t101 => (some (wrap64 (4096 - t101)))) else (if 0 ≤ (wrap64 (Int.tdiv (mx (-2047) (mn a0 2047)) 256)) then (if (wrap64 (65536 + (wrap64 ((shr .i64 65536 (wrap64 (Int.tdiv (mx (-2047) (mn a0 2047)) 256))) - (wrap64 (Int.tdiv (wrap64 (((shr .i64 65536 (wrap64 (Int.tdiv (mx (-2047) (mn a0 2047)) 256))) / 2) * (Int.tmod (mx (-2047) (mn a0 2047)) 256))) 256)))))) = 0 then (none) else (some (wrap64 ((268435456 : Int) / (wrap64 (65536 + (wrap64 ((shr .i64 65536 (wrap64 (Int.tdiv (mx (-2047) (mn a0 2047)) 256))) - (wrap64 (Int.tdiv (wrap64 (((shr .i64 65536 (wrap64 (Int.tdiv (mx (-2047) (mn a0 2047)) 256))) / 2) * (Int.tmod (mx (-2047) (mn a0 2047)) 256))) 256)))))))))) else (none))
theorem squash_Squash.mono_l : ∀ k, (∀ y0, LeO (squash_Squash.f k y0) (squash_Squash.f (k + 1) y0))
  | 0 => fun _ r h => by simp [squash_Squash.f] at h
  | k + 1 => by
    have ih0 := squash_Squash.mono_l k
    · intro y0
      unfold squash_Squash.f
      repeat' first
      | (with_reducible exact ih0 _)
      | (with_reducible exact LeO.refl _)
      | (with_reducible exact LeO.none _)
      | (with_reducible refine LeO.ite ?_ ?_)
      | (with_reducible refine LeO.bind ?_ (fun _ => ?_))
      | exact ih0 _
      | exact LeO.none _
      | refine LeO.ite ?_ ?_
      | refine LeO.bind ?_ (fun _ => ?_)
theorem squash_Squash.mono : ∀ a0 k, LeO (squash_Squash.f k a0) (squash_Squash.f (k + 1) a0) := by
  intro a0 k
  have ih0 := squash_Squash.mono_l k
  exact ih0 a0
set_option maxHeartbeats 8000000 in
set_option maxRecDepth 100000 in
theorem squash_Squash.calls (k : Nat) : ∀ (a0 : Int) (r : Int) (w : World) (h : squash_Squash.f k a0 = some r),
    Calls Try.prog 8 #[.int .i64 a0] w fun e w' => e = .returned (.int .i64 r) ∧ Below w.heap.size w w' := by
  induction k using Nat.strongRecOn with
  | _ k ih =>
  intro a0 r w h
  cases k with
  | zero => exact absurd h (by simp [squash_Squash.f])
  | succ k =>
  simp only [squash_Squash.f] at h
  have HB := Aside0.mk (Below.refl w.heap.size w)
  have H : (if (mx (-2047) (mn a0 2047)) < 0 then ((squash_Squash.f k (-(mx (-2047) (mn a0 2047)))).bind fun t101 => (some (wrap64 (4096 - t101)))) else (if 0 ≤ (wrap64 (Int.tdiv (mx (-2047) (mn a0 2047)) 256)) then (if (wrap64 (65536 + (wrap64 ((shr .i64 65536 (wrap64 (Int.tdiv (mx (-2047) (mn a0 2047)) 256))) - (wrap64 (Int.tdiv (wrap64 (((shr .i64 65536 (wrap64 (Int.tdiv (mx (-2047) (mn a0 2047)) 256))) / 2) * (Int.tmod (mx (-2047) (mn a0 2047)) 256))) 256)))))) = 0 then (none) else (some (wrap64 ((268435456 : Int) / (wrap64 (65536 + (wrap64 ((shr .i64 65536 (wrap64 (Int.tdiv (mx (-2047) (mn a0 2047)) 256))) - (wrap64 (Int.tdiv (wrap64 (((shr .i64 65536 (wrap64 (Int.tdiv (mx (-2047) (mn a0 2047)) 256))) / 2) * (Int.tmod (mx (-2047) (mn a0 2047)) 256))) 256)))))))))) else (none))) = some r := h
  clear h
  obtain ⟨ji2, hji2⟩ : ∃ j_ : Int, (mn a0 2047) = j_ := ⟨_, rfl⟩
  replace H : (if (mx (-2047) (ji2)) < 0 then ((squash_Squash.f k (-(mx (-2047) (ji2)))).bind fun t101 => (some (wrap64 (4096 - t101)))) else (if 0 ≤ (wrap64 (Int.tdiv (mx (-2047) (ji2)) 256)) then (if (wrap64 (65536 + (wrap64 ((shr .i64 65536 (wrap64 (Int.tdiv (mx (-2047) (ji2)) 256))) - (wrap64 (Int.tdiv (wrap64 (((shr .i64 65536 (wrap64 (Int.tdiv (mx (-2047) (ji2)) 256))) / 2) * (Int.tmod (mx (-2047) (ji2)) 256))) 256)))))) = 0 then (none) else (some (wrap64 ((268435456 : Int) / (wrap64 (65536 + (wrap64 ((shr .i64 65536 (wrap64 (Int.tdiv (mx (-2047) (ji2)) 256))) - (wrap64 (Int.tdiv (wrap64 (((shr .i64 65536 (wrap64 (Int.tdiv (mx (-2047) (ji2)) 256))) / 2) * (Int.tmod (mx (-2047) (ji2)) 256))) 256)))))))))) else (none))) = some r := by first | (rw [hji2] at H; exact H) | (simp only [hji2] at H ⊢; exact H)
  (try (have hji2h : ji2 ≤ 2047 := by (rw [← hji2]; unfold mn; (repeat' split) <;> omega)))
  (try (have hji2g : ji2 ≤ 64 := by omega))
  have hji2_ : (if 2047 < a0 then 2047 else a0) = ji2 := hji2
  obtain ⟨ji3, hji3⟩ : ∃ j_ : Int, (mx (-2047) (ji2)) = j_ := ⟨_, rfl⟩
  replace H : (if (ji3) < 0 then ((squash_Squash.f k (-(ji3))).bind fun t101 => (some (wrap64 (4096 - t101)))) else (if 0 ≤ (wrap64 (Int.tdiv (ji3) 256)) then (if (wrap64 (65536 + (wrap64 ((shr .i64 65536 (wrap64 (Int.tdiv (ji3) 256))) - (wrap64 (Int.tdiv (wrap64 (((shr .i64 65536 (wrap64 (Int.tdiv (ji3) 256))) / 2) * (Int.tmod (ji3) 256))) 256)))))) = 0 then (none) else (some (wrap64 ((268435456 : Int) / (wrap64 (65536 + (wrap64 ((shr .i64 65536 (wrap64 (Int.tdiv (ji3) 256))) - (wrap64 (Int.tdiv (wrap64 (((shr .i64 65536 (wrap64 (Int.tdiv (ji3) 256))) / 2) * (Int.tmod (ji3) 256))) 256)))))))))) else (none))) = some r := by first | (rw [hji3] at H; exact H) | (simp only [hji3] at H ⊢; exact H)
  have hji3_ : (if (-2047) < (ji2) then (ji2) else (-2047)) = ji3 := hji3
  by_cases c4 : (ji3) < 0
  · rw [if_pos c4] at H
    have c4b0 : decide ((ji3) < 0) = true := decide_eq_true c4
    clear c4
    replace H := Option.bind_eq_some_iff.mp H
    obtain ⟨t101, A50, H⟩ := H
    replace H : (some (wrap64 (4096 - t101))) = some r := H
    have A5 := Aside0.mk A50
    clear A50
    obtain rfl := Option.some.inj H
    go_enter Try.func8, Try.ntmps8
    go_wp2_with (first | ((with_reducible refine gate_callee (f := 8) rfl ?_); refine goesL_ (some 11) rfl rfl Try.func8 (by kernel_rfl) rfl #[.int .i64 (-(ji3))] rfl (by (try simp only [List.map_toArray, List.map_cons, List.map_nil]); first | done | (simp only [hji3]; rfl) | rfl | (simp only [List.length_drop, List.length_take]; rfl)) ?_; (with_reducible refine (ih k (by omega) (-(ji3)) t101 _ A5.out).mono ?_); rintro e w6 ⟨rfl, hb⟩; refine ⟨_, rfl, ?_⟩; have n0_ := Aside0.mk (below_step (by repeat (first | (with_reducible first | exact HB.out | apply below_alloc | apply pw_below_drewN | apply below_drew1) | exact HB.out)) hb); clear HB; have HB := n0_; clear n0_; (try clear hb); (try clear hb2); (try clear hk); (try clear hi)))
    go_ret
    exact ⟨by first | rfl | (simp [errW_none, errW_some] <;> rfl) | (simp only [← hji2, ← hji3]; first | rfl | (simp [errW_none, errW_some] <;> rfl)) | (simp [*, errW_none, errW_some] <;> rfl), by repeat (first | (with_reducible first | exact HB.out | apply below_alloc | apply pw_below_drewN | apply below_drew1) | exact HB.out)⟩
  · rw [if_neg c4] at H
    have c4b0 : decide ((ji3) < 0) = false := decide_eq_false c4
    clear c4
    obtain ⟨ji7, hji7⟩ : ∃ j_ : Int, (wrap64 (Int.tdiv (ji3) 256)) = j_ := ⟨_, rfl⟩
    replace H : (if 0 ≤ (ji7) then (if (wrap64 (65536 + (wrap64 ((shr .i64 65536 (ji7)) - (wrap64 (Int.tdiv (wrap64 (((shr .i64 65536 (ji7)) / 2) * (Int.tmod (ji3) 256))) 256)))))) = 0 then (none) else (some (wrap64 ((268435456 : Int) / (wrap64 (65536 + (wrap64 ((shr .i64 65536 (ji7)) - (wrap64 (Int.tdiv (wrap64 (((shr .i64 65536 (ji7)) / 2) * (Int.tmod (ji3) 256))) 256)))))))))) else (none)) = some r := by first | (rw [hji7] at H; exact H) | (simp only [hji7] at H ⊢; exact H)
    have hji7w : (IntKind.i64.wrap (Int.tdiv (ji3) 256)) = ji7 := (i64_w _).trans hji7
    by_cases c8 : 0 ≤ (ji7)
    · rw [if_pos c8] at H
      have c8b0 := eq_true c8
      have c8b1 : decide (0 ≤ (ji7)) = true := decide_eq_true c8
      clear c8
      obtain ⟨ji9, hji9⟩ : ∃ j_ : Int, (shr .i64 65536 (ji7)) = j_ := ⟨_, rfl⟩
      replace H : (if (wrap64 (65536 + (wrap64 ((ji9) - (wrap64 (Int.tdiv (wrap64 (((ji9) / 2) * (Int.tmod (ji3) 256))) 256)))))) = 0 then (none) else (some (wrap64 ((268435456 : Int) / (wrap64 (65536 + (wrap64 ((ji9) - (wrap64 (Int.tdiv (wrap64 (((ji9) / 2) * (Int.tmod (ji3) 256))) 256)))))))))) = some r := by first | (rw [hji9] at H; exact H) | (simp only [hji9] at H ⊢; exact H)
      have hji9_ : (65536 / 2 ^ min (ji7).toNat 64) = ji9 := hji9
      have hji9z : (ji7) ≤ 64 → (65536 / 2 ^ (ji7).toNat) = ji9 := shr_small hji9
      by_cases c10 : (wrap64 (65536 + (wrap64 ((ji9) - (wrap64 (Int.tdiv (wrap64 (((ji9) / 2) * (Int.tmod (ji3) 256))) 256)))))) = 0
      · rw [if_pos c10] at H
        exact absurd H (by simp)
      · rw [if_neg c10] at H
        have c10b0 : ((wrap64 (65536 + (wrap64 ((ji9) - (wrap64 (Int.tdiv (wrap64 (((ji9) / 2) * (Int.tmod (ji3) 256))) 256)))))) == 0) = false := beq_eq_false_iff_ne.mpr c10
        have c10b1 : ((wrap64 (65536 + (wrap64 ((ji9) - (wrap64 (Int.tdiv (wrap64 (((ji9) / 2) * (Int.tmod (ji3) 256))) 256)))))) != 0) = true := bne_iff_ne.mpr c10
        obtain rfl := Option.some.inj H
        obtain ⟨hji9n, hji9m⟩ : 0 ≤ ji9 ∧ ji9 ≤ 65536 := by rw [← hji9]; unfold shr; exact ⟨Int.ediv_nonneg (by decide) (Int.le_of_lt (Int.pow_pos (by decide))), Int.ediv_le_self _ (by decide)⟩
        rw [← Int.tdiv_eq_ediv_of_nonneg (a := 268435456) (by decide)]
        go_enter Try.func8, Try.ntmps8
        go_wp2
        go_ret
        exact ⟨by first | rfl | (simp [errW_none, errW_some] <;> rfl) | (simp only [← hji2, ← hji3, ← hji7, ← hji9]; first | rfl | (simp [errW_none, errW_some] <;> rfl)) | (simp [*, errW_none, errW_some] <;> rfl), by repeat (first | (with_reducible first | exact HB.out | apply below_alloc | apply pw_below_drewN | apply below_drew1) | exact HB.out)⟩
    · rw [if_neg c8] at H
      exact absurd H (by simp)

/-! ### squash_Stretch: function 10 -/
def squash_Stretch.l0 : Nat → Int → Int → Int → Option (Int)
  | 0, _, _, _ => none
  | k + 1, x0, x3, x4 => if x3 < x4 then ((squash_Squash.f k (wrap64 ((wrap64 (Int.tdiv (wrap64 (x3 + x4)) 2)) - 2047))).bind fun t102 => (if t102 < x0 then (squash_Stretch.l0 k x0 (wrap64 ((wrap64 (Int.tdiv (wrap64 (x3 + x4)) 2)) + 1)) x4) else (squash_Stretch.l0 k x0 x3 (wrap64 (Int.tdiv (wrap64 (x3 + x4)) 2))))) else (some (mn (wrap64 (x3 - 2047)) 2047))
def squash_Stretch.f (k : Nat) (a0 : Int) : Option (Int) := squash_Stretch.l0 k (mx 1 (mn a0 4095)) 0 4095
theorem squash_Stretch.mono_l : ∀ k, (∀ y0 y1 y2, LeO (squash_Stretch.l0 k y0 y1 y2) (squash_Stretch.l0 (k + 1) y0 y1 y2))
  | 0 => fun _ _ _ r h => by simp [squash_Stretch.l0] at h
  | k + 1 => by
    have ih0 := squash_Stretch.mono_l k
    · intro y0 y1 y2
      unfold squash_Stretch.l0
      repeat' first
      | (with_reducible exact ih0 _ _ _)
      | (with_reducible exact squash_Squash.mono _ _)
      | (with_reducible exact LeO.refl _)
      | (with_reducible exact LeO.none _)
      | (with_reducible refine LeO.ite ?_ ?_)
      | (with_reducible refine LeO.bind ?_ (fun _ => ?_))
      | exact ih0 _ _ _
      | exact squash_Squash.mono _ _
      | exact LeO.none _
      | refine LeO.ite ?_ ?_
      | refine LeO.bind ?_ (fun _ => ?_)
theorem squash_Stretch.mono : ∀ a0 k, LeO (squash_Stretch.f k a0) (squash_Stretch.f (k + 1) a0) := by
  intro a0 k
  have ih0 := squash_Stretch.mono_l k
  unfold squash_Stretch.f
  repeat' first
      | (with_reducible exact ih0 _ _ _)
      | (with_reducible exact squash_Squash.mono _ _)
      | (with_reducible exact LeO.refl _)
      | (with_reducible exact LeO.none _)
      | (with_reducible refine LeO.ite ?_ ?_)
      | (with_reducible refine LeO.bind ?_ (fun _ => ?_))
      | exact ih0 _ _ _
      | exact squash_Squash.mono _ _
      | exact LeO.none _
      | refine LeO.ite ?_ ?_
      | refine LeO.bind ?_ (fun _ => ?_)
set_option maxHeartbeats 8000000 in
set_option maxRecDepth 100000 in
theorem squash_Stretch.calls (k : Nat) (a0 : Int) (r : Int) (w : World) (h : squash_Stretch.f k a0 = some r) :
    Calls Try.prog 10 #[.int .i64 a0] w fun e w' => e = .returned (.int .i64 r) ∧ Below w.heap.size w w' := by
  have HB := Aside0.mk (Below.refl w.heap.size w)
  have H : (squash_Stretch.l0 k (mx 1 (mn a0 4095)) 0 4095) = some r := h
  clear h
  obtain ⟨ji2, hji2⟩ : ∃ j_ : Int, (mn a0 4095) = j_ := ⟨_, rfl⟩
  replace H : (squash_Stretch.l0 k (mx 1 (ji2)) 0 4095) = some r := by first | (rw [hji2] at H; exact H) | (simp only [hji2] at H ⊢; exact H)
  (try (have hji2h : ji2 ≤ 4095 := by (rw [← hji2]; unfold mn; (repeat' split) <;> omega)))
  (try (have hji2g : ji2 ≤ 64 := by omega))
  have hji2_ : (if 4095 < a0 then 4095 else a0) = ji2 := hji2
  obtain ⟨ji3, hji3⟩ : ∃ j_ : Int, (mx 1 (ji2)) = j_ := ⟨_, rfl⟩
  replace H : (squash_Stretch.l0 k ji3 0 4095) = some r := by first | (rw [hji3] at H; exact H) | (simp only [hji3] at H ⊢; exact H)
  have hji3_ : (if 1 < (ji2) then (ji2) else 1) = ji3 := hji3
  have H' := Aside0.mk H
  clear H
  go_enter Try.func10, Try.ntmps10
  go_wp2
  go_loopg [3, 4] k (fun kq v3 v4 w' => ∃ (x3_1 : Int) (x4_1 : Int), v3 = .int .i64 x3_1 ∧ v4 = .int .i64 x4_1 ∧ Aside0 (squash_Stretch.l0 kq ji3 x3_1 x4_1 = some r) ∧ Aside0 (kq ≤ k) ∧ Aside0 (Below w.heap.size w w'))
  case atStart => exact ⟨(0), (4095), (by first | rfl | (simp; done) | (simp [*]; done)), (by first | rfl | (simp; done) | (simp [*]; done)), H', ⟨Nat.le_refl _⟩, ⟨by repeat (first | (with_reducible first | exact HB.out | apply below_alloc | apply pw_below_drewN | apply below_drew1) | exact HB.out)⟩⟩
  case round =>
    clear H'
    try clear c1
    try clear p2
    obtain ⟨x3_1, x4_1, rfl, rfl, HA, HK1, HB⟩ := hrel
    cases gk with
    | zero => exact absurd HA.out (by simp [squash_Stretch.l0])
    | succ k1 =>
      have H := HA.out
      clear HA
      simp only [squash_Stretch.l0] at H
      by_cases c4 : x3_1 < x4_1
      · rw [if_pos c4] at H
        have c4b0 : decide (x3_1 < x4_1) = true := decide_eq_true c4
        clear c4
        replace H := Option.bind_eq_some_iff.mp H
        obtain ⟨t102, A50, H⟩ := H
        replace H : (if t102 < ji3 then (squash_Stretch.l0 k1 ji3 (wrap64 ((wrap64 (Int.tdiv (wrap64 (x3_1 + x4_1)) 2)) + 1)) x4_1) else (squash_Stretch.l0 k1 ji3 x3_1 (wrap64 (Int.tdiv (wrap64 (x3_1 + x4_1)) 2)))) = some r := H
        have A5 := Aside0.mk A50
        clear A50
        by_cases c6 : t102 < ji3
        · rw [if_pos c6] at H
          have c6b0 : decide (t102 < ji3) = true := decide_eq_true c6
          clear c6
          have H' := Aside0.mk H
          clear H
          go_wp2_with (first | ((with_reducible refine gate_callee (f := 8) rfl ?_); refine goesL_ (some 18) rfl rfl Try.func8 (by kernel_rfl) rfl #[.int .i64 (wrap64 ((wrap64 (Int.tdiv (wrap64 (x3_1 + x4_1)) 2)) - 2047))] rfl (by (try simp only [List.map_toArray, List.map_cons, List.map_nil]); first | done | rfl | (simp only [List.length_drop, List.length_take]; rfl)) ?_; (with_reducible refine (squash_Squash.calls k1 (wrap64 ((wrap64 (Int.tdiv (wrap64 (x3_1 + x4_1)) 2)) - 2047)) t102 _ A5.out).mono ?_); rintro e w7 ⟨rfl, hb⟩; refine ⟨_, rfl, ?_⟩; have n0_ := Aside0.mk (below_step (by repeat (first | (with_reducible first | exact HB.out | apply below_alloc | apply pw_below_drewN | apply below_drew1) | exact HB.out)) hb); clear HB; have HB := n0_; clear n0_; (try clear hb); (try clear hb2); (try clear hk); (try clear hi)))
          go_roundg k1
          case measure => have := HK1.out; omega
          case rel => exact ⟨(wrap64 ((wrap64 (Int.tdiv (wrap64 (x3_1 + x4_1)) 2)) + 1)), (x4_1), (by first | rfl | (simp; done) | (simp [*]; done)), (by first | rfl | (simp; done) | (simp [*]; done)), H', ⟨by have := HK1.out; omega⟩, ⟨by repeat (first | (with_reducible first | exact HB.out | apply below_alloc | apply pw_below_drewN | apply below_drew1) | exact HB.out)⟩⟩
        · rw [if_neg c6] at H
          have c6b0 : decide (t102 < ji3) = false := decide_eq_false c6
          clear c6
          have H' := Aside0.mk H
          clear H
          go_wp2_with (first | ((with_reducible refine gate_callee (f := 8) rfl ?_); refine goesL_ (some 18) rfl rfl Try.func8 (by kernel_rfl) rfl #[.int .i64 (wrap64 ((wrap64 (Int.tdiv (wrap64 (x3_1 + x4_1)) 2)) - 2047))] rfl (by (try simp only [List.map_toArray, List.map_cons, List.map_nil]); first | done | rfl | (simp only [List.length_drop, List.length_take]; rfl)) ?_; (with_reducible refine (squash_Squash.calls k1 (wrap64 ((wrap64 (Int.tdiv (wrap64 (x3_1 + x4_1)) 2)) - 2047)) t102 _ A5.out).mono ?_); rintro e w8 ⟨rfl, hb⟩; refine ⟨_, rfl, ?_⟩; have n0_ := Aside0.mk (below_step (by repeat (first | (with_reducible first | exact HB.out | apply below_alloc | apply pw_below_drewN | apply below_drew1) | exact HB.out)) hb); clear HB; have HB := n0_; clear n0_; (try clear hb); (try clear hb2); (try clear hk); (try clear hi)))
          go_roundg k1
          case measure => have := HK1.out; omega
          case rel => exact ⟨(x3_1), (wrap64 (Int.tdiv (wrap64 (x3_1 + x4_1)) 2)), (by first | rfl | (simp; done) | (simp [*]; done)), (by first | rfl | (simp; done) | (simp [*]; done)), H', ⟨by have := HK1.out; omega⟩, ⟨by repeat (first | (with_reducible first | exact HB.out | apply below_alloc | apply pw_below_drewN | apply below_drew1) | exact HB.out)⟩⟩
      · rw [if_neg c4] at H
        have c4b0 : decide (x3_1 < x4_1) = false := decide_eq_false c4
        clear c4
        obtain ⟨ji9, hji9⟩ : ∃ j_ : Int, (mn (wrap64 (x3_1 - 2047)) 2047) = j_ := ⟨_, rfl⟩
        replace H : (some ji9) = some r := by first | (rw [hji9] at H; exact H) | (simp only [hji9] at H ⊢; exact H)
        have hji9_ : (if 2047 < (wrap64 (x3_1 - 2047)) then 2047 else (wrap64 (x3_1 - 2047))) = ji9 := hji9
        obtain rfl := Option.some.inj H
        go_wp2
        go_ret
        exact ⟨by first | rfl | (simp [errW_none, errW_some] <;> rfl) | (simp only [← hji2, ← hji3, ← hji9]; first | rfl | (simp [errW_none, errW_some] <;> rfl)) | (simp [*, errW_none, errW_some] <;> rfl), by repeat (first | (with_reducible first | exact HB.out | apply below_alloc | apply pw_below_drewN | apply below_drew1) | exact HB.out)⟩

/-! ### wringerlaw17_awake: function 12 -/
def wringerlaw17_awake.f (k : Nat)  : Option (Bool) := (squash_Squash.f k 0).bind fun t103 => (if t103 = 2048 then ((squash_Stretch.f k 2048).bind fun t104 => (some (t104 == 0))) else (some false))
theorem wringerlaw17_awake.mono : ∀ k, LeO (wringerlaw17_awake.f k ) (wringerlaw17_awake.f (k + 1) ) := by
  intro  k
  unfold wringerlaw17_awake.f
  repeat' first
      | (with_reducible exact squash_Squash.mono _ _)
      | (with_reducible exact squash_Stretch.mono _ _)
      | (with_reducible exact LeO.refl _)
      | (with_reducible exact LeO.none _)
      | (with_reducible refine LeO.ite ?_ ?_)
      | (with_reducible refine LeO.bind ?_ (fun _ => ?_))
      | exact squash_Squash.mono _ _
      | exact squash_Stretch.mono _ _
      | exact LeO.none _
      | refine LeO.ite ?_ ?_
      | refine LeO.bind ?_ (fun _ => ?_)
set_option maxHeartbeats 8000000 in
set_option maxRecDepth 100000 in
theorem wringerlaw17_awake.calls (k : Nat)  (r : Bool) (w : World) (h : wringerlaw17_awake.f k  = some r) :
    Calls Try.prog 12 #[] w fun e w' => e = .returned (.bool r) ∧ Below w.heap.size w w' := by
  have HB := Aside0.mk (Below.refl w.heap.size w)
  have H : ((squash_Squash.f k 0).bind fun t103 => (if t103 = 2048 then ((squash_Stretch.f k 2048).bind fun t104 => (some (t104 == 0))) else (some false))) = some r := h
  clear h
  replace H := Option.bind_eq_some_iff.mp H
  obtain ⟨t103, A10, H⟩ := H
  replace H : (if t103 = 2048 then ((squash_Stretch.f k 2048).bind fun t104 => (some (t104 == 0))) else (some false)) = some r := H
  have A1 := Aside0.mk A10
  clear A10
  by_cases c2 : t103 = 2048
  · rw [if_pos c2] at H
    have c2b0 : (t103 == 2048) = true := beq_iff_eq.mpr c2
    have c2b1 : (t103 != 2048) = false := bne_eq_false_iff_eq.mpr c2
    clear c2
    replace H := Option.bind_eq_some_iff.mp H
    obtain ⟨t104, A30, H⟩ := H
    replace H : (some (t104 == 0)) = some r := H
    have A3 := Aside0.mk A30
    clear A30
    obtain rfl := Option.some.inj H
    go_enter Try.func12, Try.ntmps12
    go_wp2_with (first | ((with_reducible refine gate_callee (f := 8) rfl ?_); refine goesL_ (some 1) rfl rfl Try.func8 (by kernel_rfl) rfl #[.int .i64 0] rfl (by (try simp only [List.map_toArray, List.map_cons, List.map_nil]); first | done | rfl | (simp only [List.length_drop, List.length_take]; rfl)) ?_; (with_reducible refine (squash_Squash.calls k 0 t103 _ A1.out).mono ?_); rintro e w4 ⟨rfl, hb⟩; refine ⟨_, rfl, ?_⟩; have n0_ := Aside0.mk (below_step (by repeat (first | (with_reducible first | exact HB.out | apply below_alloc | apply pw_below_drewN | apply below_drew1) | exact HB.out)) hb); clear HB; have HB := n0_; clear n0_; (try clear hb); (try clear hb2); (try clear hk); (try clear hi)) | (go_at_call 10; (with_reducible refine (squash_Stretch.calls k 2048 t104 _ A3.out).mono ?_); rintro e w5 ⟨rfl, hb⟩; have n0_ := Aside0.mk (below_step (by repeat (first | (with_reducible first | exact HB.out | apply below_alloc | apply pw_below_drewN | apply below_drew1) | exact HB.out)) hb); clear HB; have HB := n0_; clear n0_; (try clear hb); (try clear hb2); (try clear hk); (try clear hi)))
    go_ret
    exact ⟨by first | rfl | (simp [errW_none, errW_some] <;> rfl) | (simp [*, errW_none, errW_some] <;> rfl), by repeat (first | (with_reducible first | exact HB.out | apply below_alloc | apply pw_below_drewN | apply below_drew1) | exact HB.out)⟩
  · rw [if_neg c2] at H
    have c2b0 : (t103 == 2048) = false := beq_eq_false_iff_ne.mpr c2
    have c2b1 : (t103 != 2048) = true := bne_iff_ne.mpr c2
    obtain rfl := Option.some.inj H
    go_enter Try.func12, Try.ntmps12
    go_wp2_with (first | ((with_reducible refine gate_callee (f := 8) rfl ?_); refine goesL_ (some 1) rfl rfl Try.func8 (by kernel_rfl) rfl #[.int .i64 0] rfl (by (try simp only [List.map_toArray, List.map_cons, List.map_nil]); first | done | rfl | (simp only [List.length_drop, List.length_take]; rfl)) ?_; (with_reducible refine (squash_Squash.calls k 0 t103 _ A1.out).mono ?_); rintro e w6 ⟨rfl, hb⟩; refine ⟨_, rfl, ?_⟩; have n0_ := Aside0.mk (below_step (by repeat (first | (with_reducible first | exact HB.out | apply below_alloc | apply pw_below_drewN | apply below_drew1) | exact HB.out)) hb); clear HB; have HB := n0_; clear n0_; (try clear hb); (try clear hb2); (try clear hk); (try clear hi)))
    go_ret
    exact ⟨by first | rfl | (simp [errW_none, errW_some] <;> rfl) | (simp [*, errW_none, errW_some] <;> rfl), by repeat (first | (with_reducible first | exact HB.out | apply below_alloc | apply pw_below_drewN | apply below_drew1) | exact HB.out)⟩

/-! ### wringerlaw17_SquashBack: function 5 -/
def wringerlaw17_SquashBack.f (k : Nat) (a0 : Int) : Option (Bool) := (squash_Stretch.f k (wrap64 (1 + (Int.tmod (wrap64 (a0)) 4095)))).bind fun t105 => (if t105 = 2047 then (if t105 = (-2047) then ((wringerlaw17_awake.f k).bind fun t106 => (some t106)) else ((squash_Squash.f k (wrap64 (t105 - 1))).bind fun t107 => (if t107 < (wrap64 (1 + (Int.tmod (wrap64 (a0)) 4095))) then ((wringerlaw17_awake.f k).bind fun t108 => (some t108)) else (some false)))) else ((squash_Squash.f k t105).bind fun t109 => (if t109 ≥ (wrap64 (1 + (Int.tmod (wrap64 (a0)) 4095))) then (if t105 = (-2047) then ((wringerlaw17_awake.f k).bind fun t110 => (some t110)) else ((squash_Squash.f k (wrap64 (t105 - 1))).bind fun t111 => (if t111 < (wrap64 (1 + (Int.tmod (wrap64 (a0)) 4095))) then ((wringerlaw17_awake.f k).bind fun t112 => (some t112)) else (some false)))) else (some false))))
theorem wringerlaw17_SquashBack.mono : ∀ a0 k, LeO (wringerlaw17_SquashBack.f k a0) (wringerlaw17_SquashBack.f (k + 1) a0) := by
  intro a0 k
  unfold wringerlaw17_SquashBack.f
  repeat' first
      | (with_reducible exact squash_Squash.mono _ _)
      | (with_reducible exact squash_Stretch.mono _ _)
      | (with_reducible exact wringerlaw17_awake.mono _)
      | (with_reducible exact LeO.refl _)
      | (with_reducible exact LeO.none _)
      | (with_reducible refine LeO.ite ?_ ?_)
      | (with_reducible refine LeO.bind ?_ (fun _ => ?_))
      | exact squash_Squash.mono _ _
      | exact squash_Stretch.mono _ _
      | exact wringerlaw17_awake.mono _
      | exact LeO.none _
      | refine LeO.ite ?_ ?_
      | refine LeO.bind ?_ (fun _ => ?_)
set_option maxHeartbeats 8000000 in
set_option maxRecDepth 100000 in
theorem wringerlaw17_SquashBack.calls (k : Nat) (a0 : Int) (r : Bool) (w : World) (h : wringerlaw17_SquashBack.f k a0 = some r) :
    Calls Try.prog 5 #[.int .u16 a0] w fun e w' => e = .returned (.bool r) ∧ Below w.heap.size w w' := by
  have HB := Aside0.mk (Below.refl w.heap.size w)
  have H : ((squash_Stretch.f k (wrap64 (1 + (Int.tmod (wrap64 (a0)) 4095)))).bind fun t105 => (if t105 = 2047 then (if t105 = (-2047) then ((wringerlaw17_awake.f k).bind fun t106 => (some t106)) else ((squash_Squash.f k (wrap64 (t105 - 1))).bind fun t107 => (if t107 < (wrap64 (1 + (Int.tmod (wrap64 (a0)) 4095))) then ((wringerlaw17_awake.f k).bind fun t108 => (some t108)) else (some false)))) else ((squash_Squash.f k t105).bind fun t109 => (if t109 ≥ (wrap64 (1 + (Int.tmod (wrap64 (a0)) 4095))) then (if t105 = (-2047) then ((wringerlaw17_awake.f k).bind fun t110 => (some t110)) else ((squash_Squash.f k (wrap64 (t105 - 1))).bind fun t111 => (if t111 < (wrap64 (1 + (Int.tmod (wrap64 (a0)) 4095))) then ((wringerlaw17_awake.f k).bind fun t112 => (some t112)) else (some false)))) else (some false))))) = some r := h
  clear h
  replace H := Option.bind_eq_some_iff.mp H
  obtain ⟨t105, A20, H⟩ := H
  replace H : (if t105 = 2047 then (if t105 = (-2047) then ((wringerlaw17_awake.f k).bind fun t106 => (some t106)) else ((squash_Squash.f k (wrap64 (t105 - 1))).bind fun t107 => (if t107 < (wrap64 (1 + (Int.tmod (wrap64 (a0)) 4095))) then ((wringerlaw17_awake.f k).bind fun t108 => (some t108)) else (some false)))) else ((squash_Squash.f k t105).bind fun t109 => (if t109 ≥ (wrap64 (1 + (Int.tmod (wrap64 (a0)) 4095))) then (if t105 = (-2047) then ((wringerlaw17_awake.f k).bind fun t110 => (some t110)) else ((squash_Squash.f k (wrap64 (t105 - 1))).bind fun t111 => (if t111 < (wrap64 (1 + (Int.tmod (wrap64 (a0)) 4095))) then ((wringerlaw17_awake.f k).bind fun t112 => (some t112)) else (some false)))) else (some false)))) = some r := H
  have A2 := Aside0.mk A20
  clear A20
  by_cases c3 : t105 = 2047
  · rw [if_pos c3] at H
    have c3b0 : (t105 == 2047) = true := beq_iff_eq.mpr c3
    have c3b1 : (t105 != 2047) = false := bne_eq_false_iff_eq.mpr c3
    clear c3
    by_cases c4 : t105 = (-2047)
    · rw [if_pos c4] at H
      have c4b0 : (t105 == (-2047)) = true := beq_iff_eq.mpr c4
      have c4b1 : (t105 != (-2047)) = false := bne_eq_false_iff_eq.mpr c4
      clear c4
      replace H := Option.bind_eq_some_iff.mp H
      obtain ⟨t106, A50, H⟩ := H
      replace H : (some t106) = some r := H
      have A5 := Aside0.mk A50
      clear A50
      obtain rfl := Option.some.inj H
      go_enter Try.func5, Try.ntmps5
      go_wp2_with (first | ((with_reducible refine gate_callee (f := 10) rfl ?_); refine goesL_ (some 10) rfl rfl Try.func10 (by kernel_rfl) rfl #[.int .i64 (wrap64 (1 + (Int.tmod (wrap64 (a0)) 4095)))] rfl (by (try simp only [List.map_toArray, List.map_cons, List.map_nil]); first | done | rfl | (simp only [List.length_drop, List.length_take]; rfl)) ?_; (with_reducible refine (squash_Stretch.calls k (wrap64 (1 + (Int.tmod (wrap64 (a0)) 4095))) t105 _ A2.out).mono ?_); rintro e w6 ⟨rfl, hb⟩; refine ⟨_, rfl, ?_⟩; have n0_ := Aside0.mk (below_step (by repeat (first | (with_reducible first | exact HB.out | apply below_alloc | apply pw_below_drewN | apply below_drew1) | exact HB.out)) hb); clear HB; have HB := n0_; clear n0_; (try clear hb); (try clear hb2); (try clear hk); (try clear hi)) | (go_at_call 12; (with_reducible refine (wringerlaw17_awake.calls k  t106 _ A5.out).mono ?_); rintro e w7 ⟨rfl, hb⟩; have n0_ := Aside0.mk (below_step (by repeat (first | (with_reducible first | exact HB.out | apply below_alloc | apply pw_below_drewN | apply below_drew1) | exact HB.out)) hb); clear HB; have HB := n0_; clear n0_; (try clear hb); (try clear hb2); (try clear hk); (try clear hi)))
      go_ret
      exact ⟨by first | rfl | (simp [errW_none, errW_some] <;> rfl) | (simp [*, errW_none, errW_some] <;> rfl), by repeat (first | (with_reducible first | exact HB.out | apply below_alloc | apply pw_below_drewN | apply below_drew1) | exact HB.out)⟩
    · rw [if_neg c4] at H
      have c4b0 : (t105 == (-2047)) = false := beq_eq_false_iff_ne.mpr c4
      have c4b1 : (t105 != (-2047)) = true := bne_iff_ne.mpr c4
      replace H := Option.bind_eq_some_iff.mp H
      obtain ⟨t107, A80, H⟩ := H
      replace H : (if t107 < (wrap64 (1 + (Int.tmod (wrap64 (a0)) 4095))) then ((wringerlaw17_awake.f k).bind fun t108 => (some t108)) else (some false)) = some r := H
      have A8 := Aside0.mk A80
      clear A80
      by_cases c9 : t107 < (wrap64 (1 + (Int.tmod (wrap64 (a0)) 4095)))
      · rw [if_pos c9] at H
        have c9b0 : decide (t107 < (wrap64 (1 + (Int.tmod (wrap64 (a0)) 4095)))) = true := decide_eq_true c9
        clear c9
        replace H := Option.bind_eq_some_iff.mp H
        obtain ⟨t108, A100, H⟩ := H
        replace H : (some t108) = some r := H
        have A10 := Aside0.mk A100
        clear A100
        obtain rfl := Option.some.inj H
        go_enter Try.func5, Try.ntmps5
        go_wp2_with (first | ((with_reducible refine gate_callee (f := 10) rfl ?_); refine goesL_ (some 10) rfl rfl Try.func10 (by kernel_rfl) rfl #[.int .i64 (wrap64 (1 + (Int.tmod (wrap64 (a0)) 4095)))] rfl (by (try simp only [List.map_toArray, List.map_cons, List.map_nil]); first | done | rfl | (simp only [List.length_drop, List.length_take]; rfl)) ?_; (with_reducible refine (squash_Stretch.calls k (wrap64 (1 + (Int.tmod (wrap64 (a0)) 4095))) t105 _ A2.out).mono ?_); rintro e w11 ⟨rfl, hb⟩; refine ⟨_, rfl, ?_⟩; have n0_ := Aside0.mk (below_step (by repeat (first | (with_reducible first | exact HB.out | apply below_alloc | apply pw_below_drewN | apply below_drew1) | exact HB.out)) hb); clear HB; have HB := n0_; clear n0_; (try clear hb); (try clear hb2); (try clear hk); (try clear hi)) | (go_at_call 8; (with_reducible refine (squash_Squash.calls k (wrap64 (t105 - 1)) t107 _ A8.out).mono ?_); rintro e w12 ⟨rfl, hb⟩; have n0_ := Aside0.mk (below_step (by repeat (first | (with_reducible first | exact HB.out | apply below_alloc | apply pw_below_drewN | apply below_drew1) | exact HB.out)) hb); clear HB; have HB := n0_; clear n0_; (try clear hb); (try clear hb2); (try clear hk); (try clear hi)) | (go_at_call 12; (with_reducible refine (wringerlaw17_awake.calls k  t108 _ A10.out).mono ?_); rintro e w13 ⟨rfl, hb⟩; have n0_ := Aside0.mk (below_step (by repeat (first | (with_reducible first | exact HB.out | apply below_alloc | apply pw_below_drewN | apply below_drew1) | exact HB.out)) hb); clear HB; have HB := n0_; clear n0_; (try clear hb); (try clear hb2); (try clear hk); (try clear hi)))
        go_ret
        exact ⟨by first | rfl | (simp [errW_none, errW_some] <;> rfl) | (simp [*, errW_none, errW_some] <;> rfl), by repeat (first | (with_reducible first | exact HB.out | apply below_alloc | apply pw_below_drewN | apply below_drew1) | exact HB.out)⟩
      · rw [if_neg c9] at H
        have c9b0 : decide (t107 < (wrap64 (1 + (Int.tmod (wrap64 (a0)) 4095)))) = false := decide_eq_false c9
        clear c9
        obtain rfl := Option.some.inj H
        go_enter Try.func5, Try.ntmps5
        go_wp2_with (first | ((with_reducible refine gate_callee (f := 10) rfl ?_); refine goesL_ (some 10) rfl rfl Try.func10 (by kernel_rfl) rfl #[.int .i64 (wrap64 (1 + (Int.tmod (wrap64 (a0)) 4095)))] rfl (by (try simp only [List.map_toArray, List.map_cons, List.map_nil]); first | done | rfl | (simp only [List.length_drop, List.length_take]; rfl)) ?_; (with_reducible refine (squash_Stretch.calls k (wrap64 (1 + (Int.tmod (wrap64 (a0)) 4095))) t105 _ A2.out).mono ?_); rintro e w14 ⟨rfl, hb⟩; refine ⟨_, rfl, ?_⟩; have n0_ := Aside0.mk (below_step (by repeat (first | (with_reducible first | exact HB.out | apply below_alloc | apply pw_below_drewN | apply below_drew1) | exact HB.out)) hb); clear HB; have HB := n0_; clear n0_; (try clear hb); (try clear hb2); (try clear hk); (try clear hi)) | (go_at_call 8; (with_reducible refine (squash_Squash.calls k (wrap64 (t105 - 1)) t107 _ A8.out).mono ?_); rintro e w15 ⟨rfl, hb⟩; have n0_ := Aside0.mk (below_step (by repeat (first | (with_reducible first | exact HB.out | apply below_alloc | apply pw_below_drewN | apply below_drew1) | exact HB.out)) hb); clear HB; have HB := n0_; clear n0_; (try clear hb); (try clear hb2); (try clear hk); (try clear hi)))
        go_ret
        exact ⟨by first | rfl | (simp [errW_none, errW_some] <;> rfl) | (simp [*, errW_none, errW_some] <;> rfl), by repeat (first | (with_reducible first | exact HB.out | apply below_alloc | apply pw_below_drewN | apply below_drew1) | exact HB.out)⟩
  · rw [if_neg c3] at H
    have c3b0 : (t105 == 2047) = false := beq_eq_false_iff_ne.mpr c3
    have c3b1 : (t105 != 2047) = true := bne_iff_ne.mpr c3
    replace H := Option.bind_eq_some_iff.mp H
    obtain ⟨t109, A160, H⟩ := H
    replace H : (if t109 ≥ (wrap64 (1 + (Int.tmod (wrap64 (a0)) 4095))) then (if t105 = (-2047) then ((wringerlaw17_awake.f k).bind fun t110 => (some t110)) else ((squash_Squash.f k (wrap64 (t105 - 1))).bind fun t111 => (if t111 < (wrap64 (1 + (Int.tmod (wrap64 (a0)) 4095))) then ((wringerlaw17_awake.f k).bind fun t112 => (some t112)) else (some false)))) else (some false)) = some r := H
    have A16 := Aside0.mk A160
    clear A160
    by_cases c17 : t109 ≥ (wrap64 (1 + (Int.tmod (wrap64 (a0)) 4095)))
    · rw [if_pos c17] at H
      have c17b0 : decide ((wrap64 (1 + (Int.tmod (wrap64 (a0)) 4095))) ≤ t109) = true := decide_eq_true c17
      clear c17
      by_cases c18 : t105 = (-2047)
      · rw [if_pos c18] at H
        have c18b0 : (t105 == (-2047)) = true := beq_iff_eq.mpr c18
        have c18b1 : (t105 != (-2047)) = false := bne_eq_false_iff_eq.mpr c18
        clear c18
        replace H := Option.bind_eq_some_iff.mp H
        obtain ⟨t110, A190, H⟩ := H
        replace H : (some t110) = some r := H
        have A19 := Aside0.mk A190
        clear A190
        obtain rfl := Option.some.inj H
        go_enter Try.func5, Try.ntmps5
        go_wp2_with (first | ((with_reducible refine gate_callee (f := 10) rfl ?_); refine goesL_ (some 10) rfl rfl Try.func10 (by kernel_rfl) rfl #[.int .i64 (wrap64 (1 + (Int.tmod (wrap64 (a0)) 4095)))] rfl (by (try simp only [List.map_toArray, List.map_cons, List.map_nil]); first | done | rfl | (simp only [List.length_drop, List.length_take]; rfl)) ?_; (with_reducible refine (squash_Stretch.calls k (wrap64 (1 + (Int.tmod (wrap64 (a0)) 4095))) t105 _ A2.out).mono ?_); rintro e w20 ⟨rfl, hb⟩; refine ⟨_, rfl, ?_⟩; have n0_ := Aside0.mk (below_step (by repeat (first | (with_reducible first | exact HB.out | apply below_alloc | apply pw_below_drewN | apply below_drew1) | exact HB.out)) hb); clear HB; have HB := n0_; clear n0_; (try clear hb); (try clear hb2); (try clear hk); (try clear hi)) | (go_at_call 8; (with_reducible refine (squash_Squash.calls k t105 t109 _ A16.out).mono ?_); rintro e w21 ⟨rfl, hb⟩; have n0_ := Aside0.mk (below_step (by repeat (first | (with_reducible first | exact HB.out | apply below_alloc | apply pw_below_drewN | apply below_drew1) | exact HB.out)) hb); clear HB; have HB := n0_; clear n0_; (try clear hb); (try clear hb2); (try clear hk); (try clear hi)) | (go_at_call 12; (with_reducible refine (wringerlaw17_awake.calls k  t110 _ A19.out).mono ?_); rintro e w22 ⟨rfl, hb⟩; have n0_ := Aside0.mk (below_step (by repeat (first | (with_reducible first | exact HB.out | apply below_alloc | apply pw_below_drewN | apply below_drew1) | exact HB.out)) hb); clear HB; have HB := n0_; clear n0_; (try clear hb); (try clear hb2); (try clear hk); (try clear hi)))
        go_ret
        exact ⟨by first | rfl | (simp [errW_none, errW_some] <;> rfl) | (simp [*, errW_none, errW_some] <;> rfl), by repeat (first | (with_reducible first | exact HB.out | apply below_alloc | apply pw_below_drewN | apply below_drew1) | exact HB.out)⟩
      · rw [if_neg c18] at H
        have c18b0 : (t105 == (-2047)) = false := beq_eq_false_iff_ne.mpr c18
        have c18b1 : (t105 != (-2047)) = true := bne_iff_ne.mpr c18
        replace H := Option.bind_eq_some_iff.mp H
        obtain ⟨t111, A230, H⟩ := H
        replace H : (if t111 < (wrap64 (1 + (Int.tmod (wrap64 (a0)) 4095))) then ((wringerlaw17_awake.f k).bind fun t112 => (some t112)) else (some false)) = some r := H
        have A23 := Aside0.mk A230
        clear A230
        by_cases c24 : t111 < (wrap64 (1 + (Int.tmod (wrap64 (a0)) 4095)))
        · rw [if_pos c24] at H
          have c24b0 : decide (t111 < (wrap64 (1 + (Int.tmod (wrap64 (a0)) 4095)))) = true := decide_eq_true c24
          clear c24
          replace H := Option.bind_eq_some_iff.mp H
          obtain ⟨t112, A250, H⟩ := H
          replace H : (some t112) = some r := H
          have A25 := Aside0.mk A250
          clear A250
          obtain rfl := Option.some.inj H
          go_enter Try.func5, Try.ntmps5
          go_wp2_with (first | ((with_reducible refine gate_callee (f := 10) rfl ?_); refine goesL_ (some 10) rfl rfl Try.func10 (by kernel_rfl) rfl #[.int .i64 (wrap64 (1 + (Int.tmod (wrap64 (a0)) 4095)))] rfl (by (try simp only [List.map_toArray, List.map_cons, List.map_nil]); first | done | rfl | (simp only [List.length_drop, List.length_take]; rfl)) ?_; (with_reducible refine (squash_Stretch.calls k (wrap64 (1 + (Int.tmod (wrap64 (a0)) 4095))) t105 _ A2.out).mono ?_); rintro e w26 ⟨rfl, hb⟩; refine ⟨_, rfl, ?_⟩; have n0_ := Aside0.mk (below_step (by repeat (first | (with_reducible first | exact HB.out | apply below_alloc | apply pw_below_drewN | apply below_drew1) | exact HB.out)) hb); clear HB; have HB := n0_; clear n0_; (try clear hb); (try clear hb2); (try clear hk); (try clear hi)) | (go_at_call 8; (with_reducible refine (squash_Squash.calls k t105 t109 _ A16.out).mono ?_); rintro e w27 ⟨rfl, hb⟩; have n0_ := Aside0.mk (below_step (by repeat (first | (with_reducible first | exact HB.out | apply below_alloc | apply pw_below_drewN | apply below_drew1) | exact HB.out)) hb); clear HB; have HB := n0_; clear n0_; (try clear hb); (try clear hb2); (try clear hk); (try clear hi)) | (go_at_call 8; (with_reducible refine (squash_Squash.calls k (wrap64 (t105 - 1)) t111 _ A23.out).mono ?_); rintro e w28 ⟨rfl, hb⟩; have n0_ := Aside0.mk (below_step (by repeat (first | (with_reducible first | exact HB.out | apply below_alloc | apply pw_below_drewN | apply below_drew1) | exact HB.out)) hb); clear HB; have HB := n0_; clear n0_; (try clear hb); (try clear hb2); (try clear hk); (try clear hi)) | (go_at_call 12; (with_reducible refine (wringerlaw17_awake.calls k  t112 _ A25.out).mono ?_); rintro e w29 ⟨rfl, hb⟩; have n0_ := Aside0.mk (below_step (by repeat (first | (with_reducible first | exact HB.out | apply below_alloc | apply pw_below_drewN | apply below_drew1) | exact HB.out)) hb); clear HB; have HB := n0_; clear n0_; (try clear hb); (try clear hb2); (try clear hk); (try clear hi)))
          go_ret
          exact ⟨by first | rfl | (simp [errW_none, errW_some] <;> rfl) | (simp [*, errW_none, errW_some] <;> rfl), by repeat (first | (with_reducible first | exact HB.out | apply below_alloc | apply pw_below_drewN | apply below_drew1) | exact HB.out)⟩
        · rw [if_neg c24] at H
          have c24b0 : decide (t111 < (wrap64 (1 + (Int.tmod (wrap64 (a0)) 4095)))) = false := decide_eq_false c24
          clear c24
          obtain rfl := Option.some.inj H
          go_enter Try.func5, Try.ntmps5
          go_wp2_with (first | ((with_reducible refine gate_callee (f := 10) rfl ?_); refine goesL_ (some 10) rfl rfl Try.func10 (by kernel_rfl) rfl #[.int .i64 (wrap64 (1 + (Int.tmod (wrap64 (a0)) 4095)))] rfl (by (try simp only [List.map_toArray, List.map_cons, List.map_nil]); first | done | rfl | (simp only [List.length_drop, List.length_take]; rfl)) ?_; (with_reducible refine (squash_Stretch.calls k (wrap64 (1 + (Int.tmod (wrap64 (a0)) 4095))) t105 _ A2.out).mono ?_); rintro e w30 ⟨rfl, hb⟩; refine ⟨_, rfl, ?_⟩; have n0_ := Aside0.mk (below_step (by repeat (first | (with_reducible first | exact HB.out | apply below_alloc | apply pw_below_drewN | apply below_drew1) | exact HB.out)) hb); clear HB; have HB := n0_; clear n0_; (try clear hb); (try clear hb2); (try clear hk); (try clear hi)) | (go_at_call 8; (with_reducible refine (squash_Squash.calls k t105 t109 _ A16.out).mono ?_); rintro e w31 ⟨rfl, hb⟩; have n0_ := Aside0.mk (below_step (by repeat (first | (with_reducible first | exact HB.out | apply below_alloc | apply pw_below_drewN | apply below_drew1) | exact HB.out)) hb); clear HB; have HB := n0_; clear n0_; (try clear hb); (try clear hb2); (try clear hk); (try clear hi)) | (go_at_call 8; (with_reducible refine (squash_Squash.calls k (wrap64 (t105 - 1)) t111 _ A23.out).mono ?_); rintro e w32 ⟨rfl, hb⟩; have n0_ := Aside0.mk (below_step (by repeat (first | (with_reducible first | exact HB.out | apply below_alloc | apply pw_below_drewN | apply below_drew1) | exact HB.out)) hb); clear HB; have HB := n0_; clear n0_; (try clear hb); (try clear hb2); (try clear hk); (try clear hi)))
          go_ret
          exact ⟨by first | rfl | (simp [errW_none, errW_some] <;> rfl) | (simp [*, errW_none, errW_some] <;> rfl), by repeat (first | (with_reducible first | exact HB.out | apply below_alloc | apply pw_below_drewN | apply below_drew1) | exact HB.out)⟩
    · rw [if_neg c17] at H
      have c17b0 : decide ((wrap64 (1 + (Int.tmod (wrap64 (a0)) 4095))) ≤ t109) = false := decide_eq_false c17
      clear c17
      obtain rfl := Option.some.inj H
      go_enter Try.func5, Try.ntmps5
      go_wp2_with (first | ((with_reducible refine gate_callee (f := 10) rfl ?_); refine goesL_ (some 10) rfl rfl Try.func10 (by kernel_rfl) rfl #[.int .i64 (wrap64 (1 + (Int.tmod (wrap64 (a0)) 4095)))] rfl (by (try simp only [List.map_toArray, List.map_cons, List.map_nil]); first | done | rfl | (simp only [List.length_drop, List.length_take]; rfl)) ?_; (with_reducible refine (squash_Stretch.calls k (wrap64 (1 + (Int.tmod (wrap64 (a0)) 4095))) t105 _ A2.out).mono ?_); rintro e w33 ⟨rfl, hb⟩; refine ⟨_, rfl, ?_⟩; have n0_ := Aside0.mk (below_step (by repeat (first | (with_reducible first | exact HB.out | apply below_alloc | apply pw_below_drewN | apply below_drew1) | exact HB.out)) hb); clear HB; have HB := n0_; clear n0_; (try clear hb); (try clear hb2); (try clear hk); (try clear hi)) | (go_at_call 8; (with_reducible refine (squash_Squash.calls k t105 t109 _ A16.out).mono ?_); rintro e w34 ⟨rfl, hb⟩; have n0_ := Aside0.mk (below_step (by repeat (first | (with_reducible first | exact HB.out | apply below_alloc | apply pw_below_drewN | apply below_drew1) | exact HB.out)) hb); clear HB; have HB := n0_; clear n0_; (try clear hb); (try clear hb2); (try clear hk); (try clear hi)))
      go_ret
      exact ⟨by first | rfl | (simp [errW_none, errW_some] <;> rfl) | (simp [*, errW_none, errW_some] <;> rfl), by repeat (first | (with_reducible first | exact HB.out | apply below_alloc | apply pw_below_drewN | apply below_drew1) | exact HB.out)⟩

/-- THE ONE PURE STATEMENT of wringerlaw17_SquashBack: yours. -/
def wringerlaw17_SquashBack.Pure : Prop := ∀ (a0 : Int), (Lit.int .u16 a0).wf = true → ∃ k, wringerlaw17_SquashBack.f k a0 = some true
theorem wringerlaw17_SquashBack.walk (P : wringerlaw17_SquashBack.Pure) (a0 : Int) (w : World) (w0 : (Lit.int .u16 a0).wf = true) :
    Calls Try.prog 5 #[.int .u16 a0] w fun e w' => e = .returned (.bool true) ∧ Below w.heap.size w w' := by
  obtain ⟨k, h⟩ := P a0 w0
  refine (wringerlaw17_SquashBack.calls k a0 true w h).mono ?_
  rintro e w' ⟨rfl, hd⟩
  exact ⟨rfl, hd⟩

end Go.Proofs.Ytpdfdmfhakibaaa.PSquashBack
