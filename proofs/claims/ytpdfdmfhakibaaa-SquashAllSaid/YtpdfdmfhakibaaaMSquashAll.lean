/- The functions that SquashAll reaches, and their walks. No condition. -/
import Derived.Test.YtpdfdmfhakibaaaPSquashAllx0
namespace Go.Proofs.Ytpdfdmfhakibaaa.PSquashAll
open Go.RowKit Go.Proofs.YtpdfdmfhakibaaaW.PrintWords Go.Proofs.YtpdfdmfhakibaaaW.PrintLast Go.Proofs.YtpdfdmfhakibaaaW.PrintMore
attribute [local go_sem] max2_int min2_int max_two min_two max_three min_three max_four min_four   -- for this text's walks alone
set_option linter.unusedVariables false
set_option linter.unusedSimpArgs false

/-! ### squash_Squash: function 8 -/
def squash_Squash.f : Nat → Int → Option (Int)
  | 0, _ => none
  | k + 1, a0 => if (mx (-2047) (mn a0 2047)) < 0 then ((squash_Squash.f k (-(mx (-2047) (mn a0 2047)))).bind fun t101 => (some (wrap64 (4096 - t101)))) else (if 0 ≤ (wrap64 (Int.tdiv (mx (-2047) (mn a0 2047)) 256)) then (if (wrap64 (65536 + (wrap64 ((shr .i64 65536 (wrap64 (Int.tdiv (mx (-2047) (mn a0 2047)) 256))) - (wrap64 (Int.tdiv (wrap64 (((shr .i64 65536 (wrap64 (Int.tdiv (mx (-2047) (mn a0 2047)) 256))) / 2) * (Int.tmod (mx (-2047) (mn a0 2047)) 256))) 256)))))) = 0 then (none) else (some (wrap64 ((268435456 : Int) / (wrap64 (65536 + (wrap64 ((shr .i64 65536 (wrap64 (Int.tdiv (mx (-2047) (mn a0 2047)) 256))) - (wrap64 (Int.tdiv (wrap64 (((shr .i64 65536 (wrap64 (Int.tdiv (mx (-2047) (mn a0 2047)) 256))) / 2) * (Int.tmod (mx (-2047) (mn a0 2047)) 256))) 256)))))))))) else (none))
theorem squash_Squash.mono_l : ∀ k, (∀ y0, LeO (squash_Squash.f k y0) (squash_Squash.f (k + 1) y0))
  | 0 => fun _ r h => by simp [squash_Squash.f] at h
  | k + 1 => by
    have ih0 := squash_Squash.mono_l k
    · intro y0
      unfold squash_Squash.f
      repeat' first
      | (with_reducible exact ih0 _)
      | (with_reducible exact LeO.refl _)
      | (with_reducible exact LeO.none _)
      | (with_reducible refine LeO.ite ?_ ?_)
      | (with_reducible refine LeO.bind ?_ (fun _ => ?_))
      | exact ih0 _
      | exact LeO.none _
      | refine LeO.ite ?_ ?_
      | refine LeO.bind ?_ (fun _ => ?_)
theorem squash_Squash.mono : ∀ a0 k, LeO (squash_Squash.f k a0) (squash_Squash.f (k + 1) a0) := by
  intro a0 k
  have ih0 := squash_Squash.mono_l k
  exact ih0 a0
set_option maxHeartbeats 8000000 in
set_option maxRecDepth 100000 in
theorem squash_Squash.calls (k : Nat) : ∀ (a0 : Int) (r : Int) (w : World) (h : squash_Squash.f k a0 = some r),
    Calls Try.prog 8 #[.int .i64 a0] w fun e w' => e = .returned (.int .i64 r) ∧ Below w.heap.size w w' := by
  induction k using Nat.strongRecOn with
  | _ k ih =>
  intro a0 r w h
  cases k with
  | zero => exact absurd h (by simp [squash_Squash.f])
  | succ k =>
  simp only [squash_Squash.f] at h
  have HB := Aside0.mk (Below.refl w.heap.size w)
  have H : (if (mx (-2047) (mn a0 2047)) < 0 then ((squash_Squash.f k (-(mx (-2047) (mn a0 2047)))).bind fun t101 => (some (wrap64 (4096 - t101)))) else (if 0 ≤ (wrap64 (Int.tdiv (mx (-2047) (mn a0 2047)) 256)) then (if (wrap64 (65536 + (wrap64 ((shr .i64 65536 (wrap64 (Int.tdiv (mx (-2047) (mn a0 2047)) 256))) - (wrap64 (Int.tdiv (wrap64 (((shr .i64 65536 (wrap64 (Int.tdiv (mx (-2047) (mn a0 2047)) 256))) / 2) * (Int.tmod (mx (-2047) (mn a0 2047)) 256))) 256)))))) = 0 then (none) else (some (wrap64 ((268435456 : Int) / (wrap64 (65536 + (wrap64 ((shr .i64 65536 (wrap64 (Int.tdiv (mx (-2047) (mn a0 2047)) 256))) - (wrap64 (Int.tdiv (wrap64 (((shr .i64 65536 (wrap64 (Int.tdiv (mx (-2047) (mn a0 2047)) 256))) / 2) * (Int.tmod (mx (-2047) (mn a0 2047)) 256))) 256)))))))))) else (none))) = some r := h
  clear h
  obtain ⟨ji2, hji2⟩ : ∃ j_ : Int, (mn a0 2047) = j_ := ⟨_, rfl⟩
  replace H : (if (mx (-2047) (ji2)) < 0 then ((squash_Squash.f k (-(mx (-2047) (ji2)))).bind fun t101 => (some (wrap64 (4096 - t101)))) else (if 0 ≤ (wrap64 (Int.tdiv (mx (-2047) (ji2)) 256)) then (if (wrap64 (65536 + (wrap64 ((shr .i64 65536 (wrap64 (Int.tdiv (mx (-2047) (ji2)) 256))) - (wrap64 (Int.tdiv (wrap64 (((shr .i64 65536 (wrap64 (Int.tdiv (mx (-2047) (ji2)) 256))) / 2) * (Int.tmod (mx (-2047) (ji2)) 256))) 256)))))) = 0 then (none) else (some (wrap64 ((268435456 : Int) / (wrap64 (65536 + (wrap64 ((shr .i64 65536 (wrap64 (Int.tdiv (mx (-2047) (ji2)) 256))) - (wrap64 (Int.tdiv (wrap64 (((shr .i64 65536 (wrap64 (Int.tdiv (mx (-2047) (ji2)) 256))) / 2) * (Int.tmod (mx (-2047) (ji2)) 256))) 256)))))))))) else (none))) = some r := by first | (rw [hji2] at H; exact H) | (simp only [hji2] at H ⊢; exact H)
  (try (have hji2h : ji2 ≤ 2047 := by (rw [← hji2]; unfold mn; (repeat' split) <;> omega)))
  (try (have hji2g : ji2 ≤ 64 := by omega))
  have hji2_ : (if 2047 < a0 then 2047 else a0) = ji2 := hji2
  obtain ⟨ji3, hji3⟩ : ∃ j_ : Int, (mx (-2047) (ji2)) = j_ := ⟨_, rfl⟩
  replace H : (if (ji3) < 0 then ((squash_Squash.f k (-(ji3))).bind fun t101 => (some (wrap64 (4096 - t101)))) else (if 0 ≤ (wrap64 (Int.tdiv (ji3) 256)) then (if (wrap64 (65536 + (wrap64 ((shr .i64 65536 (wrap64 (Int.tdiv (ji3) 256))) - (wrap64 (Int.tdiv (wrap64 (((shr .i64 65536 (wrap64 (Int.tdiv (ji3) 256))) / 2) * (Int.tmod (ji3) 256))) 256)))))) = 0 then (none) else (some (wrap64 ((268435456 : Int) / (wrap64 (65536 + (wrap64 ((shr .i64 65536 (wrap64 (Int.tdiv (ji3) 256))) - (wrap64 (Int.tdiv (wrap64 (((shr .i64 65536 (wrap64 (Int.tdiv (ji3) 256))) / 2) * (Int.tmod (ji3) 256))) 256)))))))))) else (none))) = some r := by first | (rw [hji3] at H; exact H) | (simp only [hji3] at H ⊢; exact H)
  have hji3_ : (if (-2047) < (ji2) then (ji2) else (-2047)) = ji3 := hji3
  by_cases c4 : (ji3) < 0
  · rw [if_pos c4] at H
    have c4b0 : decide ((ji3) < 0) = true := decide_eq_true c4
    clear c4
    replace H := Option.bind_eq_some_iff.mp H
    obtain ⟨t101, A50, H⟩ := H
    replace H : (some (wrap64 (4096 - t101))) = some r := H
    have A5 := Aside0.mk A50
    clear A50
    obtain rfl := Option.some.inj H
    go_enter Try.func8, Try.ntmps8
    go_wp2_with (first | ((with_reducible refine gate_callee (f := 8) rfl ?_); refine goesL_ (some 11) rfl rfl Try.func8 (by kernel_rfl) rfl #[.int .i64 (-(ji3))] rfl (by (try simp only [List.map_toArray, List.map_cons, List.map_nil]); first | done | (simp only [hji3]; rfl) | rfl | (simp only [List.length_drop, List.length_take]; rfl)) ?_; (with_reducible refine (ih k (by omega) (-(ji3)) t101 _ A5.out).mono ?_); rintro e w6 ⟨rfl, hb⟩; refine ⟨_, rfl, ?_⟩; have n0_ := Aside0.mk (below_step (by repeat (first | (with_reducible first | exact HB.out | apply below_alloc | apply pw_below_drewN | apply below_drew1) | exact HB.out)) hb); clear HB; have HB := n0_; clear n0_; (try clear hb); (try clear hb2); (try clear hk); (try clear hi)))
    go_ret
    exact ⟨by first | rfl | (simp [errW_none, errW_some] <;> rfl) | (simp only [← hji2, ← hji3]; first | rfl | (simp [errW_none, errW_some] <;> rfl)) | (simp [*, errW_none, errW_some] <;> rfl), by repeat (first | (with_reducible first | exact HB.out | apply below_alloc | apply pw_below_drewN | apply below_drew1) | exact HB.out)⟩
  · rw [if_neg c4] at H
    have c4b0 : decide ((ji3) < 0) = false := decide_eq_false c4
    clear c4
    obtain ⟨ji7, hji7⟩ : ∃ j_ : Int, (wrap64 (Int.tdiv (ji3) 256)) = j_ := ⟨_, rfl⟩
    replace H : (if 0 ≤ (ji7) then (if (wrap64 (65536 + (wrap64 ((shr .i64 65536 (ji7)) - (wrap64 (Int.tdiv (wrap64 (((shr .i64 65536 (ji7)) / 2) * (Int.tmod (ji3) 256))) 256)))))) = 0 then (none) else (some (wrap64 ((268435456 : Int) / (wrap64 (65536 + (wrap64 ((shr .i64 65536 (ji7)) - (wrap64 (Int.tdiv (wrap64 (((shr .i64 65536 (ji7)) / 2) * (Int.tmod (ji3) 256))) 256)))))))))) else (none)) = some r := by first | (rw [hji7] at H; exact H) | (simp only [hji7] at H ⊢; exact H)
    have hji7w : (IntKind.i64.wrap (Int.tdiv (ji3) 256)) = ji7 := (i64_w _).trans hji7
    by_cases c8 : 0 ≤ (ji7)
    · rw [if_pos c8] at H
      have c8b0 := eq_true c8
      have c8b1 : decide (0 ≤ (ji7)) = true := decide_eq_true c8
      clear c8
      obtain ⟨ji9, hji9⟩ : ∃ j_ : Int, (shr .i64 65536 (ji7)) = j_ := ⟨_, rfl⟩
      replace H : (if (wrap64 (65536 + (wrap64 ((ji9) - (wrap64 (Int.tdiv (wrap64 (((ji9) / 2) * (Int.tmod (ji3) 256))) 256)))))) = 0 then (none) else (some (wrap64 ((268435456 : Int) / (wrap64 (65536 + (wrap64 ((ji9) - (wrap64 (Int.tdiv (wrap64 (((ji9) / 2) * (Int.tmod (ji3) 256))) 256)))))))))) = some r := by first | (rw [hji9] at H; exact H) | (simp only [hji9] at H ⊢; exact H)
      have hji9_ : (65536 / 2 ^ min (ji7).toNat 64) = ji9 := hji9
      have hji9z : (ji7) ≤ 64 → (65536 / 2 ^ (ji7).toNat) = ji9 := shr_small hji9
      by_cases c10 : (wrap64 (65536 + (wrap64 ((ji9) - (wrap64 (Int.tdiv (wrap64 (((ji9) / 2) * (Int.tmod (ji3) 256))) 256)))))) = 0
      · rw [if_pos c10] at H
        exact absurd H (by simp)
      · rw [if_neg c10] at H
        have c10b0 : ((wrap64 (65536 + (wrap64 ((ji9) - (wrap64 (Int.tdiv (wrap64 (((ji9) / 2) * (Int.tmod (ji3) 256))) 256)))))) == 0) = false := beq_eq_false_iff_ne.mpr c10
        have c10b1 : ((wrap64 (65536 + (wrap64 ((ji9) - (wrap64 (Int.tdiv (wrap64 (((ji9) / 2) * (Int.tmod (ji3) 256))) 256)))))) != 0) = true := bne_iff_ne.mpr c10
        obtain rfl := Option.some.inj H
        obtain ⟨hji9n, hji9m⟩ : 0 ≤ ji9 ∧ ji9 ≤ 65536 := by rw [← hji9]; unfold shr; exact ⟨Int.ediv_nonneg (by decide) (Int.le_of_lt (Int.pow_pos (by decide))), Int.ediv_le_self _ (by decide)⟩
        rw [← Int.tdiv_eq_ediv_of_nonneg (a := 268435456) (by decide)]
        go_enter Try.func8, Try.ntmps8
        go_wp2
        go_ret
        exact ⟨by first | rfl | (simp [errW_none, errW_some] <;> rfl) | (simp only [← hji2, ← hji3, ← hji7, ← hji9]; first | rfl | (simp [errW_none, errW_some] <;> rfl)) | (simp [*, errW_none, errW_some] <;> rfl), by repeat (first | (with_reducible first | exact HB.out | apply below_alloc | apply pw_below_drewN | apply below_drew1) | exact HB.out)⟩
    · rw [if_neg c8] at H
      exact absurd H (by simp)

/-! ### wringerref15_cut: function 13 -/
def wringerref15_cut.f (a0 : Int) (a1 : Int) : Option (Int) := some (mx (wrap64 (-a1)) (mn a0 a1))
set_option maxHeartbeats 8000000 in
set_option maxRecDepth 100000 in
theorem wringerref15_cut.calls (a0 : Int) (a1 : Int) (r : Int) (w : World) (h : wringerref15_cut.f a0 a1 = some r) :
    Calls Try.prog 13 #[.int .i64 a0, .int .i64 a1] w fun e w' => e = .returned (.int .i64 r) ∧ Below w.heap.size w w' := by
  have HB := Aside0.mk (Below.refl w.heap.size w)
  have H : (some (mx (wrap64 (-a1)) (mn a0 a1))) = some r := h
  clear h
  obtain ⟨ji3, hji3⟩ : ∃ j_ : Int, (mn a0 a1) = j_ := ⟨_, rfl⟩
  replace H : (some (mx (wrap64 (-a1)) (ji3))) = some r := by first | (rw [hji3] at H; exact H) | (simp only [hji3] at H ⊢; exact H)
  have hji3_ : (if a1 < a0 then a1 else a0) = ji3 := hji3
  obtain ⟨ji4, hji4⟩ : ∃ j_ : Int, (mx (wrap64 (-a1)) (ji3)) = j_ := ⟨_, rfl⟩
  replace H : (some ji4) = some r := by first | (rw [hji4] at H; exact H) | (simp only [hji4] at H ⊢; exact H)
  have hji4_ : (if (wrap64 (-a1)) < (ji3) then (ji3) else (wrap64 (-a1))) = ji4 := hji4
  obtain rfl := Option.some.inj H
  go_enter Try.func13, Try.ntmps13
  go_wp2
  go_ret
  exact ⟨by first | rfl | (simp [errW_none, errW_some] <;> rfl) | (simp only [← hji3, ← hji4]; first | rfl | (simp [errW_none, errW_some] <;> rfl)) | (simp [*, errW_none, errW_some] <;> rfl), by repeat (first | (with_reducible first | exact HB.out | apply below_alloc | apply pw_below_drewN | apply below_drew1) | exact HB.out)⟩

/-! ### wringerref15_Squash: function 9 -/
def wringerref15_Squash.f : Nat → Int → Option (Int)
  | 0, _ => none
  | k + 1, a0 => (wringerref15_cut.f a0 2047).bind fun t102 => (if t102 < 0 then ((wringerref15_Squash.f k (wrap64 (-t102))).bind fun t103 => (some (wrap64 (4096 - t103)))) else (if 0 ≤ (wrap64 (Int.tdiv t102 256)) then (if (wrap64 (65536 + (wrap64 ((shr .i64 65536 (wrap64 (Int.tdiv t102 256))) - (wrap64 (Int.tdiv (wrap64 (((shr .i64 65536 (wrap64 (Int.tdiv t102 256))) / 2) * (Int.tmod t102 256))) 256)))))) = 0 then (none) else (some (wrap64 ((268435456 : Int) / (wrap64 (65536 + (wrap64 ((shr .i64 65536 (wrap64 (Int.tdiv t102 256))) - (wrap64 (Int.tdiv (wrap64 (((shr .i64 65536 (wrap64 (Int.tdiv t102 256))) / 2) * (Int.tmod t102 256))) 256)))))))))) else (none)))
theorem wringerref15_Squash.mono_l : ∀ k, (∀ y0, LeO (wringerref15_Squash.f k y0) (wringerref15_Squash.f (k + 1) y0))
  | 0 => fun _ r h => by simp [wringerref15_Squash.f] at h
  | k + 1 => by
    have ih0 := wringerref15_Squash.mono_l k
    · intro y0
      unfold wringerref15_Squash.f
      repeat' first
      | (with_reducible exact ih0 _)
      | (with_reducible exact LeO.refl _)
      | (with_reducible exact LeO.none _)
      | (with_reducible refine LeO.ite ?_ ?_)
      | (with_reducible refine LeO.bind ?_ (fun _ => ?_))
      | exact ih0 _
      | exact LeO.none _
      | refine LeO.ite ?_ ?_
      | refine LeO.bind ?_ (fun _ => ?_)
theorem wringerref15_Squash.mono : ∀ a0 k, LeO (wringerref15_Squash.f k a0) (wringerref15_Squash.f (k + 1) a0) := by
  intro a0 k
  have ih0 := wringerref15_Squash.mono_l k
  exact ih0 a0
set_option maxHeartbeats 8000000 in
set_option maxRecDepth 100000 in
theorem wringerref15_Squash.calls (k : Nat) : ∀ (a0 : Int) (r : Int) (w : World) (h : wringerref15_Squash.f k a0 = some r),
    Calls Try.prog 9 #[.int .i64 a0] w fun e w' => e = .returned (.int .i64 r) ∧ Below w.heap.size w w' := by
  induction k using Nat.strongRecOn with
  | _ k ih =>
  intro a0 r w h
  cases k with
  | zero => exact absurd h (by simp [wringerref15_Squash.f])
  | succ k =>
  simp only [wringerref15_Squash.f] at h
  have HB := Aside0.mk (Below.refl w.heap.size w)
  have H : ((wringerref15_cut.f a0 2047).bind fun t102 => (if t102 < 0 then ((wringerref15_Squash.f k (wrap64 (-t102))).bind fun t103 => (some (wrap64 (4096 - t103)))) else (if 0 ≤ (wrap64 (Int.tdiv t102 256)) then (if (wrap64 (65536 + (wrap64 ((shr .i64 65536 (wrap64 (Int.tdiv t102 256))) - (wrap64 (Int.tdiv (wrap64 (((shr .i64 65536 (wrap64 (Int.tdiv t102 256))) / 2) * (Int.tmod t102 256))) 256)))))) = 0 then (none) else (some (wrap64 ((268435456 : Int) / (wrap64 (65536 + (wrap64 ((shr .i64 65536 (wrap64 (Int.tdiv t102 256))) - (wrap64 (Int.tdiv (wrap64 (((shr .i64 65536 (wrap64 (Int.tdiv t102 256))) / 2) * (Int.tmod t102 256))) 256)))))))))) else (none)))) = some r := h
  clear h
  replace H := Option.bind_eq_some_iff.mp H
  obtain ⟨t102, A20, H⟩ := H
  replace H : (if t102 < 0 then ((wringerref15_Squash.f k (wrap64 (-t102))).bind fun t103 => (some (wrap64 (4096 - t103)))) else (if 0 ≤ (wrap64 (Int.tdiv t102 256)) then (if (wrap64 (65536 + (wrap64 ((shr .i64 65536 (wrap64 (Int.tdiv t102 256))) - (wrap64 (Int.tdiv (wrap64 (((shr .i64 65536 (wrap64 (Int.tdiv t102 256))) / 2) * (Int.tmod t102 256))) 256)))))) = 0 then (none) else (some (wrap64 ((268435456 : Int) / (wrap64 (65536 + (wrap64 ((shr .i64 65536 (wrap64 (Int.tdiv t102 256))) - (wrap64 (Int.tdiv (wrap64 (((shr .i64 65536 (wrap64 (Int.tdiv t102 256))) / 2) * (Int.tmod t102 256))) 256)))))))))) else (none))) = some r := H
  have A2 := Aside0.mk A20
  clear A20
  by_cases c3 : t102 < 0
  · rw [if_pos c3] at H
    have c3b0 : decide (t102 < 0) = true := decide_eq_true c3
    clear c3
    replace H := Option.bind_eq_some_iff.mp H
    obtain ⟨t103, A40, H⟩ := H
    replace H : (some (wrap64 (4096 - t103))) = some r := H
    have A4 := Aside0.mk A40
    clear A40
    obtain rfl := Option.some.inj H
    go_enter Try.func9, Try.ntmps9
    go_wp2_with (first | ((with_reducible refine gate_callee (f := 13) rfl ?_); refine goesL_ (some 7) rfl rfl Try.func13 (by kernel_rfl) rfl #[.int .i64 a0, .int .i64 2047] rfl (by (try simp only [List.map_toArray, List.map_cons, List.map_nil]); first | done | rfl | (simp only [List.length_drop, List.length_take]; rfl)) ?_; (with_reducible refine (wringerref15_cut.calls a0 2047 t102 _ A2.out).mono ?_); rintro e w5 ⟨rfl, hb⟩; refine ⟨_, rfl, ?_⟩; have n0_ := Aside0.mk (below_step (by repeat (first | (with_reducible first | exact HB.out | apply below_alloc | apply pw_below_drewN | apply below_drew1) | exact HB.out)) hb); clear HB; have HB := n0_; clear n0_; (try clear hb); (try clear hb2); (try clear hk); (try clear hi)) | ((with_reducible refine gate_callee (f := 9) rfl ?_); refine goesL_ (some 12) rfl rfl Try.func9 (by kernel_rfl) rfl #[.int .i64 (wrap64 (-t102))] rfl (by (try simp only [List.map_toArray, List.map_cons, List.map_nil]); first | done | rfl | (simp only [List.length_drop, List.length_take]; rfl)) ?_; (with_reducible refine (ih k (by omega) (wrap64 (-t102)) t103 _ A4.out).mono ?_); rintro e w6 ⟨rfl, hb⟩; refine ⟨_, rfl, ?_⟩; have n0_ := Aside0.mk (below_step (by repeat (first | (with_reducible first | exact HB.out | apply below_alloc | apply pw_below_drewN | apply below_drew1) | exact HB.out)) hb); clear HB; have HB := n0_; clear n0_; (try clear hb); (try clear hb2); (try clear hk); (try clear hi)))
    go_ret
    exact ⟨by first | rfl | (simp [errW_none, errW_some] <;> rfl) | (simp [*, errW_none, errW_some] <;> rfl), by repeat (first | (with_reducible first | exact HB.out | apply below_alloc | apply pw_below_drewN | apply below_drew1) | exact HB.out)⟩
  · rw [if_neg c3] at H
    have c3b0 : decide (t102 < 0) = false := decide_eq_false c3
    clear c3
    obtain ⟨ji7, hji7⟩ : ∃ j_ : Int, (wrap64 (Int.tdiv t102 256)) = j_ := ⟨_, rfl⟩
    replace H : (if 0 ≤ (ji7) then (if (wrap64 (65536 + (wrap64 ((shr .i64 65536 (ji7)) - (wrap64 (Int.tdiv (wrap64 (((shr .i64 65536 (ji7)) / 2) * (Int.tmod t102 256))) 256)))))) = 0 then (none) else (some (wrap64 ((268435456 : Int) / (wrap64 (65536 + (wrap64 ((shr .i64 65536 (ji7)) - (wrap64 (Int.tdiv (wrap64 (((shr .i64 65536 (ji7)) / 2) * (Int.tmod t102 256))) 256)))))))))) else (none)) = some r := by first | (rw [hji7] at H; exact H) | (simp only [hji7] at H ⊢; exact H)
    (try rw [hji7] at A2)
    have hji7w : (IntKind.i64.wrap (Int.tdiv t102 256)) = ji7 := (i64_w _).trans hji7
    by_cases c8 : 0 ≤ (ji7)
    · rw [if_pos c8] at H
      have c8b0 := eq_true c8
      have c8b1 : decide (0 ≤ (ji7)) = true := decide_eq_true c8
      clear c8
      obtain ⟨ji9, hji9⟩ : ∃ j_ : Int, (shr .i64 65536 (ji7)) = j_ := ⟨_, rfl⟩
      replace H : (if (wrap64 (65536 + (wrap64 ((ji9) - (wrap64 (Int.tdiv (wrap64 (((ji9) / 2) * (Int.tmod t102 256))) 256)))))) = 0 then (none) else (some (wrap64 ((268435456 : Int) / (wrap64 (65536 + (wrap64 ((ji9) - (wrap64 (Int.tdiv (wrap64 (((ji9) / 2) * (Int.tmod t102 256))) 256)))))))))) = some r := by first | (rw [hji9] at H; exact H) | (simp only [hji9] at H ⊢; exact H)
      (try rw [hji9] at A2)
      have hji9_ : (65536 / 2 ^ min (ji7).toNat 64) = ji9 := hji9
      have hji9z : (ji7) ≤ 64 → (65536 / 2 ^ (ji7).toNat) = ji9 := shr_small hji9
      by_cases c10 : (wrap64 (65536 + (wrap64 ((ji9) - (wrap64 (Int.tdiv (wrap64 (((ji9) / 2) * (Int.tmod t102 256))) 256)))))) = 0
      · rw [if_pos c10] at H
        exact absurd H (by simp)
      · rw [if_neg c10] at H
        have c10b0 : ((wrap64 (65536 + (wrap64 ((ji9) - (wrap64 (Int.tdiv (wrap64 (((ji9) / 2) * (Int.tmod t102 256))) 256)))))) == 0) = false := beq_eq_false_iff_ne.mpr c10
        have c10b1 : ((wrap64 (65536 + (wrap64 ((ji9) - (wrap64 (Int.tdiv (wrap64 (((ji9) / 2) * (Int.tmod t102 256))) 256)))))) != 0) = true := bne_iff_ne.mpr c10
        obtain rfl := Option.some.inj H
        obtain ⟨hji9n, hji9m⟩ : 0 ≤ ji9 ∧ ji9 ≤ 65536 := by rw [← hji9]; unfold shr; exact ⟨Int.ediv_nonneg (by decide) (Int.le_of_lt (Int.pow_pos (by decide))), Int.ediv_le_self _ (by decide)⟩
        rw [← Int.tdiv_eq_ediv_of_nonneg (a := 268435456) (by decide)]
        go_enter Try.func9, Try.ntmps9
        go_wp2_with (first | ((with_reducible refine gate_callee (f := 13) rfl ?_); refine goesL_ (some 7) rfl rfl Try.func13 (by kernel_rfl) rfl #[.int .i64 a0, .int .i64 2047] rfl (by (try simp only [List.map_toArray, List.map_cons, List.map_nil]); first | done | rfl | (simp only [List.length_drop, List.length_take]; rfl)) ?_; (with_reducible refine (wringerref15_cut.calls a0 2047 t102 _ A2.out).mono ?_); rintro e w11 ⟨rfl, hb⟩; refine ⟨_, rfl, ?_⟩; have n0_ := Aside0.mk (below_step (by repeat (first | (with_reducible first | exact HB.out | apply below_alloc | apply pw_below_drewN | apply below_drew1) | exact HB.out)) hb); clear HB; have HB := n0_; clear n0_; (try clear hb); (try clear hb2); (try clear hk); (try clear hi)))
        go_ret
        exact ⟨by first | rfl | (simp [errW_none, errW_some] <;> rfl) | (simp only [← hji7, ← hji9]; first | rfl | (simp [errW_none, errW_some] <;> rfl)) | (simp [*, errW_none, errW_some] <;> rfl), by repeat (first | (with_reducible first | exact HB.out | apply below_alloc | apply pw_below_drewN | apply below_drew1) | exact HB.out)⟩
    · rw [if_neg c8] at H
      exact absurd H (by simp)

/-! ### squash_Stretch: function 10 -/
def squash_Stretch.l0 : Nat → Int → Int → Int → Option (Int)
  | 0, _, _, _ => none
  | k + 1, x0, x3, x4 => if x3 < x4 then ((squash_Squash.f k (wrap64 ((wrap64 (Int.tdiv (wrap64 (x3 + x4)) 2)) - 2047))).bind fun t104 => (if t104 < x0 then (squash_Stretch.l0 k x0 (wrap64 ((wrap64 (Int.tdiv (wrap64 (x3 + x4)) 2)) + 1)) x4) else (squash_Stretch.l0 k x0 x3 (wrap64 (Int.tdiv (wrap64 (x3 + x4)) 2))))) else (some (mn (wrap64 (x3 - 2047)) 2047))
def squash_Stretch.f (k : Nat) (a0 : Int) : Option (Int) := squash_Stretch.l0 k (mx 1 (mn a0 4095)) 0 4095
theorem squash_Stretch.mono_l : ∀ k, (∀ y0 y1 y2, LeO (squash_Stretch.l0 k y0 y1 y2) (squash_Stretch.l0 (k + 1) y0 y1 y2))
  | 0 => fun _ _ _ r h => by simp [squash_Stretch.l0] at h
  | k + 1 => by
    have ih0 := squash_Stretch.mono_l k
    · intro y0 y1 y2
      unfold squash_Stretch.l0
      repeat' first
      | (with_reducible exact ih0 _ _ _)
      | (with_reducible exact squash_Squash.mono _ _)
      | (with_reducible exact LeO.refl _)
      | (with_reducible exact LeO.none _)
      | (with_reducible refine LeO.ite ?_ ?_)
      | (with_reducible refine LeO.bind ?_ (fun _ => ?_))
      | exact ih0 _ _ _
      | exact squash_Squash.mono _ _
      | exact LeO.none _
      | refine LeO.ite ?_ ?_
      | refine LeO.bind ?_ (fun _ => ?_)
theorem squash_Stretch.mono : ∀ a0 k, LeO (squash_Stretch.f k a0) (squash_Stretch.f (k + 1) a0) := by
  intro a0 k
  have ih0 := squash_Stretch.mono_l k
  unfold squash_Stretch.f
  repeat' first
      | (with_reducible exact ih0 _ _ _)
      | (with_reducible exact squash_Squash.mono _ _)
      | (with_reducible exact LeO.refl _)
      | (with_reducible exact LeO.none _)
      | (with_reducible refine LeO.ite ?_ ?_)
      | (with_reducible refine LeO.bind ?_ (fun _ => ?_))
      | exact ih0 _ _ _
      | exact squash_Squash.mono _ _
      | exact LeO.none _
      | refine LeO.ite ?_ ?_
      | refine LeO.bind ?_ (fun _ => ?_)
set_option maxHeartbeats 8000000 in
set_option maxRecDepth 100000 in
theorem squash_Stretch.calls (k : Nat) (a0 : Int) (r : Int) (w : World) (h : squash_Stretch.f k a0 = some r) :
    Calls Try.prog 10 #[.int .i64 a0] w fun e w' => e = .returned (.int .i64 r) ∧ Below w.heap.size w w' := by
  have HB := Aside0.mk (Below.refl w.heap.size w)
  have H : (squash_Stretch.l0 k (mx 1 (mn a0 4095)) 0 4095) = some r := h
  clear h
  obtain ⟨ji2, hji2⟩ : ∃ j_ : Int, (mn a0 4095) = j_ := ⟨_, rfl⟩
  replace H : (squash_Stretch.l0 k (mx 1 (ji2)) 0 4095) = some r := by first | (rw [hji2] at H; exact H) | (simp only [hji2] at H ⊢; exact H)
  (try (have hji2h : ji2 ≤ 4095 := by (rw [← hji2]; unfold mn; (repeat' split) <;> omega)))
  (try (have hji2g : ji2 ≤ 64 := by omega))
  have hji2_ : (if 4095 < a0 then 4095 else a0) = ji2 := hji2
  obtain ⟨ji3, hji3⟩ : ∃ j_ : Int, (mx 1 (ji2)) = j_ := ⟨_, rfl⟩
  replace H : (squash_Stretch.l0 k ji3 0 4095) = some r := by first | (rw [hji3] at H; exact H) | (simp only [hji3] at H ⊢; exact H)
  have hji3_ : (if 1 < (ji2) then (ji2) else 1) = ji3 := hji3
  have H' := Aside0.mk H
  clear H
  go_enter Try.func10, Try.ntmps10
  go_wp2
  go_loopg [3, 4] k (fun kq v3 v4 w' => ∃ (x3_1 : Int) (x4_1 : Int), v3 = .int .i64 x3_1 ∧ v4 = .int .i64 x4_1 ∧ Aside0 (squash_Stretch.l0 kq ji3 x3_1 x4_1 = some r) ∧ Aside0 (kq ≤ k) ∧ Aside0 (Below w.heap.size w w'))
  case atStart => exact ⟨(0), (4095), (by first | rfl | (simp; done) | (simp [*]; done)), (by first | rfl | (simp; done) | (simp [*]; done)), H', ⟨Nat.le_refl _⟩, ⟨by repeat (first | (with_reducible first | exact HB.out | apply below_alloc | apply pw_below_drewN | apply below_drew1) | exact HB.out)⟩⟩
  case round =>
    clear H'
    try clear c1
    try clear p2
    obtain ⟨x3_1, x4_1, rfl, rfl, HA, HK1, HB⟩ := hrel
    cases gk with
    | zero => exact absurd HA.out (by simp [squash_Stretch.l0])
    | succ k1 =>
      have H := HA.out
      clear HA
      simp only [squash_Stretch.l0] at H
      by_cases c4 : x3_1 < x4_1
      · rw [if_pos c4] at H
        have c4b0 : decide (x3_1 < x4_1) = true := decide_eq_true c4
        clear c4
        replace H := Option.bind_eq_some_iff.mp H
        obtain ⟨t104, A50, H⟩ := H
        replace H : (if t104 < ji3 then (squash_Stretch.l0 k1 ji3 (wrap64 ((wrap64 (Int.tdiv (wrap64 (x3_1 + x4_1)) 2)) + 1)) x4_1) else (squash_Stretch.l0 k1 ji3 x3_1 (wrap64 (Int.tdiv (wrap64 (x3_1 + x4_1)) 2)))) = some r := H
        have A5 := Aside0.mk A50
        clear A50
        by_cases c6 : t104 < ji3
        · rw [if_pos c6] at H
          have c6b0 : decide (t104 < ji3) = true := decide_eq_true c6
          clear c6
          have H' := Aside0.mk H
          clear H
          go_wp2_with (first | ((with_reducible refine gate_callee (f := 8) rfl ?_); refine goesL_ (some 18) rfl rfl Try.func8 (by kernel_rfl) rfl #[.int .i64 (wrap64 ((wrap64 (Int.tdiv (wrap64 (x3_1 + x4_1)) 2)) - 2047))] rfl (by (try simp only [List.map_toArray, List.map_cons, List.map_nil]); first | done | rfl | (simp only [List.length_drop, List.length_take]; rfl)) ?_; (with_reducible refine (squash_Squash.calls k1 (wrap64 ((wrap64 (Int.tdiv (wrap64 (x3_1 + x4_1)) 2)) - 2047)) t104 _ A5.out).mono ?_); rintro e w7 ⟨rfl, hb⟩; refine ⟨_, rfl, ?_⟩; have n0_ := Aside0.mk (below_step (by repeat (first | (with_reducible first | exact HB.out | apply below_alloc | apply pw_below_drewN | apply below_drew1) | exact HB.out)) hb); clear HB; have HB := n0_; clear n0_; (try clear hb); (try clear hb2); (try clear hk); (try clear hi)))
          go_roundg k1
          case measure => have := HK1.out; omega
          case rel => exact ⟨(wrap64 ((wrap64 (Int.tdiv (wrap64 (x3_1 + x4_1)) 2)) + 1)), (x4_1), (by first | rfl | (simp; done) | (simp [*]; done)), (by first | rfl | (simp; done) | (simp [*]; done)), H', ⟨by have := HK1.out; omega⟩, ⟨by repeat (first | (with_reducible first | exact HB.out | apply below_alloc | apply pw_below_drewN | apply below_drew1) | exact HB.out)⟩⟩
        · rw [if_neg c6] at H
          have c6b0 : decide (t104 < ji3) = false := decide_eq_false c6
          clear c6
          have H' := Aside0.mk H
          clear H
          go_wp2_with (first | ((with_reducible refine gate_callee (f := 8) rfl ?_); refine goesL_ (some 18) rfl rfl Try.func8 (by kernel_rfl) rfl #[.int .i64 (wrap64 ((wrap64 (Int.tdiv (wrap64 (x3_1 + x4_1)) 2)) - 2047))] rfl (by (try simp only [List.map_toArray, List.map_cons, List.map_nil]); first | done | rfl | (simp only [List.length_drop, List.length_take]; rfl)) ?_; (with_reducible refine (squash_Squash.calls k1 (wrap64 ((wrap64 (Int.tdiv (wrap64 (x3_1 + x4_1)) 2)) - 2047)) t104 _ A5.out).mono ?_); rintro e w8 ⟨rfl, hb⟩; refine ⟨_, rfl, ?_⟩; have n0_ := Aside0.mk (below_step (by repeat (first | (with_reducible first | exact HB.out | apply below_alloc | apply pw_below_drewN | apply below_drew1) | exact HB.out)) hb); clear HB; have HB := n0_; clear n0_; (try clear hb); (try clear hb2); (try clear hk); (try clear hi)))
          go_roundg k1
          case measure => have := HK1.out; omega
          case rel => exact ⟨(x3_1), (wrap64 (Int.tdiv (wrap64 (x3_1 + x4_1)) 2)), (by first | rfl | (simp; done) | (simp [*]; done)), (by first | rfl | (simp; done) | (simp [*]; done)), H', ⟨by have := HK1.out; omega⟩, ⟨by repeat (first | (with_reducible first | exact HB.out | apply below_alloc | apply pw_below_drewN | apply below_drew1) | exact HB.out)⟩⟩
      · rw [if_neg c4] at H
        have c4b0 : decide (x3_1 < x4_1) = false := decide_eq_false c4
        clear c4
        obtain ⟨ji9, hji9⟩ : ∃ j_ : Int, (mn (wrap64 (x3_1 - 2047)) 2047) = j_ := ⟨_, rfl⟩
        replace H : (some ji9) = some r := by first | (rw [hji9] at H; exact H) | (simp only [hji9] at H ⊢; exact H)
        have hji9_ : (if 2047 < (wrap64 (x3_1 - 2047)) then 2047 else (wrap64 (x3_1 - 2047))) = ji9 := hji9
        obtain rfl := Option.some.inj H
        go_wp2
        go_ret
        exact ⟨by first | rfl | (simp [errW_none, errW_some] <;> rfl) | (simp only [← hji2, ← hji3, ← hji9]; first | rfl | (simp [errW_none, errW_some] <;> rfl)) | (simp [*, errW_none, errW_some] <;> rfl), by repeat (first | (with_reducible first | exact HB.out | apply below_alloc | apply pw_below_drewN | apply below_drew1) | exact HB.out)⟩

/-! ### wringerref15_Stretch: function 11 -/
def wringerref15_Stretch.l0 : Nat → Int → Int → Int → Option (Int)
  | 0, _, _, _ => none
  | k + 1, x0, x3, x4 => if x3 < x4 then ((wringerref15_Squash.f k (wrap64 ((wrap64 (Int.tdiv (wrap64 ((wrap64 (x3 + x4)) + 4094)) 2)) - 2047))).bind fun t105 => (if t105 ≥ x0 then (wringerref15_Stretch.l0 k x0 x3 (wrap64 ((wrap64 (Int.tdiv (wrap64 ((wrap64 (x3 + x4)) + 4094)) 2)) - 2047))) else (wringerref15_Stretch.l0 k x0 (wrap64 ((wrap64 ((wrap64 (Int.tdiv (wrap64 ((wrap64 (x3 + x4)) + 4094)) 2)) - 2047)) + 1)) x4))) else (some x3)
def wringerref15_Stretch.f (k : Nat) (a0 : Int) : Option (Int) := wringerref15_Stretch.l0 k (mx 1 (mn a0 4095)) (-2047) 2047
theorem wringerref15_Stretch.mono_l : ∀ k, (∀ y0 y1 y2, LeO (wringerref15_Stretch.l0 k y0 y1 y2) (wringerref15_Stretch.l0 (k + 1) y0 y1 y2))
  | 0 => fun _ _ _ r h => by simp [wringerref15_Stretch.l0] at h
  | k + 1 => by
    have ih0 := wringerref15_Stretch.mono_l k
    · intro y0 y1 y2
      unfold wringerref15_Stretch.l0
      repeat' first
      | (with_reducible exact ih0 _ _ _)
      | (with_reducible exact wringerref15_Squash.mono _ _)
      | (with_reducible exact LeO.refl _)
      | (with_reducible exact LeO.none _)
      | (with_reducible refine LeO.ite ?_ ?_)
      | (with_reducible refine LeO.bind ?_ (fun _ => ?_))
      | exact ih0 _ _ _
      | exact wringerref15_Squash.mono _ _
      | exact LeO.none _
      | refine LeO.ite ?_ ?_
      | refine LeO.bind ?_ (fun _ => ?_)
theorem wringerref15_Stretch.mono : ∀ a0 k, LeO (wringerref15_Stretch.f k a0) (wringerref15_Stretch.f (k + 1) a0) := by
  intro a0 k
  have ih0 := wringerref15_Stretch.mono_l k
  unfold wringerref15_Stretch.f
  repeat' first
      | (with_reducible exact ih0 _ _ _)
      | (with_reducible exact wringerref15_Squash.mono _ _)
      | (with_reducible exact LeO.refl _)
      | (with_reducible exact LeO.none _)
      | (with_reducible refine LeO.ite ?_ ?_)
      | (with_reducible refine LeO.bind ?_ (fun _ => ?_))
      | exact ih0 _ _ _
      | exact wringerref15_Squash.mono _ _
      | exact LeO.none _
      | refine LeO.ite ?_ ?_
      | refine LeO.bind ?_ (fun _ => ?_)
set_option maxHeartbeats 8000000 in
set_option maxRecDepth 100000 in
theorem wringerref15_Stretch.calls (k : Nat) (a0 : Int) (r : Int) (w : World) (h : wringerref15_Stretch.f k a0 = some r) :
    Calls Try.prog 11 #[.int .i64 a0] w fun e w' => e = .returned (.int .i64 r) ∧ Below w.heap.size w w' := by
  have HB := Aside0.mk (Below.refl w.heap.size w)
  have H : (wringerref15_Stretch.l0 k (mx 1 (mn a0 4095)) (-2047) 2047) = some r := h
  clear h
  obtain ⟨ji2, hji2⟩ : ∃ j_ : Int, (mn a0 4095) = j_ := ⟨_, rfl⟩
  replace H : (wringerref15_Stretch.l0 k (mx 1 (ji2)) (-2047) 2047) = some r := by first | (rw [hji2] at H; exact H) | (simp only [hji2] at H ⊢; exact H)
  (try (have hji2h : ji2 ≤ 4095 := by (rw [← hji2]; unfold mn; (repeat' split) <;> omega)))
  (try (have hji2g : ji2 ≤ 64 := by omega))
  have hji2_ : (if 4095 < a0 then 4095 else a0) = ji2 := hji2
  obtain ⟨ji3, hji3⟩ : ∃ j_ : Int, (mx 1 (ji2)) = j_ := ⟨_, rfl⟩
  replace H : (wringerref15_Stretch.l0 k ji3 (-2047) 2047) = some r := by first | (rw [hji3] at H; exact H) | (simp only [hji3] at H ⊢; exact H)
  have hji3_ : (if 1 < (ji2) then (ji2) else 1) = ji3 := hji3
  have H' := Aside0.mk H
  clear H
  go_enter Try.func11, Try.ntmps11
  go_wp2
  go_loopg [3, 4] k (fun kq v3 v4 w' => ∃ (x3_1 : Int) (x4_1 : Int), v3 = .int .i64 x3_1 ∧ v4 = .int .i64 x4_1 ∧ Aside0 (wringerref15_Stretch.l0 kq ji3 x3_1 x4_1 = some r) ∧ Aside0 (kq ≤ k) ∧ Aside0 (Below w.heap.size w w'))
  case atStart => exact ⟨((-2047)), (2047), (by first | rfl | (simp; done) | (simp [*]; done)), (by first | rfl | (simp; done) | (simp [*]; done)), H', ⟨Nat.le_refl _⟩, ⟨by repeat (first | (with_reducible first | exact HB.out | apply below_alloc | apply pw_below_drewN | apply below_drew1) | exact HB.out)⟩⟩
  case round =>
    clear H'
    try clear c1
    try clear p2
    obtain ⟨x3_1, x4_1, rfl, rfl, HA, HK1, HB⟩ := hrel
    cases gk with
    | zero => exact absurd HA.out (by simp [wringerref15_Stretch.l0])
    | succ k1 =>
      have H := HA.out
      clear HA
      simp only [wringerref15_Stretch.l0] at H
      by_cases c4 : x3_1 < x4_1
      · rw [if_pos c4] at H
        have c4b0 : decide (x3_1 < x4_1) = true := decide_eq_true c4
        clear c4
        replace H := Option.bind_eq_some_iff.mp H
        obtain ⟨t105, A50, H⟩ := H
        replace H : (if t105 ≥ ji3 then (wringerref15_Stretch.l0 k1 ji3 x3_1 (wrap64 ((wrap64 (Int.tdiv (wrap64 ((wrap64 (x3_1 + x4_1)) + 4094)) 2)) - 2047))) else (wringerref15_Stretch.l0 k1 ji3 (wrap64 ((wrap64 ((wrap64 (Int.tdiv (wrap64 ((wrap64 (x3_1 + x4_1)) + 4094)) 2)) - 2047)) + 1)) x4_1)) = some r := H
        have A5 := Aside0.mk A50
        clear A50
        by_cases c6 : t105 ≥ ji3
        · rw [if_pos c6] at H
          have c6b0 : decide (ji3 ≤ t105) = true := decide_eq_true c6
          clear c6
          have H' := Aside0.mk H
          clear H
          go_wp2_with (first | ((with_reducible refine gate_callee (f := 9) rfl ?_); refine goesL_ (some 20) rfl rfl Try.func9 (by kernel_rfl) rfl #[.int .i64 (wrap64 ((wrap64 (Int.tdiv (wrap64 ((wrap64 (x3_1 + x4_1)) + 4094)) 2)) - 2047))] rfl (by (try simp only [List.map_toArray, List.map_cons, List.map_nil]); first | done | rfl | (simp only [List.length_drop, List.length_take]; rfl)) ?_; (with_reducible refine (wringerref15_Squash.calls k1 (wrap64 ((wrap64 (Int.tdiv (wrap64 ((wrap64 (x3_1 + x4_1)) + 4094)) 2)) - 2047)) t105 _ A5.out).mono ?_); rintro e w7 ⟨rfl, hb⟩; refine ⟨_, rfl, ?_⟩; have n0_ := Aside0.mk (below_step (by repeat (first | (with_reducible first | exact HB.out | apply below_alloc | apply pw_below_drewN | apply below_drew1) | exact HB.out)) hb); clear HB; have HB := n0_; clear n0_; (try clear hb); (try clear hb2); (try clear hk); (try clear hi)))
          go_roundg k1
          case measure => have := HK1.out; omega
          case rel => exact ⟨(x3_1), (wrap64 ((wrap64 (Int.tdiv (wrap64 ((wrap64 (x3_1 + x4_1)) + 4094)) 2)) - 2047)), (by first | rfl | (simp; done) | (simp [*]; done)), (by first | rfl | (simp; done) | (simp [*]; done)), H', ⟨by have := HK1.out; omega⟩, ⟨by repeat (first | (with_reducible first | exact HB.out | apply below_alloc | apply pw_below_drewN | apply below_drew1) | exact HB.out)⟩⟩
        · rw [if_neg c6] at H
          have c6b0 : decide (ji3 ≤ t105) = false := decide_eq_false c6
          clear c6
          have H' := Aside0.mk H
          clear H
          go_wp2_with (first | ((with_reducible refine gate_callee (f := 9) rfl ?_); refine goesL_ (some 20) rfl rfl Try.func9 (by kernel_rfl) rfl #[.int .i64 (wrap64 ((wrap64 (Int.tdiv (wrap64 ((wrap64 (x3_1 + x4_1)) + 4094)) 2)) - 2047))] rfl (by (try simp only [List.map_toArray, List.map_cons, List.map_nil]); first | done | rfl | (simp only [List.length_drop, List.length_take]; rfl)) ?_; (with_reducible refine (wringerref15_Squash.calls k1 (wrap64 ((wrap64 (Int.tdiv (wrap64 ((wrap64 (x3_1 + x4_1)) + 4094)) 2)) - 2047)) t105 _ A5.out).mono ?_); rintro e w8 ⟨rfl, hb⟩; refine ⟨_, rfl, ?_⟩; have n0_ := Aside0.mk (below_step (by repeat (first | (with_reducible first | exact HB.out | apply below_alloc | apply pw_below_drewN | apply below_drew1) | exact HB.out)) hb); clear HB; have HB := n0_; clear n0_; (try clear hb); (try clear hb2); (try clear hk); (try clear hi)))
          go_roundg k1
          case measure => have := HK1.out; omega
          case rel => exact ⟨(wrap64 ((wrap64 ((wrap64 (Int.tdiv (wrap64 ((wrap64 (x3_1 + x4_1)) + 4094)) 2)) - 2047)) + 1)), (x4_1), (by first | rfl | (simp; done) | (simp [*]; done)), (by first | rfl | (simp; done) | (simp [*]; done)), H', ⟨by have := HK1.out; omega⟩, ⟨by repeat (first | (with_reducible first | exact HB.out | apply below_alloc | apply pw_below_drewN | apply below_drew1) | exact HB.out)⟩⟩
      · rw [if_neg c4] at H
        have c4b0 : decide (x3_1 < x4_1) = false := decide_eq_false c4
        clear c4
        obtain rfl := Option.some.inj H
        go_wp2
        go_ret
        exact ⟨by first | rfl | (simp [errW_none, errW_some] <;> rfl) | (simp only [← hji2, ← hji3]; first | rfl | (simp [errW_none, errW_some] <;> rfl)) | (simp [*, errW_none, errW_some] <;> rfl), by repeat (first | (with_reducible first | exact HB.out | apply below_alloc | apply pw_below_drewN | apply below_drew1) | exact HB.out)⟩

/-! ### wringerlaw17_awake: function 12 -/
def wringerlaw17_awake.f (k : Nat)  : Option (Bool) := (squash_Squash.f k 0).bind fun t106 => (if t106 = 2048 then ((squash_Stretch.f k 2048).bind fun t107 => (some (t107 == 0))) else (some false))
theorem wringerlaw17_awake.mono : ∀ k, LeO (wringerlaw17_awake.f k ) (wringerlaw17_awake.f (k + 1) ) := by
  intro  k
  unfold wringerlaw17_awake.f
  repeat' first
      | (with_reducible exact squash_Squash.mono _ _)
      | (with_reducible exact squash_Stretch.mono _ _)
      | (with_reducible exact LeO.refl _)
      | (with_reducible exact LeO.none _)
      | (with_reducible refine LeO.ite ?_ ?_)
      | (with_reducible refine LeO.bind ?_ (fun _ => ?_))
      | exact squash_Squash.mono _ _
      | exact squash_Stretch.mono _ _
      | exact LeO.none _
      | refine LeO.ite ?_ ?_
      | refine LeO.bind ?_ (fun _ => ?_)
set_option maxHeartbeats 8000000 in
set_option maxRecDepth 100000 in
theorem wringerlaw17_awake.calls (k : Nat)  (r : Bool) (w : World) (h : wringerlaw17_awake.f k  = some r) :
    Calls Try.prog 12 #[] w fun e w' => e = .returned (.bool r) ∧ Below w.heap.size w w' := by
  have HB := Aside0.mk (Below.refl w.heap.size w)
  have H : ((squash_Squash.f k 0).bind fun t106 => (if t106 = 2048 then ((squash_Stretch.f k 2048).bind fun t107 => (some (t107 == 0))) else (some false))) = some r := h
  clear h
  replace H := Option.bind_eq_some_iff.mp H
  obtain ⟨t106, A10, H⟩ := H
  replace H : (if t106 = 2048 then ((squash_Stretch.f k 2048).bind fun t107 => (some (t107 == 0))) else (some false)) = some r := H
  have A1 := Aside0.mk A10
  clear A10
  by_cases c2 : t106 = 2048
  · rw [if_pos c2] at H
    have c2b0 : (t106 == 2048) = true := beq_iff_eq.mpr c2
    have c2b1 : (t106 != 2048) = false := bne_eq_false_iff_eq.mpr c2
    clear c2
    replace H := Option.bind_eq_some_iff.mp H
    obtain ⟨t107, A30, H⟩ := H
    replace H : (some (t107 == 0)) = some r := H
    have A3 := Aside0.mk A30
    clear A30
    obtain rfl := Option.some.inj H
    go_enter Try.func12, Try.ntmps12
    go_wp2_with (first | ((with_reducible refine gate_callee (f := 8) rfl ?_); refine goesL_ (some 1) rfl rfl Try.func8 (by kernel_rfl) rfl #[.int .i64 0] rfl (by (try simp only [List.map_toArray, List.map_cons, List.map_nil]); first | done | rfl | (simp only [List.length_drop, List.length_take]; rfl)) ?_; (with_reducible refine (squash_Squash.calls k 0 t106 _ A1.out).mono ?_); rintro e w4 ⟨rfl, hb⟩; refine ⟨_, rfl, ?_⟩; have n0_ := Aside0.mk (below_step (by repeat (first | (with_reducible first | exact HB.out | apply below_alloc | apply pw_below_drewN | apply below_drew1) | exact HB.out)) hb); clear HB; have HB := n0_; clear n0_; (try clear hb); (try clear hb2); (try clear hk); (try clear hi)) | (go_at_call 10; (with_reducible refine (squash_Stretch.calls k 2048 t107 _ A3.out).mono ?_); rintro e w5 ⟨rfl, hb⟩; have n0_ := Aside0.mk (below_step (by repeat (first | (with_reducible first | exact HB.out | apply below_alloc | apply pw_below_drewN | apply below_drew1) | exact HB.out)) hb); clear HB; have HB := n0_; clear n0_; (try clear hb); (try clear hb2); (try clear hk); (try clear hi)))
    go_ret
    exact ⟨by first | rfl | (simp [errW_none, errW_some] <;> rfl) | (simp [*, errW_none, errW_some] <;> rfl), by repeat (first | (with_reducible first | exact HB.out | apply below_alloc | apply pw_below_drewN | apply below_drew1) | exact HB.out)⟩
  · rw [if_neg c2] at H
    have c2b0 : (t106 == 2048) = false := beq_eq_false_iff_ne.mpr c2
    have c2b1 : (t106 != 2048) = true := bne_iff_ne.mpr c2
    obtain rfl := Option.some.inj H
    go_enter Try.func12, Try.ntmps12
    go_wp2_with (first | ((with_reducible refine gate_callee (f := 8) rfl ?_); refine goesL_ (some 1) rfl rfl Try.func8 (by kernel_rfl) rfl #[.int .i64 0] rfl (by (try simp only [List.map_toArray, List.map_cons, List.map_nil]); first | done | rfl | (simp only [List.length_drop, List.length_take]; rfl)) ?_; (with_reducible refine (squash_Squash.calls k 0 t106 _ A1.out).mono ?_); rintro e w6 ⟨rfl, hb⟩; refine ⟨_, rfl, ?_⟩; have n0_ := Aside0.mk (below_step (by repeat (first | (with_reducible first | exact HB.out | apply below_alloc | apply pw_below_drewN | apply below_drew1) | exact HB.out)) hb); clear HB; have HB := n0_; clear n0_; (try clear hb); (try clear hb2); (try clear hk); (try clear hi)))
    go_ret
    exact ⟨by first | rfl | (simp [errW_none, errW_some] <;> rfl) | (simp [*, errW_none, errW_some] <;> rfl), by repeat (first | (with_reducible first | exact HB.out | apply below_alloc | apply pw_below_drewN | apply below_drew1) | exact HB.out)⟩

/-! ### wringerlaw17_SquashAll: function 3 -/
def wringerlaw17_SquashAll.f (k : Nat) (a0 : Int) (a1 : Int) : Option (Bool) := (squash_Squash.f k a0).bind fun t108 => ((wringerref15_Squash.f k a0).bind fun t109 => (if t108 = t109 then ((squash_Stretch.f k a1).bind fun t110 => ((wringerref15_Stretch.f k a1).bind fun t111 => (if t110 = t111 then ((wringerlaw17_awake.f k).bind fun t112 => (some t112)) else (some false)))) else (some false)))
theorem wringerlaw17_SquashAll.mono : ∀ a0 a1 k, LeO (wringerlaw17_SquashAll.f k a0 a1) (wringerlaw17_SquashAll.f (k + 1) a0 a1) := by
  intro a0 a1 k
  unfold wringerlaw17_SquashAll.f
  repeat' first
      | (with_reducible exact squash_Squash.mono _ _)
      | (with_reducible exact squash_Stretch.mono _ _)
      | (with_reducible exact wringerlaw17_awake.mono _)
      | (with_reducible exact wringerref15_Squash.mono _ _)
      | (with_reducible exact wringerref15_Stretch.mono _ _)
      | (with_reducible exact LeO.refl _)
      | (with_reducible exact LeO.none _)
      | (with_reducible refine LeO.ite ?_ ?_)
      | (with_reducible refine LeO.bind ?_ (fun _ => ?_))
      | exact squash_Squash.mono _ _
      | exact squash_Stretch.mono _ _
      | exact wringerlaw17_awake.mono _
      | exact wringerref15_Squash.mono _ _
      | exact wringerref15_Stretch.mono _ _
      | exact LeO.none _
      | refine LeO.ite ?_ ?_
      | refine LeO.bind ?_ (fun _ => ?_)
set_option maxHeartbeats 8000000 in
set_option maxRecDepth 100000 in
theorem wringerlaw17_SquashAll.calls (k : Nat) (a0 : Int) (a1 : Int) (r : Bool) (w : World) (h : wringerlaw17_SquashAll.f k a0 a1 = some r) :
    Calls Try.prog 3 #[.int .i64 a0, .int .i64 a1] w fun e w' => e = .returned (.bool r) ∧ Below w.heap.size w w' := by
  have HB := Aside0.mk (Below.refl w.heap.size w)
  have H : ((squash_Squash.f k a0).bind fun t108 => ((wringerref15_Squash.f k a0).bind fun t109 => (if t108 = t109 then ((squash_Stretch.f k a1).bind fun t110 => ((wringerref15_Stretch.f k a1).bind fun t111 => (if t110 = t111 then ((wringerlaw17_awake.f k).bind fun t112 => (some t112)) else (some false)))) else (some false)))) = some r := h
  clear h
  replace H := Option.bind_eq_some_iff.mp H
  obtain ⟨t108, A30, H⟩ := H
  replace H : ((wringerref15_Squash.f k a0).bind fun t109 => (if t108 = t109 then ((squash_Stretch.f k a1).bind fun t110 => ((wringerref15_Stretch.f k a1).bind fun t111 => (if t110 = t111 then ((wringerlaw17_awake.f k).bind fun t112 => (some t112)) else (some false)))) else (some false))) = some r := H
  have A3 := Aside0.mk A30
  clear A30
  replace H := Option.bind_eq_some_iff.mp H
  obtain ⟨t109, A40, H⟩ := H
  replace H : (if t108 = t109 then ((squash_Stretch.f k a1).bind fun t110 => ((wringerref15_Stretch.f k a1).bind fun t111 => (if t110 = t111 then ((wringerlaw17_awake.f k).bind fun t112 => (some t112)) else (some false)))) else (some false)) = some r := H
  have A4 := Aside0.mk A40
  clear A40
  by_cases c5 : t108 = t109
  · rw [if_pos c5] at H
    have c5b0 : (t108 == t109) = true := beq_iff_eq.mpr c5
    have c5b1 : (t108 != t109) = false := bne_eq_false_iff_eq.mpr c5
    clear c5
    replace H := Option.bind_eq_some_iff.mp H
    obtain ⟨t110, A60, H⟩ := H
    replace H : ((wringerref15_Stretch.f k a1).bind fun t111 => (if t110 = t111 then ((wringerlaw17_awake.f k).bind fun t112 => (some t112)) else (some false))) = some r := H
    have A6 := Aside0.mk A60
    clear A60
    replace H := Option.bind_eq_some_iff.mp H
    obtain ⟨t111, A70, H⟩ := H
    replace H : (if t110 = t111 then ((wringerlaw17_awake.f k).bind fun t112 => (some t112)) else (some false)) = some r := H
    have A7 := Aside0.mk A70
    clear A70
    by_cases c8 : t110 = t111
    · rw [if_pos c8] at H
      have c8b0 : (t110 == t111) = true := beq_iff_eq.mpr c8
      have c8b1 : (t110 != t111) = false := bne_eq_false_iff_eq.mpr c8
      clear c8
      replace H := Option.bind_eq_some_iff.mp H
      obtain ⟨t112, A90, H⟩ := H
      replace H : (some t112) = some r := H
      have A9 := Aside0.mk A90
      clear A90
      obtain rfl := Option.some.inj H
      go_enter Try.func3, Try.ntmps3
      go_wp2_with (first | ((with_reducible refine gate_callee (f := 8) rfl ?_); refine goesL_ (some 6) rfl rfl Try.func8 (by kernel_rfl) rfl #[.int .i64 a0] rfl (by (try simp only [List.map_toArray, List.map_cons, List.map_nil]); first | done | rfl | (simp only [List.length_drop, List.length_take]; rfl)) ?_; (with_reducible refine (squash_Squash.calls k a0 t108 _ A3.out).mono ?_); rintro e w10 ⟨rfl, hb⟩; refine ⟨_, rfl, ?_⟩; have n0_ := Aside0.mk (below_step (by repeat (first | (with_reducible first | exact HB.out | apply below_alloc | apply pw_below_drewN | apply below_drew1) | exact HB.out)) hb); clear HB; have HB := n0_; clear n0_; (try clear hb); (try clear hb2); (try clear hk); (try clear hi)) | ((with_reducible refine gate_callee (f := 9) rfl ?_); refine goesL_ (some 8) rfl rfl Try.func9 (by kernel_rfl) rfl #[.int .i64 a0] rfl (by (try simp only [List.map_toArray, List.map_cons, List.map_nil]); first | done | rfl | (simp only [List.length_drop, List.length_take]; rfl)) ?_; (with_reducible refine (wringerref15_Squash.calls k a0 t109 _ A4.out).mono ?_); rintro e w11 ⟨rfl, hb⟩; refine ⟨_, rfl, ?_⟩; have n0_ := Aside0.mk (below_step (by repeat (first | (with_reducible first | exact HB.out | apply below_alloc | apply pw_below_drewN | apply below_drew1) | exact HB.out)) hb); clear HB; have HB := n0_; clear n0_; (try clear hb); (try clear hb2); (try clear hk); (try clear hi)) | (go_at_call 10; (with_reducible refine (squash_Stretch.calls k a1 t110 _ A6.out).mono ?_); rintro e w12 ⟨rfl, hb⟩; have n0_ := Aside0.mk (below_step (by repeat (first | (with_reducible first | exact HB.out | apply below_alloc | apply pw_below_drewN | apply below_drew1) | exact HB.out)) hb); clear HB; have HB := n0_; clear n0_; (try clear hb); (try clear hb2); (try clear hk); (try clear hi)) | (go_at_call 11; (with_reducible refine (wringerref15_Stretch.calls k a1 t111 _ A7.out).mono ?_); rintro e w13 ⟨rfl, hb⟩; have n0_ := Aside0.mk (below_step (by repeat (first | (with_reducible first | exact HB.out | apply below_alloc | apply pw_below_drewN | apply below_drew1) | exact HB.out)) hb); clear HB; have HB := n0_; clear n0_; (try clear hb); (try clear hb2); (try clear hk); (try clear hi)) | (go_at_call 12; (with_reducible refine (wringerlaw17_awake.calls k  t112 _ A9.out).mono ?_); rintro e w14 ⟨rfl, hb⟩; have n0_ := Aside0.mk (below_step (by repeat (first | (with_reducible first | exact HB.out | apply below_alloc | apply pw_below_drewN | apply below_drew1) | exact HB.out)) hb); clear HB; have HB := n0_; clear n0_; (try clear hb); (try clear hb2); (try clear hk); (try clear hi)))
      go_ret
      exact ⟨by first | rfl | (simp [errW_none, errW_some] <;> rfl) | (simp [*, errW_none, errW_some] <;> rfl), by repeat (first | (with_reducible first | exact HB.out | apply below_alloc | apply pw_below_drewN | apply below_drew1) | exact HB.out)⟩
    · rw [if_neg c8] at H
      have c8b0 : (t110 == t111) = false := beq_eq_false_iff_ne.mpr c8
      have c8b1 : (t110 != t111) = true := bne_iff_ne.mpr c8
      obtain rfl := Option.some.inj H
      go_enter Try.func3, Try.ntmps3
      go_wp2_with (first | ((with_reducible refine gate_callee (f := 8) rfl ?_); refine goesL_ (some 6) rfl rfl Try.func8 (by kernel_rfl) rfl #[.int .i64 a0] rfl (by (try simp only [List.map_toArray, List.map_cons, List.map_nil]); first | done | rfl | (simp only [List.length_drop, List.length_take]; rfl)) ?_; (with_reducible refine (squash_Squash.calls k a0 t108 _ A3.out).mono ?_); rintro e w15 ⟨rfl, hb⟩; refine ⟨_, rfl, ?_⟩; have n0_ := Aside0.mk (below_step (by repeat (first | (with_reducible first | exact HB.out | apply below_alloc | apply pw_below_drewN | apply below_drew1) | exact HB.out)) hb); clear HB; have HB := n0_; clear n0_; (try clear hb); (try clear hb2); (try clear hk); (try clear hi)) | ((with_reducible refine gate_callee (f := 9) rfl ?_); refine goesL_ (some 8) rfl rfl Try.func9 (by kernel_rfl) rfl #[.int .i64 a0] rfl (by (try simp only [List.map_toArray, List.map_cons, List.map_nil]); first | done | rfl | (simp only [List.length_drop, List.length_take]; rfl)) ?_; (with_reducible refine (wringerref15_Squash.calls k a0 t109 _ A4.out).mono ?_); rintro e w16 ⟨rfl, hb⟩; refine ⟨_, rfl, ?_⟩; have n0_ := Aside0.mk (below_step (by repeat (first | (with_reducible first | exact HB.out | apply below_alloc | apply pw_below_drewN | apply below_drew1) | exact HB.out)) hb); clear HB; have HB := n0_; clear n0_; (try clear hb); (try clear hb2); (try clear hk); (try clear hi)) | (go_at_call 10; (with_reducible refine (squash_Stretch.calls k a1 t110 _ A6.out).mono ?_); rintro e w17 ⟨rfl, hb⟩; have n0_ := Aside0.mk (below_step (by repeat (first | (with_reducible first | exact HB.out | apply below_alloc | apply pw_below_drewN | apply below_drew1) | exact HB.out)) hb); clear HB; have HB := n0_; clear n0_; (try clear hb); (try clear hb2); (try clear hk); (try clear hi)) | (go_at_call 11; (with_reducible refine (wringerref15_Stretch.calls k a1 t111 _ A7.out).mono ?_); rintro e w18 ⟨rfl, hb⟩; have n0_ := Aside0.mk (below_step (by repeat (first | (with_reducible first | exact HB.out | apply below_alloc | apply pw_below_drewN | apply below_drew1) | exact HB.out)) hb); clear HB; have HB := n0_; clear n0_; (try clear hb); (try clear hb2); (try clear hk); (try clear hi)))
      go_ret
      exact ⟨by first | rfl | (simp [errW_none, errW_some] <;> rfl) | (simp [*, errW_none, errW_some] <;> rfl), by repeat (first | (with_reducible first | exact HB.out | apply below_alloc | apply pw_below_drewN | apply below_drew1) | exact HB.out)⟩
  · rw [if_neg c5] at H
    have c5b0 : (t108 == t109) = false := beq_eq_false_iff_ne.mpr c5
    have c5b1 : (t108 != t109) = true := bne_iff_ne.mpr c5
    obtain rfl := Option.some.inj H
    go_enter Try.func3, Try.ntmps3
    go_wp2_with (first | ((with_reducible refine gate_callee (f := 8) rfl ?_); refine goesL_ (some 6) rfl rfl Try.func8 (by kernel_rfl) rfl #[.int .i64 a0] rfl (by (try simp only [List.map_toArray, List.map_cons, List.map_nil]); first | done | rfl | (simp only [List.length_drop, List.length_take]; rfl)) ?_; (with_reducible refine (squash_Squash.calls k a0 t108 _ A3.out).mono ?_); rintro e w19 ⟨rfl, hb⟩; refine ⟨_, rfl, ?_⟩; have n0_ := Aside0.mk (below_step (by repeat (first | (with_reducible first | exact HB.out | apply below_alloc | apply pw_below_drewN | apply below_drew1) | exact HB.out)) hb); clear HB; have HB := n0_; clear n0_; (try clear hb); (try clear hb2); (try clear hk); (try clear hi)) | ((with_reducible refine gate_callee (f := 9) rfl ?_); refine goesL_ (some 8) rfl rfl Try.func9 (by kernel_rfl) rfl #[.int .i64 a0] rfl (by (try simp only [List.map_toArray, List.map_cons, List.map_nil]); first | done | rfl | (simp only [List.length_drop, List.length_take]; rfl)) ?_; (with_reducible refine (wringerref15_Squash.calls k a0 t109 _ A4.out).mono ?_); rintro e w20 ⟨rfl, hb⟩; refine ⟨_, rfl, ?_⟩; have n0_ := Aside0.mk (below_step (by repeat (first | (with_reducible first | exact HB.out | apply below_alloc | apply pw_below_drewN | apply below_drew1) | exact HB.out)) hb); clear HB; have HB := n0_; clear n0_; (try clear hb); (try clear hb2); (try clear hk); (try clear hi)))
    go_ret
    exact ⟨by first | rfl | (simp [errW_none, errW_some] <;> rfl) | (simp [*, errW_none, errW_some] <;> rfl), by repeat (first | (with_reducible first | exact HB.out | apply below_alloc | apply pw_below_drewN | apply below_drew1) | exact HB.out)⟩

/-- THE ONE PURE STATEMENT of wringerlaw17_SquashAll: yours. -/
def wringerlaw17_SquashAll.Pure : Prop := ∀ (a0 : Int) (a1 : Int), (Lit.int .i64 a0).wf = true → (Lit.int .i64 a1).wf = true → ∃ k, wringerlaw17_SquashAll.f k a0 a1 = some true
theorem wringerlaw17_SquashAll.walk (P : wringerlaw17_SquashAll.Pure) (a0 : Int) (a1 : Int) (w : World) (w0 : (Lit.int .i64 a0).wf = true) (w1 : (Lit.int .i64 a1).wf = true) :
    Calls Try.prog 3 #[.int .i64 a0, .int .i64 a1] w fun e w' => e = .returned (.bool true) ∧ Below w.heap.size w w' := by
  obtain ⟨k, h⟩ := P a0 a1 w0 w1
  refine (wringerlaw17_SquashAll.calls k a0 a1 true w h).mono ?_
  rintro e w' ⟨rfl, hd⟩
  exact ⟨rfl, hd⟩

end Go.Proofs.Ytpdfdmfhakibaaa.PSquashAll
