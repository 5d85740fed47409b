-- PRINTED BY print.sh 35421559b90ae4d0a3588c463048766b98c2df88dd9212a6774a882060cdf62d: not written by this session
import Derived.Test.YtfkbijkmdnieiaaPExactProductsx0
namespace Go.Proofs.Ytfkbijkmdnieiaa.PExactProducts
open Go.RowKit Go.Proofs.YtfkbijkmdnieiaaW.PrintWords Go.Proofs.YtfkbijkmdnieiaaW.PrintLast Go.Proofs.YtfkbijkmdnieiaaW.PrintMore
attribute [local go_sem] max2_int min2_int max_two min_two max_three min_three max_four min_four   -- for this text's walks alone
set_option linter.unusedVariables false
set_option linter.unusedSimpArgs false

/-! ### exact_Mid: function 18 -/
def exact_Mid.f (a0 : Int) (a1 : Int) : Option (Int) := some (wrap64 ((Go.bits .and .i64 a0 a1) + ((Go.bits .xor .i64 a0 a1) / 2)))
set_option maxHeartbeats 8000000 in
set_option maxRecDepth 100000 in
theorem exact_Mid.calls (a0 : Int) (a1 : Int) (r : Int) (w : World) (h : exact_Mid.f a0 a1 = some r) :
    Calls Try.prog 18 #[.int .i64 a0, .int .i64 a1] w fun e w' => e = .returned (.int .i64 r) ∧ Drawn0 w w' := by
  have H : (some (wrap64 ((Go.bits .and .i64 a0 a1) + ((Go.bits .xor .i64 a0 a1) / 2)))) = some r := h
  clear h
  obtain rfl := Option.some.inj H
  go_enter Try.func18, Try.ntmps18
  go_wp2
  go_ret
  exact ⟨by first | rfl | (simp; done) | (simp [*]; done), by repeat (first | exact Drawn0.refl _ | apply Drawn0.step)⟩

/-! ### exact_Add: function 20 -/
def exact_Add.f (a0 : Int) (a1 : Int) : Option (Int × Bool) := if ((decide ((wrap64 (a0 + a1)) > a0)) == (decide (a1 > 0))) = true then (some (wrap64 (a0 + a1), true)) else (some (0, false))
set_option maxHeartbeats 8000000 in
set_option maxRecDepth 100000 in
theorem exact_Add.calls (a0 : Int) (a1 : Int) (r1 : Int) (r2 : Bool) (w : World) (h : exact_Add.f a0 a1 = some (r1, r2)) :
    Calls Try.prog 20 #[.int .i64 a0, .int .i64 a1] w fun e w' => e = .returned (.tuple #[.int .i64 r1, .bool r2]) ∧ Drawn0 w w' := by
  have H : (if ((decide ((wrap64 (a0 + a1)) > a0)) == (decide (a1 > 0))) = true then (some (wrap64 (a0 + a1), true)) else (some (0, false))) = some (r1, r2) := h
  clear h
  by_cases c3 : ((decide ((wrap64 (a0 + a1)) > a0)) == (decide (a1 > 0))) = true
  · rw [if_pos c3] at H
    have c3b0 : ((decide ((wrap64 (a0 + a1)) > a0)) == (decide (a1 > 0))) = true := c3
    (try (have c3b1 : decide ((decide ((wrap64 (a0 + a1)) > a0)) = (decide (a1 > 0))) = true := by simpa using c3))
    (try (have c3b2 : ((decide ((wrap64 (a0 + a1)) > a0)) == (decide (a1 > 0))) = true := by simpa using c3))
    clear c3
    simp only [Option.some.injEq, Prod.mk.injEq] at H
    obtain ⟨rfl, rfl⟩ := H
    go_enter Try.func20, Try.ntmps20
    go_wp2
    go_ret2
    exact ⟨by first | rfl | (simp; done) | (simp [*]; done), by repeat (first | exact Drawn0.refl _ | apply Drawn0.step)⟩
  · rw [if_neg c3] at H
    have c3b0 : ((decide ((wrap64 (a0 + a1)) > a0)) == (decide (a1 > 0))) = false := by simpa using c3
    (try (have c3b1 : decide ((decide ((wrap64 (a0 + a1)) > a0)) = (decide (a1 > 0))) = false := by simpa using c3))
    (try (have c3b2 : ((decide ((wrap64 (a0 + a1)) > a0)) == (decide (a1 > 0))) = false := by simpa using c3))
    (try (have c3b3 : ¬ ((decide ((wrap64 (a0 + a1)) > a0)) = (decide (a1 > 0))) := by simpa using c3))
    clear c3
    simp only [Option.some.injEq, Prod.mk.injEq] at H
    obtain ⟨rfl, rfl⟩ := H
    go_enter Try.func20, Try.ntmps20
    go_wp2
    go_ret2
    exact ⟨by first | rfl | (simp; done) | (simp [*]; done), by repeat (first | exact Drawn0.refl _ | apply Drawn0.step)⟩

/-! ### whilomlaw01_awake: function 17 -/
def whilomlaw01_awake.f  : Option (Bool) := (exact_Add.f 4611686018427387904 4611686018427387904).bind fun bt101 => ((exact_Add.f 2 3).bind fun bt103 => (if bt101.2 = true then (some false) else (if bt103.2 = true then (if bt103.1 = 5 then ((exact_Mid.f (-3) 0).bind fun t105 => (some (t105 == (-2)))) else (some false)) else (some false))))
set_option maxHeartbeats 8000000 in
set_option maxRecDepth 100000 in
theorem whilomlaw01_awake.calls  (r : Bool) (w : World) (h : whilomlaw01_awake.f  = some r) :
    Calls Try.prog 17 #[] w fun e w' => e = .returned (.bool r) ∧ Drawn0 w w' := by
  have H : ((exact_Add.f 4611686018427387904 4611686018427387904).bind fun bt101 => ((exact_Add.f 2 3).bind fun bt103 => (if bt101.2 = true then (some false) else (if bt103.2 = true then (if bt103.1 = 5 then ((exact_Mid.f (-3) 0).bind fun t105 => (some (t105 == (-2)))) else (some false)) else (some false))))) = some r := h
  clear h
  replace H := Option.bind_eq_some_iff.mp H
  obtain ⟨⟨t101, t102⟩, A10, H⟩ := H
  replace H : ((exact_Add.f 2 3).bind fun bt103 => (if t102 = true then (some false) else (if bt103.2 = true then (if bt103.1 = 5 then ((exact_Mid.f (-3) 0).bind fun t105 => (some (t105 == (-2)))) else (some false)) else (some false)))) = some r := H
  have A1 := Aside0.mk A10
  clear A10
  replace H := Option.bind_eq_some_iff.mp H
  obtain ⟨⟨t103, t104⟩, A20, H⟩ := H
  replace H : (if t102 = true then (some false) else (if t104 = true then (if t103 = 5 then ((exact_Mid.f (-3) 0).bind fun t105 => (some (t105 == (-2)))) else (some false)) else (some false))) = some r := H
  have A2 := Aside0.mk A20
  clear A20
  by_cases c3 : t102 = true
  · subst c3
    have H1 : (some false) = some r := by rw [if_pos rfl] at H; exact H
    clear H
    have H := H1
    clear H1
    obtain rfl := Option.some.inj H
    go_enter Try.func17, Try.ntmps17
    go_wp2_with (first | ((with_reducible refine gate_callee (f := 20) rfl ?_); refine goesL_ (some 6) rfl rfl Try.func20 (by kernel_rfl) rfl #[.int .i64 4611686018427387904, .int .i64 4611686018427387904] rfl (by (try simp only [List.map_toArray, List.map_cons, List.map_nil]); first | done | rfl | (simp only [List.length_drop, List.length_take]; rfl)) ?_; (with_reducible refine (exact_Add.calls 4611686018427387904 4611686018427387904 t101 true _ A1.out).mono ?_); rintro e w' ⟨rfl, ⟨nd, rfl⟩⟩; refine ⟨_, rfl, ?_⟩) | ((with_reducible refine gate_callee (f := 20) rfl ?_); refine goesL_ (some 10) rfl rfl Try.func20 (by kernel_rfl) rfl #[.int .i64 2, .int .i64 3] rfl (by (try simp only [List.map_toArray, List.map_cons, List.map_nil]); first | done | rfl | (simp only [List.length_drop, List.length_take]; rfl)) ?_; (with_reducible refine (exact_Add.calls 2 3 t103 t104 _ A2.out).mono ?_); rintro e w' ⟨rfl, ⟨nd, rfl⟩⟩; refine ⟨_, rfl, ?_⟩))
    go_ret
    exact ⟨by first | rfl | (simp; done) | (simp [*]; done), by repeat (first | exact Drawn0.refl _ | apply Drawn0.step)⟩
  · replace c3 := Bool.eq_false_iff.mpr c3
    subst c3
    have H1 : (if t104 = true then (if t103 = 5 then ((exact_Mid.f (-3) 0).bind fun t105 => (some (t105 == (-2)))) else (some false)) else (some false)) = some r := by rw [if_neg (show ¬ (false = true) by decide)] at H; exact H
    clear H
    have H := H1
    clear H1
    by_cases c4 : t104 = true
    · subst c4
      have H1 : (if t103 = 5 then ((exact_Mid.f (-3) 0).bind fun t105 => (some (t105 == (-2)))) else (some false)) = some r := by rw [if_pos rfl] at H; exact H
      clear H
      have H := H1
      clear H1
      by_cases c5 : t103 = 5
      · rw [if_pos c5] at H
        have c5b0 : (t103 == 5) = true := beq_iff_eq.mpr c5
        have c5b1 : (t103 != 5) = false := bne_eq_false_iff_eq.mpr c5
        clear c5
        replace H := Option.bind_eq_some_iff.mp H
        obtain ⟨t105, A60, H⟩ := H
        replace H : (some (t105 == (-2))) = some r := H
        have A6 := Aside0.mk A60
        clear A60
        obtain rfl := Option.some.inj H
        go_enter Try.func17, Try.ntmps17
        go_wp2_with (first | ((with_reducible refine gate_callee (f := 20) rfl ?_); refine goesL_ (some 6) rfl rfl Try.func20 (by kernel_rfl) rfl #[.int .i64 4611686018427387904, .int .i64 4611686018427387904] rfl (by (try simp only [List.map_toArray, List.map_cons, List.map_nil]); first | done | rfl | (simp only [List.length_drop, List.length_take]; rfl)) ?_; (with_reducible refine (exact_Add.calls 4611686018427387904 4611686018427387904 t101 false _ A1.out).mono ?_); rintro e w' ⟨rfl, ⟨nd, rfl⟩⟩; refine ⟨_, rfl, ?_⟩) | ((with_reducible refine gate_callee (f := 20) rfl ?_); refine goesL_ (some 10) rfl rfl Try.func20 (by kernel_rfl) rfl #[.int .i64 2, .int .i64 3] rfl (by (try simp only [List.map_toArray, List.map_cons, List.map_nil]); first | done | rfl | (simp only [List.length_drop, List.length_take]; rfl)) ?_; (with_reducible refine (exact_Add.calls 2 3 t103 true _ A2.out).mono ?_); rintro e w' ⟨rfl, ⟨nd, rfl⟩⟩; refine ⟨_, rfl, ?_⟩) | (go_at_call 18; (with_reducible refine (exact_Mid.calls (-3) 0 t105 _ A6.out).mono ?_); rintro e w' ⟨rfl, ⟨nd, rfl⟩⟩))
        go_ret
        exact ⟨by first | rfl | (simp; done) | (simp [*]; done), by repeat (first | exact Drawn0.refl _ | apply Drawn0.step)⟩
      · rw [if_neg c5] at H
        have c5b0 : (t103 == 5) = false := beq_eq_false_iff_ne.mpr c5
        have c5b1 : (t103 != 5) = true := bne_iff_ne.mpr c5
        obtain rfl := Option.some.inj H
        go_enter Try.func17, Try.ntmps17
        go_wp2_with (first | ((with_reducible refine gate_callee (f := 20) rfl ?_); refine goesL_ (some 6) rfl rfl Try.func20 (by kernel_rfl) rfl #[.int .i64 4611686018427387904, .int .i64 4611686018427387904] rfl (by (try simp only [List.map_toArray, List.map_cons, List.map_nil]); first | done | rfl | (simp only [List.length_drop, List.length_take]; rfl)) ?_; (with_reducible refine (exact_Add.calls 4611686018427387904 4611686018427387904 t101 false _ A1.out).mono ?_); rintro e w' ⟨rfl, ⟨nd, rfl⟩⟩; refine ⟨_, rfl, ?_⟩) | ((with_reducible refine gate_callee (f := 20) rfl ?_); refine goesL_ (some 10) rfl rfl Try.func20 (by kernel_rfl) rfl #[.int .i64 2, .int .i64 3] rfl (by (try simp only [List.map_toArray, List.map_cons, List.map_nil]); first | done | rfl | (simp only [List.length_drop, List.length_take]; rfl)) ?_; (with_reducible refine (exact_Add.calls 2 3 t103 true _ A2.out).mono ?_); rintro e w' ⟨rfl, ⟨nd, rfl⟩⟩; refine ⟨_, rfl, ?_⟩))
        go_ret
        exact ⟨by first | rfl | (simp; done) | (simp [*]; done), by repeat (first | exact Drawn0.refl _ | apply Drawn0.step)⟩
    · replace c4 := Bool.eq_false_iff.mpr c4
      subst c4
      have H1 : (some false) = some r := by rw [if_neg (show ¬ (false = true) by decide)] at H; exact H
      clear H
      have H := H1
      clear H1
      obtain rfl := Option.some.inj H
      go_enter Try.func17, Try.ntmps17
      go_wp2_with (first | ((with_reducible refine gate_callee (f := 20) rfl ?_); refine goesL_ (some 6) rfl rfl Try.func20 (by kernel_rfl) rfl #[.int .i64 4611686018427387904, .int .i64 4611686018427387904] rfl (by (try simp only [List.map_toArray, List.map_cons, List.map_nil]); first | done | rfl | (simp only [List.length_drop, List.length_take]; rfl)) ?_; (with_reducible refine (exact_Add.calls 4611686018427387904 4611686018427387904 t101 false _ A1.out).mono ?_); rintro e w' ⟨rfl, ⟨nd, rfl⟩⟩; refine ⟨_, rfl, ?_⟩) | ((with_reducible refine gate_callee (f := 20) rfl ?_); refine goesL_ (some 10) rfl rfl Try.func20 (by kernel_rfl) rfl #[.int .i64 2, .int .i64 3] rfl (by (try simp only [List.map_toArray, List.map_cons, List.map_nil]); first | done | rfl | (simp only [List.length_drop, List.length_take]; rfl)) ?_; (with_reducible refine (exact_Add.calls 2 3 t103 false _ A2.out).mono ?_); rintro e w' ⟨rfl, ⟨nd, rfl⟩⟩; refine ⟨_, rfl, ?_⟩))
      go_ret
      exact ⟨by first | rfl | (simp; done) | (simp [*]; done), by repeat (first | exact Drawn0.refl _ | apply Drawn0.step)⟩

/-! ### exact_Mul: function 30 -/
def exact_Mul.j0 : Nat → Int → Int → Bool → Option (Int × Bool)
  | 0, _, _, _ => none
  | k + 1, x0, x1, x12 => if x12 = true then (some (0, true)) else (if x0 = (-1) then (if x1 = (-9223372036854775808) then (some (0, false)) else (if x1 = (-1) then (if x0 = (-9223372036854775808) then (some (0, false)) else (if x1 = 0 then (none) else (if (wrap64 (Int.tdiv (wrap64 (x0 * x1)) x1)) = x0 then (some (wrap64 (x0 * x1), true)) else (some (0, false))))) else (if x1 = 0 then (none) else (if (wrap64 (Int.tdiv (wrap64 (x0 * x1)) x1)) = x0 then (some (wrap64 (x0 * x1), true)) else (some (0, false)))))) else (if x1 = (-1) then (if x0 = (-9223372036854775808) then (some (0, false)) else (if x1 = 0 then (none) else (if (wrap64 (Int.tdiv (wrap64 (x0 * x1)) x1)) = x0 then (some (wrap64 (x0 * x1), true)) else (some (0, false))))) else (if x1 = 0 then (none) else (if (wrap64 (Int.tdiv (wrap64 (x0 * x1)) x1)) = x0 then (some (wrap64 (x0 * x1), true)) else (some (0, false))))))
def exact_Mul.f (k : Nat) (a0 : Int) (a1 : Int) : Option (Int × Bool) := if a0 = 0 then (exact_Mul.j0 k a0 a1 true) else (exact_Mul.j0 k a0 a1 (a1 == 0))
theorem exact_Mul.mono_l : ∀ k, (∀ y0 y1 y2, LeO (exact_Mul.j0 k y0 y1 y2) (exact_Mul.j0 (k + 1) y0 y1 y2))
  | 0 => fun _ _ _ r h => by simp [exact_Mul.j0] at h
  | k + 1 => by
    have ih0 := exact_Mul.mono_l k
    · intro y0 y1 y2
      unfold exact_Mul.j0
      repeat' first
      | (with_reducible exact ih0 _ _ _)
      | (with_reducible exact LeO.refl _)
      | (with_reducible exact LeO.none _)
      | (with_reducible refine LeO.ite ?_ ?_)
      | (with_reducible refine LeO.bind ?_ (fun _ => ?_))
      | exact ih0 _ _ _
      | exact LeO.none _
      | refine LeO.ite ?_ ?_
      | refine LeO.bind ?_ (fun _ => ?_)
theorem exact_Mul.mono : ∀ a0 a1 k, LeO (exact_Mul.f k a0 a1) (exact_Mul.f (k + 1) a0 a1) := by
  intro a0 a1 k
  have ih0 := exact_Mul.mono_l k
  unfold exact_Mul.f
  repeat' first
      | (with_reducible exact ih0 _ _ _)
      | (with_reducible exact LeO.refl _)
      | (with_reducible exact LeO.none _)
      | (with_reducible refine LeO.ite ?_ ?_)
      | (with_reducible refine LeO.bind ?_ (fun _ => ?_))
      | exact ih0 _ _ _
      | exact LeO.none _
      | refine LeO.ite ?_ ?_
      | refine LeO.bind ?_ (fun _ => ?_)
set_option maxHeartbeats 8000000 in
set_option maxRecDepth 100000 in
theorem exact_Mul.calls (k : Nat) (a0 : Int) (a1 : Int) (r1 : Int) (r2 : Bool) (w : World) (h : exact_Mul.f k a0 a1 = some (r1, r2)) :
    Calls Try.prog 30 #[.int .i64 a0, .int .i64 a1] w fun e w' => e = .returned (.tuple #[.int .i64 r1, .bool r2]) ∧ Drawn0 w w' := by
  have H : (if a0 = 0 then (exact_Mul.j0 k a0 a1 true) else (exact_Mul.j0 k a0 a1 (a1 == 0))) = some (r1, r2) := h
  clear h
  have HC3 := Aside0.mk H
  clear H
  go_enter Try.func30, Try.ntmps30
  go_upto_region 1 with (fail)
  go_cut [12] (fun v12 wc => ∃ (kq : Nat) (x12_2 : Bool), v12 = .bool x12_2 ∧ Aside0 (exact_Mul.j0 kq a0 a1 x12_2 = some (r1, r2)) ∧ Aside0 (kq ≤ k) ∧ Drawn0 w wc)
  case first =>
    have H := HC3.out
    clear HC3
    by_cases c4 : a0 = 0
    · rw [if_pos c4] at H
      have c4b0 : (a0 == 0) = true := beq_iff_eq.mpr c4
      have c4b1 : (a0 != 0) = false := bne_eq_false_iff_eq.mpr c4
      clear c4
      (first | rw [c4b0] | (simp only [i64_w, i32_w]; rw [c4b0]) | skip)
      have H' := Aside0.mk H
      clear H
      go_wp2
      go_meet
      case rel => exact ⟨_, (true), (by first | rfl | (simp; done) | (simp [*]; done)), H', ⟨by first | omega | exact Nat.le_refl _⟩, by repeat (first | exact Drawn0.refl _ | apply Drawn0.step)⟩
    · rw [if_neg c4] at H
      have c4b0 : (a0 == 0) = false := beq_eq_false_iff_ne.mpr c4
      have c4b1 : (a0 != 0) = true := bne_iff_ne.mpr c4
      (first | rw [c4b0] | (simp only [i64_w, i32_w]; rw [c4b0]) | skip)
      have H' := Aside0.mk H
      clear H
      go_wp2
      go_meet
      case rel => exact ⟨_, ((a1 == 0)), (by first | rfl | (simp; done) | (simp [*]; done)), H', ⟨by first | omega | exact Nat.le_refl _⟩, by repeat (first | exact Drawn0.refl _ | apply Drawn0.step)⟩
  case rest =>
    clear HC3
    try clear p2
    try clear c3
    try clear c4
    try clear c4b0
    try clear c4b1
    obtain ⟨kq, x12_2, rfl, HA, HJ2, ⟨mc2, rfl⟩⟩ := hcut
    cases kq with
    | zero => exact absurd HA.out (by simp [exact_Mul.j0])
    | succ kj2 =>
      have H := HA.out
      clear HA
      simp only [exact_Mul.j0] at H
      by_cases c5 : x12_2 = true
      · subst c5
        have H1 : (some (0, true)) = some (r1, r2) := by rw [if_pos rfl] at H; exact H
        clear H
        have H := H1
        clear H1
        simp only [Option.some.injEq, Prod.mk.injEq] at H
        obtain ⟨rfl, rfl⟩ := H
        go_wp2
        go_ret2
        exact ⟨by first | rfl | (simp; done) | (simp [*]; done), by repeat (first | exact Drawn0.refl _ | apply Drawn0.step)⟩
      · replace c5 := Bool.eq_false_iff.mpr c5
        subst c5
        have H1 : (if a0 = (-1) then (if a1 = (-9223372036854775808) then (some (0, false)) else (if a1 = (-1) then (if a0 = (-9223372036854775808) then (some (0, false)) else (if a1 = 0 then (none) else (if (wrap64 (Int.tdiv (wrap64 (a0 * a1)) a1)) = a0 then (some (wrap64 (a0 * a1), true)) else (some (0, false))))) else (if a1 = 0 then (none) else (if (wrap64 (Int.tdiv (wrap64 (a0 * a1)) a1)) = a0 then (some (wrap64 (a0 * a1), true)) else (some (0, false)))))) else (if a1 = (-1) then (if a0 = (-9223372036854775808) then (some (0, false)) else (if a1 = 0 then (none) else (if (wrap64 (Int.tdiv (wrap64 (a0 * a1)) a1)) = a0 then (some (wrap64 (a0 * a1), true)) else (some (0, false))))) else (if a1 = 0 then (none) else (if (wrap64 (Int.tdiv (wrap64 (a0 * a1)) a1)) = a0 then (some (wrap64 (a0 * a1), true)) else (some (0, false)))))) = some (r1, r2) := by rw [if_neg (show ¬ (false = true) by decide)] at H; exact H
        clear H
        have H := H1
        clear H1
        by_cases c6 : a0 = (-1)
        · rw [if_pos c6] at H
          have c6b0 : (a0 == (-1)) = true := beq_iff_eq.mpr c6
          have c6b1 : (a0 != (-1)) = false := bne_eq_false_iff_eq.mpr c6
          clear c6
          by_cases c7 : a1 = (-9223372036854775808)
          · rw [if_pos c7] at H
            have c7b0 : (a1 == (-9223372036854775808)) = true := beq_iff_eq.mpr c7
            have c7b1 : (a1 != (-9223372036854775808)) = false := bne_eq_false_iff_eq.mpr c7
            clear c7
            simp only [Option.some.injEq, Prod.mk.injEq] at H
            obtain ⟨rfl, rfl⟩ := H
            go_wp2
            go_ret2
            exact ⟨by first | rfl | (simp; done) | (simp [*]; done), by repeat (first | exact Drawn0.refl _ | apply Drawn0.step)⟩
          · rw [if_neg c7] at H
            have c7b0 : (a1 == (-9223372036854775808)) = false := beq_eq_false_iff_ne.mpr c7
            have c7b1 : (a1 != (-9223372036854775808)) = true := bne_iff_ne.mpr c7
            by_cases c8 : a1 = (-1)
            · rw [if_pos c8] at H
              have c8b0 : (a1 == (-1)) = true := beq_iff_eq.mpr c8
              have c8b1 : (a1 != (-1)) = false := bne_eq_false_iff_eq.mpr c8
              clear c8
              by_cases c9 : a0 = (-9223372036854775808)
              · rw [if_pos c9] at H
                have c9b0 : (a0 == (-9223372036854775808)) = true := beq_iff_eq.mpr c9
                have c9b1 : (a0 != (-9223372036854775808)) = false := bne_eq_false_iff_eq.mpr c9
                clear c9
                simp only [Option.some.injEq, Prod.mk.injEq] at H
                obtain ⟨rfl, rfl⟩ := H
                go_wp2
                go_ret2
                exact ⟨by first | rfl | (simp; done) | (simp [*]; done), by repeat (first | exact Drawn0.refl _ | apply Drawn0.step)⟩
              · rw [if_neg c9] at H
                have c9b0 : (a0 == (-9223372036854775808)) = false := beq_eq_false_iff_ne.mpr c9
                have c9b1 : (a0 != (-9223372036854775808)) = true := bne_iff_ne.mpr c9
                by_cases c10 : a1 = 0
                · rw [if_pos c10] at H
                  exact absurd H (by simp)
                · rw [if_neg c10] at H
                  have c10b0 : (a1 == 0) = false := beq_eq_false_iff_ne.mpr c10
                  have c10b1 : (a1 != 0) = true := bne_iff_ne.mpr c10
                  by_cases c11 : (wrap64 (Int.tdiv (wrap64 (a0 * a1)) a1)) = a0
                  · rw [if_pos c11] at H
                    have c11b0 : ((wrap64 (Int.tdiv (wrap64 (a0 * a1)) a1)) == a0) = true := beq_iff_eq.mpr c11
                    have c11b1 : ((wrap64 (Int.tdiv (wrap64 (a0 * a1)) a1)) != a0) = false := bne_eq_false_iff_eq.mpr c11
                    clear c11
                    simp only [Option.some.injEq, Prod.mk.injEq] at H
                    obtain ⟨rfl, rfl⟩ := H
                    go_wp2
                    go_ret2
                    exact ⟨by first | rfl | (simp; done) | (simp [*]; done), by repeat (first | exact Drawn0.refl _ | apply Drawn0.step)⟩
                  · rw [if_neg c11] at H
                    have c11b0 : ((wrap64 (Int.tdiv (wrap64 (a0 * a1)) a1)) == a0) = false := beq_eq_false_iff_ne.mpr c11
                    have c11b1 : ((wrap64 (Int.tdiv (wrap64 (a0 * a1)) a1)) != a0) = true := bne_iff_ne.mpr c11
                    simp only [Option.some.injEq, Prod.mk.injEq] at H
                    obtain ⟨rfl, rfl⟩ := H
                    go_wp2
                    go_ret2
                    exact ⟨by first | rfl | (simp; done) | (simp [*]; done), by repeat (first | exact Drawn0.refl _ | apply Drawn0.step)⟩
            · rw [if_neg c8] at H
              have c8b0 : (a1 == (-1)) = false := beq_eq_false_iff_ne.mpr c8
              have c8b1 : (a1 != (-1)) = true := bne_iff_ne.mpr c8
              by_cases c12 : a1 = 0
              · rw [if_pos c12] at H
                exact absurd H (by simp)
              · rw [if_neg c12] at H
                have c12b0 : (a1 == 0) = false := beq_eq_false_iff_ne.mpr c12
                have c12b1 : (a1 != 0) = true := bne_iff_ne.mpr c12
                by_cases c13 : (wrap64 (Int.tdiv (wrap64 (a0 * a1)) a1)) = a0
                · rw [if_pos c13] at H
                  have c13b0 : ((wrap64 (Int.tdiv (wrap64 (a0 * a1)) a1)) == a0) = true := beq_iff_eq.mpr c13
                  have c13b1 : ((wrap64 (Int.tdiv (wrap64 (a0 * a1)) a1)) != a0) = false := bne_eq_false_iff_eq.mpr c13
                  clear c13
                  simp only [Option.some.injEq, Prod.mk.injEq] at H
                  obtain ⟨rfl, rfl⟩ := H
                  go_wp2
                  go_ret2
                  exact ⟨by first | rfl | (simp; done) | (simp [*]; done), by repeat (first | exact Drawn0.refl _ | apply Drawn0.step)⟩
                · rw [if_neg c13] at H
                  have c13b0 : ((wrap64 (Int.tdiv (wrap64 (a0 * a1)) a1)) == a0) = false := beq_eq_false_iff_ne.mpr c13
                  have c13b1 : ((wrap64 (Int.tdiv (wrap64 (a0 * a1)) a1)) != a0) = true := bne_iff_ne.mpr c13
                  simp only [Option.some.injEq, Prod.mk.injEq] at H
                  obtain ⟨rfl, rfl⟩ := H
                  go_wp2
                  go_ret2
                  exact ⟨by first | rfl | (simp; done) | (simp [*]; done), by repeat (first | exact Drawn0.refl _ | apply Drawn0.step)⟩
        · rw [if_neg c6] at H
          have c6b0 : (a0 == (-1)) = false := beq_eq_false_iff_ne.mpr c6
          have c6b1 : (a0 != (-1)) = true := bne_iff_ne.mpr c6
          by_cases c14 : a1 = (-1)
          · rw [if_pos c14] at H
            have c14b0 : (a1 == (-1)) = true := beq_iff_eq.mpr c14
            have c14b1 : (a1 != (-1)) = false := bne_eq_false_iff_eq.mpr c14
            clear c14
            by_cases c15 : a0 = (-9223372036854775808)
            · rw [if_pos c15] at H
              have c15b0 : (a0 == (-9223372036854775808)) = true := beq_iff_eq.mpr c15
              have c15b1 : (a0 != (-9223372036854775808)) = false := bne_eq_false_iff_eq.mpr c15
              clear c15
              simp only [Option.some.injEq, Prod.mk.injEq] at H
              obtain ⟨rfl, rfl⟩ := H
              go_wp2
              go_ret2
              exact ⟨by first | rfl | (simp; done) | (simp [*]; done), by repeat (first | exact Drawn0.refl _ | apply Drawn0.step)⟩
            · rw [if_neg c15] at H
              have c15b0 : (a0 == (-9223372036854775808)) = false := beq_eq_false_iff_ne.mpr c15
              have c15b1 : (a0 != (-9223372036854775808)) = true := bne_iff_ne.mpr c15
              by_cases c16 : a1 = 0
              · rw [if_pos c16] at H
                exact absurd H (by simp)
              · rw [if_neg c16] at H
                have c16b0 : (a1 == 0) = false := beq_eq_false_iff_ne.mpr c16
                have c16b1 : (a1 != 0) = true := bne_iff_ne.mpr c16
                by_cases c17 : (wrap64 (Int.tdiv (wrap64 (a0 * a1)) a1)) = a0
                · rw [if_pos c17] at H
                  have c17b0 : ((wrap64 (Int.tdiv (wrap64 (a0 * a1)) a1)) == a0) = true := beq_iff_eq.mpr c17
                  have c17b1 : ((wrap64 (Int.tdiv (wrap64 (a0 * a1)) a1)) != a0) = false := bne_eq_false_iff_eq.mpr c17
                  clear c17
                  simp only [Option.some.injEq, Prod.mk.injEq] at H
                  obtain ⟨rfl, rfl⟩ := H
                  go_wp2
                  go_ret2
                  exact ⟨by first | rfl | (simp; done) | (simp [*]; done), by repeat (first | exact Drawn0.refl _ | apply Drawn0.step)⟩
                · rw [if_neg c17] at H
                  have c17b0 : ((wrap64 (Int.tdiv (wrap64 (a0 * a1)) a1)) == a0) = false := beq_eq_false_iff_ne.mpr c17
                  have c17b1 : ((wrap64 (Int.tdiv (wrap64 (a0 * a1)) a1)) != a0) = true := bne_iff_ne.mpr c17
                  simp only [Option.some.injEq, Prod.mk.injEq] at H
                  obtain ⟨rfl, rfl⟩ := H
                  go_wp2
                  go_ret2
                  exact ⟨by first | rfl | (simp; done) | (simp [*]; done), by repeat (first | exact Drawn0.refl _ | apply Drawn0.step)⟩
          · rw [if_neg c14] at H
            have c14b0 : (a1 == (-1)) = false := beq_eq_false_iff_ne.mpr c14
            have c14b1 : (a1 != (-1)) = true := bne_iff_ne.mpr c14
            by_cases c18 : a1 = 0
            · rw [if_pos c18] at H
              exact absurd H (by simp)
            · rw [if_neg c18] at H
              have c18b0 : (a1 == 0) = false := beq_eq_false_iff_ne.mpr c18
              have c18b1 : (a1 != 0) = true := bne_iff_ne.mpr c18
              by_cases c19 : (wrap64 (Int.tdiv (wrap64 (a0 * a1)) a1)) = a0
              · rw [if_pos c19] at H
                have c19b0 : ((wrap64 (Int.tdiv (wrap64 (a0 * a1)) a1)) == a0) = true := beq_iff_eq.mpr c19
                have c19b1 : ((wrap64 (Int.tdiv (wrap64 (a0 * a1)) a1)) != a0) = false := bne_eq_false_iff_eq.mpr c19
                clear c19
                simp only [Option.some.injEq, Prod.mk.injEq] at H
                obtain ⟨rfl, rfl⟩ := H
                go_wp2
                go_ret2
                exact ⟨by first | rfl | (simp; done) | (simp [*]; done), by repeat (first | exact Drawn0.refl _ | apply Drawn0.step)⟩
              · rw [if_neg c19] at H
                have c19b0 : ((wrap64 (Int.tdiv (wrap64 (a0 * a1)) a1)) == a0) = false := beq_eq_false_iff_ne.mpr c19
                have c19b1 : ((wrap64 (Int.tdiv (wrap64 (a0 * a1)) a1)) != a0) = true := bne_iff_ne.mpr c19
                simp only [Option.some.injEq, Prod.mk.injEq] at H
                obtain ⟨rfl, rfl⟩ := H
                go_wp2
                go_ret2
                exact ⟨by first | rfl | (simp; done) | (simp [*]; done), by repeat (first | exact Drawn0.refl _ | apply Drawn0.step)⟩

/-! ### whilomref01_size: function 71 -/
def whilomref01_size.f (a0 : Int) : Option (Int) := if a0 < 0 then (some (IntKind.u64.wrap ((IntKind.u64.wrap (wrap64 (-(wrap64 (a0 + 1))))) + 1))) else (some (IntKind.u64.wrap (a0)))
set_option maxHeartbeats 8000000 in
set_option maxRecDepth 100000 in
theorem whilomref01_size.calls (a0 : Int) (r : Int) (w : World) (h : whilomref01_size.f a0 = some r) :
    Calls Try.prog 71 #[.int .i64 a0] w fun e w' => e = .returned (.int .u64 r) ∧ Drawn0 w w' := by
  have H : (if a0 < 0 then (some (IntKind.u64.wrap ((IntKind.u64.wrap (wrap64 (-(wrap64 (a0 + 1))))) + 1))) else (some (IntKind.u64.wrap (a0)))) = some r := h
  clear h
  by_cases c2 : a0 < 0
  · rw [if_pos c2] at H
    have c2b0 : decide (a0 < 0) = true := decide_eq_true c2
    clear c2
    obtain rfl := Option.some.inj H
    go_enter Try.func71, Try.ntmps71
    go_wp2
    go_ret
    exact ⟨by first | rfl | (simp; done) | (simp [*]; done), by repeat (first | exact Drawn0.refl _ | apply Drawn0.step)⟩
  · rw [if_neg c2] at H
    have c2b0 : decide (a0 < 0) = false := decide_eq_false c2
    clear c2
    obtain rfl := Option.some.inj H
    go_enter Try.func71, Try.ntmps71
    go_wp2
    go_ret
    exact ⟨by first | rfl | (simp; done) | (simp [*]; done), by repeat (first | exact Drawn0.refl _ | apply Drawn0.step)⟩

/-! ### whilomref01_Product: function 31 -/
def whilomref01_Product.j0 : Nat → Int → Int → Int → Int → Int → Int → Bool → Option (Int × Bool)
  | 0, _, _, _, _, _, _, _ => none
  | k + 1, x0, x1, x8, x9, x10, x11, x32 => if x32 = true then (some (0, false)) else (if (IntKind.u64.wrap ((IntKind.u64.wrap (x8 * x11)) + (IntKind.u64.wrap (x9 * x10)))) > 4294967295 then (some (0, false)) else (if (IntKind.u64.wrap (x9 * x11)) > (IntKind.u64.wrap (18446744073709551615 - (IntKind.u64.wrap ((IntKind.u64.wrap ((IntKind.u64.wrap (x8 * x11)) + (IntKind.u64.wrap (x9 * x10)))) * 4294967296)))) then (some (0, false)) else (if ((decide (x0 < 0)) != (decide (x1 < 0))) = true then (if (IntKind.u64.wrap ((IntKind.u64.wrap (x9 * x11)) + (IntKind.u64.wrap ((IntKind.u64.wrap ((IntKind.u64.wrap (x8 * x11)) + (IntKind.u64.wrap (x9 * x10)))) * 4294967296)))) > 9223372036854775808 then (some (0, false)) else (some (wrap64 (IntKind.u64.wrap (-(IntKind.u64.wrap ((IntKind.u64.wrap (x9 * x11)) + (IntKind.u64.wrap ((IntKind.u64.wrap ((IntKind.u64.wrap (x8 * x11)) + (IntKind.u64.wrap (x9 * x10)))) * 4294967296)))))), true))) else (if (IntKind.u64.wrap ((IntKind.u64.wrap (x9 * x11)) + (IntKind.u64.wrap ((IntKind.u64.wrap ((IntKind.u64.wrap (x8 * x11)) + (IntKind.u64.wrap (x9 * x10)))) * 4294967296)))) > 9223372036854775807 then (some (0, false)) else (some (wrap64 (IntKind.u64.wrap ((IntKind.u64.wrap (x9 * x11)) + (IntKind.u64.wrap ((IntKind.u64.wrap ((IntKind.u64.wrap (x8 * x11)) + (IntKind.u64.wrap (x9 * x10)))) * 4294967296)))), true))))))
def whilomref01_Product.f (k : Nat) (a0 : Int) (a1 : Int) : Option (Int × Bool) := (whilomref01_size.f a0).bind fun t106 => ((whilomref01_size.f a1).bind fun t107 => (if (IntKind.u64.wrap (Int.tdiv t106 4294967296)) > 0 then (whilomref01_Product.j0 k a0 a1 (IntKind.u64.wrap (Int.tdiv t106 4294967296)) (Int.tmod t106 4294967296) (IntKind.u64.wrap (Int.tdiv t107 4294967296)) (Int.tmod t107 4294967296) (decide ((IntKind.u64.wrap (Int.tdiv t107 4294967296)) > 0))) else (whilomref01_Product.j0 k a0 a1 (IntKind.u64.wrap (Int.tdiv t106 4294967296)) (Int.tmod t106 4294967296) (IntKind.u64.wrap (Int.tdiv t107 4294967296)) (Int.tmod t107 4294967296) false)))
theorem whilomref01_Product.mono_l : ∀ k, (∀ y0 y1 y2 y3 y4 y5 y6, LeO (whilomref01_Product.j0 k y0 y1 y2 y3 y4 y5 y6) (whilomref01_Product.j0 (k + 1) y0 y1 y2 y3 y4 y5 y6))
  | 0 => fun _ _ _ _ _ _ _ r h => by simp [whilomref01_Product.j0] at h
  | k + 1 => by
    have ih0 := whilomref01_Product.mono_l k
    · intro y0 y1 y2 y3 y4 y5 y6
      unfold whilomref01_Product.j0
      repeat' first
      | (with_reducible exact ih0 _ _ _ _ _ _ _)
      | (with_reducible exact LeO.refl _)
      | (with_reducible exact LeO.none _)
      | (with_reducible refine LeO.ite ?_ ?_)
      | (with_reducible refine LeO.bind ?_ (fun _ => ?_))
      | exact ih0 _ _ _ _ _ _ _
      | exact LeO.none _
      | refine LeO.ite ?_ ?_
      | refine LeO.bind ?_ (fun _ => ?_)
theorem whilomref01_Product.mono : ∀ a0 a1 k, LeO (whilomref01_Product.f k a0 a1) (whilomref01_Product.f (k + 1) a0 a1) := by
  intro a0 a1 k
  have ih0 := whilomref01_Product.mono_l k
  unfold whilomref01_Product.f
  repeat' first
      | (with_reducible exact ih0 _ _ _ _ _ _ _)
      | (with_reducible exact LeO.refl _)
      | (with_reducible exact LeO.none _)
      | (with_reducible refine LeO.ite ?_ ?_)
      | (with_reducible refine LeO.bind ?_ (fun _ => ?_))
      | exact ih0 _ _ _ _ _ _ _
      | exact LeO.none _
      | refine LeO.ite ?_ ?_
      | refine LeO.bind ?_ (fun _ => ?_)
set_option maxHeartbeats 8000000 in
set_option maxRecDepth 100000 in
theorem whilomref01_Product.calls (k : Nat) (a0 : Int) (a1 : Int) (r1 : Int) (r2 : Bool) (w : World) (h : whilomref01_Product.f k a0 a1 = some (r1, r2)) :
    Calls Try.prog 31 #[.int .i64 a0, .int .i64 a1] w fun e w' => e = .returned (.tuple #[.int .i64 r1, .bool r2]) ∧ Drawn0 w w' := by
  have H : ((whilomref01_size.f a0).bind fun t106 => ((whilomref01_size.f a1).bind fun t107 => (if (IntKind.u64.wrap (Int.tdiv t106 4294967296)) > 0 then (whilomref01_Product.j0 k a0 a1 (IntKind.u64.wrap (Int.tdiv t106 4294967296)) (Int.tmod t106 4294967296) (IntKind.u64.wrap (Int.tdiv t107 4294967296)) (Int.tmod t107 4294967296) (decide ((IntKind.u64.wrap (Int.tdiv t107 4294967296)) > 0))) else (whilomref01_Product.j0 k a0 a1 (IntKind.u64.wrap (Int.tdiv t106 4294967296)) (Int.tmod t106 4294967296) (IntKind.u64.wrap (Int.tdiv t107 4294967296)) (Int.tmod t107 4294967296) false)))) = some (r1, r2) := h
  clear h
  replace H := Option.bind_eq_some_iff.mp H
  obtain ⟨t106, A30, H⟩ := H
  replace H : ((whilomref01_size.f a1).bind fun t107 => (if (IntKind.u64.wrap (Int.tdiv t106 4294967296)) > 0 then (whilomref01_Product.j0 k a0 a1 (IntKind.u64.wrap (Int.tdiv t106 4294967296)) (Int.tmod t106 4294967296) (IntKind.u64.wrap (Int.tdiv t107 4294967296)) (Int.tmod t107 4294967296) (decide ((IntKind.u64.wrap (Int.tdiv t107 4294967296)) > 0))) else (whilomref01_Product.j0 k a0 a1 (IntKind.u64.wrap (Int.tdiv t106 4294967296)) (Int.tmod t106 4294967296) (IntKind.u64.wrap (Int.tdiv t107 4294967296)) (Int.tmod t107 4294967296) false))) = some (r1, r2) := H
  have A3 := Aside0.mk A30
  clear A30
  replace H := Option.bind_eq_some_iff.mp H
  obtain ⟨t107, A40, H⟩ := H
  replace H : (if (IntKind.u64.wrap (Int.tdiv t106 4294967296)) > 0 then (whilomref01_Product.j0 k a0 a1 (IntKind.u64.wrap (Int.tdiv t106 4294967296)) (Int.tmod t106 4294967296) (IntKind.u64.wrap (Int.tdiv t107 4294967296)) (Int.tmod t107 4294967296) (decide ((IntKind.u64.wrap (Int.tdiv t107 4294967296)) > 0))) else (whilomref01_Product.j0 k a0 a1 (IntKind.u64.wrap (Int.tdiv t106 4294967296)) (Int.tmod t106 4294967296) (IntKind.u64.wrap (Int.tdiv t107 4294967296)) (Int.tmod t107 4294967296) false)) = some (r1, r2) := H
  have A4 := Aside0.mk A40
  clear A40
  have HC5 := Aside0.mk H
  clear H
  go_enter Try.func31, Try.ntmps31
  go_upto_region 4 with (first | ((with_reducible refine gate_callee (f := 71) rfl ?_); refine goesL_ (some 16) rfl rfl Try.func71 (by kernel_rfl) rfl #[.int .i64 a0] rfl (by (try simp only [List.map_toArray, List.map_cons, List.map_nil]); first | done | rfl | (simp only [List.length_drop, List.length_take]; rfl)) ?_; (with_reducible refine (whilomref01_size.calls a0 t106 _ A3.out).mono ?_); rintro e w' ⟨rfl, ⟨nd, rfl⟩⟩; refine ⟨_, rfl, ?_⟩) | ((with_reducible refine gate_callee (f := 71) rfl ?_); refine goesL_ (some 18) rfl rfl Try.func71 (by kernel_rfl) rfl #[.int .i64 a1] rfl (by (try simp only [List.map_toArray, List.map_cons, List.map_nil]); first | done | rfl | (simp only [List.length_drop, List.length_take]; rfl)) ?_; (with_reducible refine (whilomref01_size.calls a1 t107 _ A4.out).mono ?_); rintro e w' ⟨rfl, ⟨nd, rfl⟩⟩; refine ⟨_, rfl, ?_⟩))
  (try simp only [Act.put, List.setIfInBounds_toArray, List.set_cons_zero, List.set_cons_succ])
  go_cut [32] (fun v32 wc => ∃ (kq : Nat) (x32_4 : Bool), v32 = .bool x32_4 ∧ Aside0 (whilomref01_Product.j0 kq a0 a1 (IntKind.u64.wrap (Int.tdiv t106 4294967296)) (Int.tmod t106 4294967296) (IntKind.u64.wrap (Int.tdiv t107 4294967296)) (Int.tmod t107 4294967296) x32_4 = some (r1, r2)) ∧ Aside0 (kq ≤ k) ∧ Drawn0 w wc)
  case first =>
    have H := HC5.out
    clear HC5
    by_cases c6 : (IntKind.u64.wrap (Int.tdiv t106 4294967296)) > 0
    · rw [if_pos c6] at H
      have c6b0 : decide (0 < (IntKind.u64.wrap (Int.tdiv t106 4294967296))) = true := decide_eq_true c6
      clear c6
      (first | rw [c6b0] | (simp only [i64_w, i32_w]; rw [c6b0]) | skip)
      have H' := Aside0.mk H
      clear H
      go_wp2
      go_meet
      case rel => exact ⟨_, (decide ((IntKind.u64.wrap (Int.tdiv t107 4294967296)) > 0)), (by first | rfl | (simp; done) | (simp [*]; done)), H', ⟨by first | omega | exact Nat.le_refl _⟩, by repeat (first | exact Drawn0.refl _ | apply Drawn0.step)⟩
    · rw [if_neg c6] at H
      have c6b0 : decide (0 < (IntKind.u64.wrap (Int.tdiv t106 4294967296))) = false := decide_eq_false c6
      clear c6
      (first | rw [c6b0] | (simp only [i64_w, i32_w]; rw [c6b0]) | skip)
      have H' := Aside0.mk H
      clear H
      go_wp2
      go_meet
      case rel => exact ⟨_, (false), (by first | rfl | (simp; done) | (simp [*]; done)), H', ⟨by first | omega | exact Nat.le_refl _⟩, by repeat (first | exact Drawn0.refl _ | apply Drawn0.step)⟩
  case rest =>
    clear HC5
    try clear p2
    try clear c3
    try clear c6
    try clear c6b0
    obtain ⟨kq, x32_4, rfl, HA, HJ4, ⟨mc4, rfl⟩⟩ := hcut
    cases kq with
    | zero => exact absurd HA.out (by simp [whilomref01_Product.j0])
    | succ kj4 =>
      have H := HA.out
      clear HA
      simp only [whilomref01_Product.j0] at H
      by_cases c7 : x32_4 = true
      · subst c7
        have H1 : (some (0, false)) = some (r1, r2) := by rw [if_pos rfl] at H; exact H
        clear H
        have H := H1
        clear H1
        simp only [Option.some.injEq, Prod.mk.injEq] at H
        obtain ⟨rfl, rfl⟩ := H
        go_wp2
        go_ret2
        exact ⟨by first | rfl | (simp; done) | (simp [*]; done), by repeat (first | exact Drawn0.refl _ | apply Drawn0.step)⟩
      · replace c7 := Bool.eq_false_iff.mpr c7
        subst c7
        have H1 : (if (IntKind.u64.wrap ((IntKind.u64.wrap ((IntKind.u64.wrap (Int.tdiv t106 4294967296)) * (Int.tmod t107 4294967296))) + (IntKind.u64.wrap ((Int.tmod t106 4294967296) * (IntKind.u64.wrap (Int.tdiv t107 4294967296)))))) > 4294967295 then (some (0, false)) else (if (IntKind.u64.wrap ((Int.tmod t106 4294967296) * (Int.tmod t107 4294967296))) > (IntKind.u64.wrap (18446744073709551615 - (IntKind.u64.wrap ((IntKind.u64.wrap ((IntKind.u64.wrap ((IntKind.u64.wrap (Int.tdiv t106 4294967296)) * (Int.tmod t107 4294967296))) + (IntKind.u64.wrap ((Int.tmod t106 4294967296) * (IntKind.u64.wrap (Int.tdiv t107 4294967296)))))) * 4294967296)))) then (some (0, false)) else (if ((decide (a0 < 0)) != (decide (a1 < 0))) = true then (if (IntKind.u64.wrap ((IntKind.u64.wrap ((Int.tmod t106 4294967296) * (Int.tmod t107 4294967296))) + (IntKind.u64.wrap ((IntKind.u64.wrap ((IntKind.u64.wrap ((IntKind.u64.wrap (Int.tdiv t106 4294967296)) * (Int.tmod t107 4294967296))) + (IntKind.u64.wrap ((Int.tmod t106 4294967296) * (IntKind.u64.wrap (Int.tdiv t107 4294967296)))))) * 4294967296)))) > 9223372036854775808 then (some (0, false)) else (some (wrap64 (IntKind.u64.wrap (-(IntKind.u64.wrap ((IntKind.u64.wrap ((Int.tmod t106 4294967296) * (Int.tmod t107 4294967296))) + (IntKind.u64.wrap ((IntKind.u64.wrap ((IntKind.u64.wrap ((IntKind.u64.wrap (Int.tdiv t106 4294967296)) * (Int.tmod t107 4294967296))) + (IntKind.u64.wrap ((Int.tmod t106 4294967296) * (IntKind.u64.wrap (Int.tdiv t107 4294967296)))))) * 4294967296)))))), true))) else (if (IntKind.u64.wrap ((IntKind.u64.wrap ((Int.tmod t106 4294967296) * (Int.tmod t107 4294967296))) + (IntKind.u64.wrap ((IntKind.u64.wrap ((IntKind.u64.wrap ((IntKind.u64.wrap (Int.tdiv t106 4294967296)) * (Int.tmod t107 4294967296))) + (IntKind.u64.wrap ((Int.tmod t106 4294967296) * (IntKind.u64.wrap (Int.tdiv t107 4294967296)))))) * 4294967296)))) > 9223372036854775807 then (some (0, false)) else (some (wrap64 (IntKind.u64.wrap ((IntKind.u64.wrap ((Int.tmod t106 4294967296) * (Int.tmod t107 4294967296))) + (IntKind.u64.wrap ((IntKind.u64.wrap ((IntKind.u64.wrap ((IntKind.u64.wrap (Int.tdiv t106 4294967296)) * (Int.tmod t107 4294967296))) + (IntKind.u64.wrap ((Int.tmod t106 4294967296) * (IntKind.u64.wrap (Int.tdiv t107 4294967296)))))) * 4294967296)))), true)))))) = some (r1, r2) := by rw [if_neg (show ¬ (false = true) by decide)] at H; exact H
        clear H
        have H := H1
        clear H1
        by_cases c8 : (IntKind.u64.wrap ((IntKind.u64.wrap ((IntKind.u64.wrap (Int.tdiv t106 4294967296)) * (Int.tmod t107 4294967296))) + (IntKind.u64.wrap ((Int.tmod t106 4294967296) * (IntKind.u64.wrap (Int.tdiv t107 4294967296)))))) > 4294967295
        · rw [if_pos c8] at H
          have c8b0 : decide (4294967295 < (IntKind.u64.wrap ((IntKind.u64.wrap ((IntKind.u64.wrap (Int.tdiv t106 4294967296)) * (Int.tmod t107 4294967296))) + (IntKind.u64.wrap ((Int.tmod t106 4294967296) * (IntKind.u64.wrap (Int.tdiv t107 4294967296))))))) = true := decide_eq_true c8
          clear c8
          simp only [Option.some.injEq, Prod.mk.injEq] at H
          obtain ⟨rfl, rfl⟩ := H
          go_wp2
          go_ret2
          exact ⟨by first | rfl | (simp; done) | (simp [*]; done), by repeat (first | exact Drawn0.refl _ | apply Drawn0.step)⟩
        · rw [if_neg c8] at H
          have c8b0 : decide (4294967295 < (IntKind.u64.wrap ((IntKind.u64.wrap ((IntKind.u64.wrap (Int.tdiv t106 4294967296)) * (Int.tmod t107 4294967296))) + (IntKind.u64.wrap ((Int.tmod t106 4294967296) * (IntKind.u64.wrap (Int.tdiv t107 4294967296))))))) = false := decide_eq_false c8
          clear c8
          by_cases c9 : (IntKind.u64.wrap ((Int.tmod t106 4294967296) * (Int.tmod t107 4294967296))) > (IntKind.u64.wrap (18446744073709551615 - (IntKind.u64.wrap ((IntKind.u64.wrap ((IntKind.u64.wrap ((IntKind.u64.wrap (Int.tdiv t106 4294967296)) * (Int.tmod t107 4294967296))) + (IntKind.u64.wrap ((Int.tmod t106 4294967296) * (IntKind.u64.wrap (Int.tdiv t107 4294967296)))))) * 4294967296))))
          · rw [if_pos c9] at H
            have c9b0 : decide ((IntKind.u64.wrap (18446744073709551615 - (IntKind.u64.wrap ((IntKind.u64.wrap ((IntKind.u64.wrap ((IntKind.u64.wrap (Int.tdiv t106 4294967296)) * (Int.tmod t107 4294967296))) + (IntKind.u64.wrap ((Int.tmod t106 4294967296) * (IntKind.u64.wrap (Int.tdiv t107 4294967296)))))) * 4294967296)))) < (IntKind.u64.wrap ((Int.tmod t106 4294967296) * (Int.tmod t107 4294967296)))) = true := decide_eq_true c9
            clear c9
            simp only [Option.some.injEq, Prod.mk.injEq] at H
            obtain ⟨rfl, rfl⟩ := H
            go_wp2
            go_ret2
            exact ⟨by first | rfl | (simp; done) | (simp [*]; done), by repeat (first | exact Drawn0.refl _ | apply Drawn0.step)⟩
          · rw [if_neg c9] at H
            have c9b0 : decide ((IntKind.u64.wrap (18446744073709551615 - (IntKind.u64.wrap ((IntKind.u64.wrap ((IntKind.u64.wrap ((IntKind.u64.wrap (Int.tdiv t106 4294967296)) * (Int.tmod t107 4294967296))) + (IntKind.u64.wrap ((Int.tmod t106 4294967296) * (IntKind.u64.wrap (Int.tdiv t107 4294967296)))))) * 4294967296)))) < (IntKind.u64.wrap ((Int.tmod t106 4294967296) * (Int.tmod t107 4294967296)))) = false := decide_eq_false c9
            clear c9
            by_cases c10 : ((decide (a0 < 0)) != (decide (a1 < 0))) = true
            · rw [if_pos c10] at H
              have c10b0 : ((decide (a0 < 0)) != (decide (a1 < 0))) = true := c10
              (try (have c10b1 : decide ((decide (a0 < 0)) = (decide (a1 < 0))) = false := by simpa using c10))
              (try (have c10b2 : ((decide (a0 < 0)) == (decide (a1 < 0))) = false := by simpa using c10))
              (try (have c10b3 : ¬ ((decide (a0 < 0)) = (decide (a1 < 0))) := by simpa using c10))
              clear c10
              by_cases c11 : (IntKind.u64.wrap ((IntKind.u64.wrap ((Int.tmod t106 4294967296) * (Int.tmod t107 4294967296))) + (IntKind.u64.wrap ((IntKind.u64.wrap ((IntKind.u64.wrap ((IntKind.u64.wrap (Int.tdiv t106 4294967296)) * (Int.tmod t107 4294967296))) + (IntKind.u64.wrap ((Int.tmod t106 4294967296) * (IntKind.u64.wrap (Int.tdiv t107 4294967296)))))) * 4294967296)))) > 9223372036854775808
              · rw [if_pos c11] at H
                have c11b0 : decide (9223372036854775808 < (IntKind.u64.wrap ((IntKind.u64.wrap ((Int.tmod t106 4294967296) * (Int.tmod t107 4294967296))) + (IntKind.u64.wrap ((IntKind.u64.wrap ((IntKind.u64.wrap ((IntKind.u64.wrap (Int.tdiv t106 4294967296)) * (Int.tmod t107 4294967296))) + (IntKind.u64.wrap ((Int.tmod t106 4294967296) * (IntKind.u64.wrap (Int.tdiv t107 4294967296)))))) * 4294967296))))) = true := decide_eq_true c11
                clear c11
                simp only [Option.some.injEq, Prod.mk.injEq] at H
                obtain ⟨rfl, rfl⟩ := H
                go_wp2
                go_ret2
                exact ⟨by first | rfl | (simp; done) | (simp [*]; done), by repeat (first | exact Drawn0.refl _ | apply Drawn0.step)⟩
              · rw [if_neg c11] at H
                have c11b0 : decide (9223372036854775808 < (IntKind.u64.wrap ((IntKind.u64.wrap ((Int.tmod t106 4294967296) * (Int.tmod t107 4294967296))) + (IntKind.u64.wrap ((IntKind.u64.wrap ((IntKind.u64.wrap ((IntKind.u64.wrap (Int.tdiv t106 4294967296)) * (Int.tmod t107 4294967296))) + (IntKind.u64.wrap ((Int.tmod t106 4294967296) * (IntKind.u64.wrap (Int.tdiv t107 4294967296)))))) * 4294967296))))) = false := decide_eq_false c11
                clear c11
                simp only [Option.some.injEq, Prod.mk.injEq] at H
                obtain ⟨rfl, rfl⟩ := H
                go_wp2
                go_ret2
                exact ⟨by first | rfl | (simp; done) | (simp [*]; done), by repeat (first | exact Drawn0.refl _ | apply Drawn0.step)⟩
            · rw [if_neg c10] at H
              have c10b0 : ((decide (a0 < 0)) != (decide (a1 < 0))) = false := by simpa using c10
              (try (have c10b1 : decide ((decide (a0 < 0)) = (decide (a1 < 0))) = true := by simpa using c10))
              (try (have c10b2 : ((decide (a0 < 0)) == (decide (a1 < 0))) = true := by simpa using c10))
              clear c10
              by_cases c12 : (IntKind.u64.wrap ((IntKind.u64.wrap ((Int.tmod t106 4294967296) * (Int.tmod t107 4294967296))) + (IntKind.u64.wrap ((IntKind.u64.wrap ((IntKind.u64.wrap ((IntKind.u64.wrap (Int.tdiv t106 4294967296)) * (Int.tmod t107 4294967296))) + (IntKind.u64.wrap ((Int.tmod t106 4294967296) * (IntKind.u64.wrap (Int.tdiv t107 4294967296)))))) * 4294967296)))) > 9223372036854775807
              · rw [if_pos c12] at H
                have c12b0 : decide (9223372036854775807 < (IntKind.u64.wrap ((IntKind.u64.wrap ((Int.tmod t106 4294967296) * (Int.tmod t107 4294967296))) + (IntKind.u64.wrap ((IntKind.u64.wrap ((IntKind.u64.wrap ((IntKind.u64.wrap (Int.tdiv t106 4294967296)) * (Int.tmod t107 4294967296))) + (IntKind.u64.wrap ((Int.tmod t106 4294967296) * (IntKind.u64.wrap (Int.tdiv t107 4294967296)))))) * 4294967296))))) = true := decide_eq_true c12
                clear c12
                simp only [Option.some.injEq, Prod.mk.injEq] at H
                obtain ⟨rfl, rfl⟩ := H
                go_wp2
                go_ret2
                exact ⟨by first | rfl | (simp; done) | (simp [*]; done), by repeat (first | exact Drawn0.refl _ | apply Drawn0.step)⟩
              · rw [if_neg c12] at H
                have c12b0 : decide (9223372036854775807 < (IntKind.u64.wrap ((IntKind.u64.wrap ((Int.tmod t106 4294967296) * (Int.tmod t107 4294967296))) + (IntKind.u64.wrap ((IntKind.u64.wrap ((IntKind.u64.wrap ((IntKind.u64.wrap (Int.tdiv t106 4294967296)) * (Int.tmod t107 4294967296))) + (IntKind.u64.wrap ((Int.tmod t106 4294967296) * (IntKind.u64.wrap (Int.tdiv t107 4294967296)))))) * 4294967296))))) = false := decide_eq_false c12
                clear c12
                simp only [Option.some.injEq, Prod.mk.injEq] at H
                obtain ⟨rfl, rfl⟩ := H
                go_wp2
                go_ret2
                exact ⟨by first | rfl | (simp; done) | (simp [*]; done), by repeat (first | exact Drawn0.refl _ | apply Drawn0.step)⟩

/-! ### whilomlaw01_ExactProducts: function 7 -/
def whilomlaw01_ExactProducts.f (k : Nat) (a0 : Int) (a1 : Int) : Option (Bool) := (whilomlaw01_awake.f).bind fun t108 => (if t108 = true then ((exact_Mul.f k a0 a1).bind fun bt109 => ((whilomref01_Product.f k a0 a1).bind fun bt111 => (if (bt109.2 == bt111.2) = true then (some (bt109.1 == bt111.1)) else (some false)))) else (some false))
theorem whilomlaw01_ExactProducts.mono : ∀ a0 a1 k, LeO (whilomlaw01_ExactProducts.f k a0 a1) (whilomlaw01_ExactProducts.f (k + 1) a0 a1) := by
  intro a0 a1 k
  unfold whilomlaw01_ExactProducts.f
  repeat' first
      | (with_reducible exact exact_Mul.mono _ _ _)
      | (with_reducible exact whilomref01_Product.mono _ _ _)
      | (with_reducible exact LeO.refl _)
      | (with_reducible exact LeO.none _)
      | (with_reducible refine LeO.ite ?_ ?_)
      | (with_reducible refine LeO.bind ?_ (fun _ => ?_))
      | exact exact_Mul.mono _ _ _
      | exact whilomref01_Product.mono _ _ _
      | exact LeO.none _
      | refine LeO.ite ?_ ?_
      | refine LeO.bind ?_ (fun _ => ?_)
set_option maxHeartbeats 8000000 in
set_option maxRecDepth 100000 in
theorem whilomlaw01_ExactProducts.calls (k : Nat) (a0 : Int) (a1 : Int) (r : Bool) (w : World) (h : whilomlaw01_ExactProducts.f k a0 a1 = some r) :
    Calls Try.prog 7 #[.int .i64 a0, .int .i64 a1] w fun e w' => e = .returned (.bool r) ∧ Drawn0 w w' := by
  have H : ((whilomlaw01_awake.f).bind fun t108 => (if t108 = true then ((exact_Mul.f k a0 a1).bind fun bt109 => ((whilomref01_Product.f k a0 a1).bind fun bt111 => (if (bt109.2 == bt111.2) = true then (some (bt109.1 == bt111.1)) else (some false)))) else (some false))) = some r := h
  clear h
  replace H := Option.bind_eq_some_iff.mp H
  obtain ⟨t108, A30, H⟩ := H
  replace H : (if t108 = true then ((exact_Mul.f k a0 a1).bind fun bt109 => ((whilomref01_Product.f k a0 a1).bind fun bt111 => (if (bt109.2 == bt111.2) = true then (some (bt109.1 == bt111.1)) else (some false)))) else (some false)) = some r := H
  have A3 := Aside0.mk A30
  clear A30
  by_cases c4 : t108 = true
  · subst c4
    have H1 : ((exact_Mul.f k a0 a1).bind fun bt109 => ((whilomref01_Product.f k a0 a1).bind fun bt111 => (if (bt109.2 == bt111.2) = true then (some (bt109.1 == bt111.1)) else (some false)))) = some r := by rw [if_pos rfl] at H; exact H
    clear H
    have H := H1
    clear H1
    replace H := Option.bind_eq_some_iff.mp H
    obtain ⟨⟨t109, t110⟩, A50, H⟩ := H
    replace H : ((whilomref01_Product.f k a0 a1).bind fun bt111 => (if (t110 == bt111.2) = true then (some (t109 == bt111.1)) else (some false))) = some r := H
    have A5 := Aside0.mk A50
    clear A50
    replace H := Option.bind_eq_some_iff.mp H
    obtain ⟨⟨t111, t112⟩, A60, H⟩ := H
    replace H : (if (t110 == t112) = true then (some (t109 == t111)) else (some false)) = some r := H
    have A6 := Aside0.mk A60
    clear A60
    by_cases c7 : (t110 == t112) = true
    · rw [if_pos c7] at H
      have c7b0 : (t110 == t112) = true := c7
      (try (have c7b1 : decide (t110 = t112) = true := by simpa using c7))
      (try (have c7b2 : (t110 == t112) = true := by simpa using c7))
      clear c7
      obtain rfl := Option.some.inj H
      go_enter Try.func7, Try.ntmps7
      go_wp2_with (first | ((with_reducible refine gate_callee (f := 17) rfl ?_); refine goesL_ (some 9) rfl rfl Try.func17 (by kernel_rfl) rfl #[] rfl (by (try simp only [List.map_toArray, List.map_cons, List.map_nil]); first | done | rfl | (simp only [List.length_drop, List.length_take]; rfl)) ?_; (with_reducible refine (whilomlaw01_awake.calls  true _ A3.out).mono ?_); rintro e w' ⟨rfl, ⟨nd, rfl⟩⟩; refine ⟨_, rfl, ?_⟩) | ((with_reducible refine gate_callee (f := 30) rfl ?_); refine goesL_ (some 14) rfl rfl Try.func30 (by kernel_rfl) rfl #[.int .i64 a0, .int .i64 a1] rfl (by (try simp only [List.map_toArray, List.map_cons, List.map_nil]); first | done | rfl | (simp only [List.length_drop, List.length_take]; rfl)) ?_; (with_reducible refine (exact_Mul.calls k a0 a1 t109 t110 _ A5.out).mono ?_); rintro e w' ⟨rfl, ⟨nd, rfl⟩⟩; refine ⟨_, rfl, ?_⟩) | ((with_reducible refine gate_callee (f := 31) rfl ?_); refine goesL_ (some 20) rfl rfl Try.func31 (by kernel_rfl) rfl #[.int .i64 a0, .int .i64 a1] rfl (by (try simp only [List.map_toArray, List.map_cons, List.map_nil]); first | done | rfl | (simp only [List.length_drop, List.length_take]; rfl)) ?_; (with_reducible refine (whilomref01_Product.calls k a0 a1 t111 t112 _ A6.out).mono ?_); rintro e w' ⟨rfl, ⟨nd, rfl⟩⟩; refine ⟨_, rfl, ?_⟩))
      go_ret
      exact ⟨by first | rfl | (simp; done) | (simp [*]; done), by repeat (first | exact Drawn0.refl _ | apply Drawn0.step)⟩
    · rw [if_neg c7] at H
      have c7b0 : (t110 == t112) = false := by simpa using c7
      (try (have c7b1 : decide (t110 = t112) = false := by simpa using c7))
      (try (have c7b2 : (t110 == t112) = false := by simpa using c7))
      (try (have c7b3 : ¬ (t110 = t112) := by simpa using c7))
      clear c7
      obtain rfl := Option.some.inj H
      go_enter Try.func7, Try.ntmps7
      go_wp2_with (first | ((with_reducible refine gate_callee (f := 17) rfl ?_); refine goesL_ (some 9) rfl rfl Try.func17 (by kernel_rfl) rfl #[] rfl (by (try simp only [List.map_toArray, List.map_cons, List.map_nil]); first | done | rfl | (simp only [List.length_drop, List.length_take]; rfl)) ?_; (with_reducible refine (whilomlaw01_awake.calls  true _ A3.out).mono ?_); rintro e w' ⟨rfl, ⟨nd, rfl⟩⟩; refine ⟨_, rfl, ?_⟩) | ((with_reducible refine gate_callee (f := 30) rfl ?_); refine goesL_ (some 14) rfl rfl Try.func30 (by kernel_rfl) rfl #[.int .i64 a0, .int .i64 a1] rfl (by (try simp only [List.map_toArray, List.map_cons, List.map_nil]); first | done | rfl | (simp only [List.length_drop, List.length_take]; rfl)) ?_; (with_reducible refine (exact_Mul.calls k a0 a1 t109 t110 _ A5.out).mono ?_); rintro e w' ⟨rfl, ⟨nd, rfl⟩⟩; refine ⟨_, rfl, ?_⟩) | ((with_reducible refine gate_callee (f := 31) rfl ?_); refine goesL_ (some 20) rfl rfl Try.func31 (by kernel_rfl) rfl #[.int .i64 a0, .int .i64 a1] rfl (by (try simp only [List.map_toArray, List.map_cons, List.map_nil]); first | done | rfl | (simp only [List.length_drop, List.length_take]; rfl)) ?_; (with_reducible refine (whilomref01_Product.calls k a0 a1 t111 t112 _ A6.out).mono ?_); rintro e w' ⟨rfl, ⟨nd, rfl⟩⟩; refine ⟨_, rfl, ?_⟩))
      go_ret
      exact ⟨by first | rfl | (simp; done) | (simp [*]; done), by repeat (first | exact Drawn0.refl _ | apply Drawn0.step)⟩
  · replace c4 := Bool.eq_false_iff.mpr c4
    subst c4
    have H1 : (some false) = some r := by rw [if_neg (show ¬ (false = true) by decide)] at H; exact H
    clear H
    have H := H1
    clear H1
    obtain rfl := Option.some.inj H
    go_enter Try.func7, Try.ntmps7
    go_wp2_with (first | ((with_reducible refine gate_callee (f := 17) rfl ?_); refine goesL_ (some 9) rfl rfl Try.func17 (by kernel_rfl) rfl #[] rfl (by (try simp only [List.map_toArray, List.map_cons, List.map_nil]); first | done | rfl | (simp only [List.length_drop, List.length_take]; rfl)) ?_; (with_reducible refine (whilomlaw01_awake.calls  false _ A3.out).mono ?_); rintro e w' ⟨rfl, ⟨nd, rfl⟩⟩; refine ⟨_, rfl, ?_⟩))
    go_ret
    exact ⟨by first | rfl | (simp; done) | (simp [*]; done), by repeat (first | exact Drawn0.refl _ | apply Drawn0.step)⟩

/-- THE ONE PURE STATEMENT of whilomlaw01_ExactProducts: yours. -/
def whilomlaw01_ExactProducts.Pure : Prop := ∀ (a0 : Int) (a1 : Int), (Lit.int .i64 a0).wf = true → (Lit.int .i64 a1).wf = true → ∃ k, whilomlaw01_ExactProducts.f k a0 a1 = some true
theorem whilomlaw01_ExactProducts.walk (P : whilomlaw01_ExactProducts.Pure) (a0 : Int) (a1 : Int) (w : World) (w0 : (Lit.int .i64 a0).wf = true) (w1 : (Lit.int .i64 a1).wf = true) :
    Calls Try.prog 7 #[.int .i64 a0, .int .i64 a1] w fun e w' => e = .returned (.bool true) ∧ Below w.heap.size w w' := by
  obtain ⟨k, h⟩ := P a0 a1 w0 w1
  refine (whilomlaw01_ExactProducts.calls k a0 a1 true w h).mono ?_
  rintro e w' ⟨rfl, hd⟩
  exact ⟨rfl, hd.below⟩

end Go.Proofs.Ytfkbijkmdnieiaa.PExactProducts
