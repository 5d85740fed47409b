/- What was added can be taken away, a product is divided back, and the order of two numbers doesn't matter. No conditions. -/
import Derived.Test.YtfkbijkmdnieiaaPExactBackx1
import Derived.Test.YtfkbijkmdnieiaaArith
namespace Go.Proofs.Ytfkbijkmdnieiaa.Pure
open Go.RowKit Go.Proofs.Ytfkbijkmdnieiaa.PExactBack Go.Proofs.YtfkbijkmdnieiaaW.PrintWords Go.Proofs.YtfkbijkmdnieiaaW.PrintLast
open Go.Proofs.Ytfkbijkmdnieiaa.Arith

theorem ExactBack.wfIn {a : Int} (h : (Lit.int .i64 a).wf = true) : In a := bounds_i64 h
theorem ExactBack.awake : whilomlaw01_awake.f = some true := by decide +kernel
theorem ExactBack.add {a b : Int} (ha : In a) (hb : In b) : exact_Add.f a b = some (if In (a + b) then (a + b, true) else (0, false)) := by
  unfold exact_Add.f
  by_cases h : In (a + b)
  · rw [if_pos (add_yes h), if_pos h, wrap_in h]
  · rw [add_no ha hb h, if_neg (by decide), if_neg h]
theorem ExactBack.sub {a b : Int} (ha : In a) (hb : In b) : exact_Sub.f a b = some (if In (a - b) then (a - b, true) else (0, false)) := by
  unfold exact_Sub.f
  by_cases h : In (a - b)
  · rw [if_pos (sub_yes h), if_pos h, wrap_in h]
  · rw [sub_no ha hb h, if_neg (by decide), if_neg h]
theorem ExactBack.mul (k : Nat) {a b : Int} (ha : In a) (hb : In b) : exact_Mul.f (k + 1) a b = some (if In (a * b) then (a * b, true) else (0, false)) := by
  unfold exact_Mul.f
  by_cases ha0 : a = 0
  · subst ha0
    have z : In (0 * b) := by rw [Int.zero_mul]; decide
    rw [if_pos rfl, if_pos z, Int.zero_mul]; rfl
  · rw [if_neg ha0]
    by_cases hb0 : b = 0
    · subst hb0
      have z : In (a * 0) := by rw [Int.mul_zero]; decide
      rw [if_pos z, Int.mul_zero]; rfl
    · have e : (b == 0) = false := beq_eq_false_iff_ne.2 hb0
      rw [e]; simp only [exact_Mul.j0]; rw [if_neg (by decide)]
      by_cases h : In (a * b)
      · have y := mul_yes ha hb0 h
        rw [if_pos h, y, wrap_in h]
        by_cases c1 : a = -1
        · rw [if_pos c1]
          have c2 : ¬ b = -9223372036854775808 := by rintro rfl; subst c1; revert h; decide
          rw [if_neg c2]
          by_cases c3 : b = -1
          · rw [if_pos c3, if_neg (by omega), if_neg hb0, if_pos rfl]
          · rw [if_neg c3, if_neg hb0, if_pos rfl]
        · rw [if_neg c1]
          by_cases c3 : b = -1
          · have c2 : ¬ a = -9223372036854775808 := by rintro rfl; subst c3; revert h; decide
            rw [if_pos c3, if_neg c2, if_neg hb0, if_pos rfl]
          · rw [if_neg c3, if_neg hb0, if_pos rfl]
      · rw [if_neg h]
        by_cases c3 : b = -1
        · subst c3
          have c4 : a = -9223372036854775808 := by
            have := mul_min ha
            by_cases c : a = -9223372036854775808
            · exact c
            · exact absurd (this.2 c) h
          subst c4; rfl
        · have n := mul_no hb hb0 c3 h
          simp only [if_neg n, if_neg c3, if_neg hb0, ite_self]

theorem ExactBack.tail (k : Nat) {a b : Int} (ha : In a) (hb : In b) :
    ((exact_Mul.f (k + 1) a b).bind fun bt113 => ((exact_Mul.f (k + 1) b a).bind fun bt115 => (if bt113.1 = bt115.1 then (if (bt113.2 == bt115.2) = true then (if bt113.2 = true then (if b = 0 then (some true) else (if (wrap64 (Int.tdiv bt113.1 b)) = a then (some ((Int.tmod bt113.1 b) == 0)) else (some false))) else (some true)) else (some false)) else (some false)))) = some true := by
  rw [ExactBack.mul k ha hb, ExactBack.mul k hb ha, Int.mul_comm b a]
  simp only [Option.bind_some]
  rw [if_pos trivial]
  by_cases h : In (a * b)
  · rw [if_pos h]
    by_cases h0 : b = 0
    · simp [h0]
    · have e : (a * b).tdiv b = a := Int.mul_tdiv_cancel _ h0
      have m : (a * b).tmod b = 0 := Int.mul_tmod_left ..
      simp only [e, m, wrap_in ha]; simp
  · rw [if_neg h]; simp

theorem ExactBack : whilomlaw01_ExactBack.Pure := by
  intro a b w0 w1
  have ha := ExactBack.wfIn w0
  have hb := ExactBack.wfIn w1
  refine ⟨3, ?_⟩
  unfold whilomlaw01_ExactBack.f
  rw [ExactBack.awake, ExactBack.add ha hb, ExactBack.add hb ha, Int.add_comm b a]
  simp only [Option.bind_some]
  rw [if_pos trivial]
  by_cases h : In (a + b)
  · rw [if_pos h]
    simp only [whilomlaw01_ExactBack.j0]
    have i : In (a + b - b) := by rw [Int.add_sub_cancel]; exact ha
    rw [ExactBack.sub h hb, if_pos i, Int.add_sub_cancel]
    simp only [Option.bind_some, bne_self_eq_false, whilomlaw01_ExactBack.j1, if_true, if_false, Bool.false_eq_true]
    exact ExactBack.tail 0 ha hb
  · rw [if_neg h]
    simp only [whilomlaw01_ExactBack.j0, bne_self_eq_false, if_false, Bool.false_eq_true]
    exact ExactBack.tail 1 ha hb

end Go.Proofs.Ytfkbijkmdnieiaa.Pure
