/- One more and one less are told of each number but the ends. No conditions. -/
import Derived.Test.YtfkbijkmdnieiaaPExactStepsx1
import Derived.Test.YtfkbijkmdnieiaaArith
namespace Go.Proofs.Ytfkbijkmdnieiaa.Pure
open Go.RowKit Go.Proofs.Ytfkbijkmdnieiaa.PExactSteps Go.Proofs.YtfkbijkmdnieiaaW.PrintWords Go.Proofs.YtfkbijkmdnieiaaW.PrintLast
open Go.Proofs.Ytfkbijkmdnieiaa.Arith

theorem ExactSteps.wfIn {a : Int} (h : (Lit.int .i64 a).wf = true) : In a := bounds_i64 h
theorem ExactSteps.awake : whilomlaw01_awake.f = some true := by decide +kernel
theorem ExactSteps.add {a b : Int} (ha : In a) (hb : In b) : exact_Add.f a b = some (if In (a + b) then (a + b, true) else (0, false)) := by
  unfold exact_Add.f
  by_cases h : In (a + b)
  · rw [if_pos (add_yes h), if_pos h, wrap_in h]
  · rw [add_no ha hb h, if_neg (by decide), if_neg h]
theorem ExactSteps.sub {a b : Int} (ha : In a) (hb : In b) : exact_Sub.f a b = some (if In (a - b) then (a - b, true) else (0, false)) := by
  unfold exact_Sub.f
  by_cases h : In (a - b)
  · rw [if_pos (sub_yes h), if_pos h, wrap_in h]
  · rw [sub_no ha hb h, if_neg (by decide), if_neg h]

theorem ExactSteps : whilomlaw01_ExactSteps.Pure := by
  intro a w0
  have ha := ExactSteps.wfIn w0
  have h1 : In 1 := by decide
  unfold whilomlaw01_ExactSteps.f exact_Next.f exact_Prior.f
  rw [ExactSteps.awake, ExactSteps.add ha h1, ExactSteps.sub ha h1]
  simp only [Option.bind_some, if_true]
  by_cases hM : a = 9223372036854775807
  · subst hM; decide +kernel
  · rw [if_neg hM]
    by_cases hL : a = -9223372036854775808
    · subst hL; decide +kernel
    · have i1 : In (a + 1) := by unfold In at *; omega
      have i2 : In (a - 1) := by unfold In at *; omega
      rw [if_neg hL, if_pos i1, if_pos i2, wrap_in i1, wrap_in i2]; simp

end Go.Proofs.Ytfkbijkmdnieiaa.Pure
