/- Sums and differences of two numbers are told just where they fit. No conditions. -/
import Derived.Test.YtfkbijkmdnieiaaPExactSumsx1
import Derived.Test.YtfkbijkmdnieiaaArith
namespace Go.Proofs.Ytfkbijkmdnieiaa.Pure
open Go.RowKit Go.Proofs.Ytfkbijkmdnieiaa.PExactSums Go.Proofs.YtfkbijkmdnieiaaW.PrintWords Go.Proofs.YtfkbijkmdnieiaaW.PrintLast
open Go.Proofs.Ytfkbijkmdnieiaa.Arith

theorem ExactSums.wfIn {a : Int} (h : (Lit.int .i64 a).wf = true) : In a := bounds_i64 h
theorem ExactSums.awake : whilomlaw01_awake.f = some true := by decide +kernel
theorem ExactSums.add {a b : Int} (ha : In a) (hb : In b) : exact_Add.f a b = some (if In (a + b) then (a + b, true) else (0, false)) := by
  unfold exact_Add.f
  by_cases h : In (a + b)
  · rw [if_pos (add_yes h), if_pos h, wrap_in h]
  · rw [add_no ha hb h, if_neg (by decide), if_neg h]
theorem ExactSums.sub {a b : Int} (ha : In a) (hb : In b) : exact_Sub.f a b = some (if In (a - b) then (a - b, true) else (0, false)) := by
  unfold exact_Sub.f
  by_cases h : In (a - b)
  · rw [if_pos (sub_yes h), if_pos h, wrap_in h]
  · rw [sub_no ha hb h, if_neg (by decide), if_neg h]

theorem ExactSums.fits {a b : Int} (ha : In a) (hb : In b) : whilomref01_Fits.f a b = some (decide (In (a + b))) := by
  unfold whilomref01_Fits.f
  by_cases h : b > 0
  · rw [if_pos h]; congr 1; rw [decide_eq_decide]; unfold In at *; unfold wrap64; omega
  · rw [if_neg h]; congr 1; rw [decide_eq_decide]; unfold In at *; unfold wrap64; omega

theorem ExactSums.tail (k : Nat) {a b : Int} (ha : In a) (hb : In b) : whilomlaw01_ExactSums.j0 (k + 1) a b false = some true := by
  simp only [whilomlaw01_ExactSums.j0]
  rw [if_neg (by decide), ExactSums.sub ha hb]
  simp only [Option.bind_some]
  by_cases hm : b = -9223372036854775808
  · rw [if_pos hm]
    by_cases h : In (a - b)
    · have e : decide (a < 0) = true := by unfold In at *; simp; omega
      rw [if_pos h, e, wrap_in h]; simp
    · have e : decide (a < 0) = false := by unfold In at *; simp; omega
      rw [if_neg h, e]; simp
  · rw [if_neg hm]
    have hn : In (-b) := by unfold In at *; omega
    rw [wrap_in hn, ExactSums.fits ha hn]
    simp only [Option.bind_some, ← Int.sub_eq_add_neg]
    by_cases h : In (a - b)
    · rw [if_pos h, if_pos (decide_eq_true h), wrap_in h]; simp
    · rw [if_neg h, if_neg (by simpa using h)]; simp

theorem ExactSums : whilomlaw01_ExactSums.Pure := by
  intro a b w0 w1
  have ha := ExactSums.wfIn w0
  have hb := ExactSums.wfIn w1
  refine ⟨1, ?_⟩
  unfold whilomlaw01_ExactSums.f
  rw [ExactSums.awake, ExactSums.add ha hb, ExactSums.fits ha hb]
  simp only [Option.bind_some, if_true]
  by_cases h : In (a + b)
  · rw [if_pos h, decide_eq_true h, wrap_in h, if_neg (by simp), if_pos rfl, if_pos rfl]
    exact ExactSums.tail 0 ha hb
  · rw [if_neg h, decide_eq_false h, if_neg (by decide), if_neg (by decide)]
    exact ExactSums.tail 0 ha hb

end Go.Proofs.Ytfkbijkmdnieiaa.Pure
