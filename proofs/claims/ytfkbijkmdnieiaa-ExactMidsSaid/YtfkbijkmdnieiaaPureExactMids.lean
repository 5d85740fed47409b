/- The half of two numbers' sum is the document's, whichever comes first, and lies between them. No conditions. -/
import Derived.Test.YtfkbijkmdnieiaaPExactMidsx1
import Derived.Test.YtfkbijkmdnieiaaArith
namespace Go.Proofs.Ytfkbijkmdnieiaa.Pure
open Go.RowKit Go.Proofs.Ytfkbijkmdnieiaa.PExactMids Go.Proofs.YtfkbijkmdnieiaaW.PrintWords Go.Proofs.YtfkbijkmdnieiaaW.PrintLast
open Go.Proofs.Ytfkbijkmdnieiaa.Arith

theorem ExactMids.wfIn {a : Int} (h : (Lit.int .i64 a).wf = true) : In a := bounds_i64 h
theorem ExactMids.awake : whilomlaw01_awake.f = some true := by decide +kernel

theorem ExactMids.mid {a b : Int} (ha : In a) (hb : In b) : exact_Mid.f a b = some ((a + b) / 2) := by
  unfold exact_Mid.f; rw [mid_eq ha hb]

theorem ExactMids.half {a b : Int} (ha : In a) (hb : In b) : whilomref01_Half.f a b = some ((a + b) / 2) := by
  unfold In at ha hb
  unfold whilomref01_Half.f
  simp only [tmod2, tdiv2]
  unfold wrap64
  split <;> split <;> (repeat' split) <;> congr 1 <;> omega

theorem ExactMids : whilomlaw01_ExactMids.Pure := by
  intro a b w0 w1
  have ha := ExactMids.wfIn w0
  have hb := ExactMids.wfIn w1
  unfold whilomlaw01_ExactMids.f
  rw [ExactMids.awake, ExactMids.mid ha hb, ExactMids.half ha hb, ExactMids.mid hb ha]
  simp only [Option.bind_some, if_true]
  have e : (b + a) / 2 = (a + b) / 2 := by omega
  have l : (a + b) / 2 ≥ mn a b := by unfold mn; omega
  have g : (a + b) / 2 ≤ mx a b := by unfold mx; omega
  rw [if_pos e.symm, if_pos l, decide_eq_true g]

end Go.Proofs.Ytfkbijkmdnieiaa.Pure
