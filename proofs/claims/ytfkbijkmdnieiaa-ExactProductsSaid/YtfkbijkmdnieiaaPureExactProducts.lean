/- Products of two numbers are told just where they fit, and are those of long multiplication. No conditions. -/
import Derived.Test.YtfkbijkmdnieiaaPExactProductsx1
import Derived.Test.YtfkbijkmdnieiaaArith
namespace Go.Proofs.Ytfkbijkmdnieiaa.Pure
open Go.RowKit Go.Proofs.Ytfkbijkmdnieiaa.PExactProducts Go.Proofs.YtfkbijkmdnieiaaW.PrintWords Go.Proofs.YtfkbijkmdnieiaaW.PrintLast
open Go.Proofs.Ytfkbijkmdnieiaa.Arith

theorem ExactProducts.wfIn {a : Int} (h : (Lit.int .i64 a).wf = true) : In a := bounds_i64 h
theorem ExactProducts.awake : whilomlaw01_awake.f = some true := by decide +kernel
theorem ExactProducts.mul (k : Nat) {a b : Int} (ha : In a) (hb : In b) : exact_Mul.f (k + 1) a b = some (if In (a * b) then (a * b, true) else (0, false)) := by
  unfold exact_Mul.f
  by_cases ha0 : a = 0
  · subst ha0
    have z : In (0 * b) := by rw [Int.zero_mul]; decide
    rw [if_pos rfl, if_pos z, Int.zero_mul]; rfl
  · rw [if_neg ha0]
    by_cases hb0 : b = 0
    · subst hb0
      have z : In (a * 0) := by rw [Int.mul_zero]; decide
      rw [if_pos z, Int.mul_zero]; rfl
    · have e : (b == 0) = false := beq_eq_false_iff_ne.2 hb0
      rw [e]; simp only [exact_Mul.j0]; rw [if_neg (by decide)]
      by_cases h : In (a * b)
      · have y := mul_yes ha hb0 h
        rw [if_pos h, y, wrap_in h]
        by_cases c1 : a = -1
        · rw [if_pos c1]
          have c2 : ¬ b = -9223372036854775808 := by rintro rfl; subst c1; revert h; decide
          rw [if_neg c2]
          by_cases c3 : b = -1
          · rw [if_pos c3, if_neg (by omega), if_neg hb0, if_pos rfl]
          · rw [if_neg c3, if_neg hb0, if_pos rfl]
        · rw [if_neg c1]
          by_cases c3 : b = -1
          · have c2 : ¬ a = -9223372036854775808 := by rintro rfl; subst c3; revert h; decide
            rw [if_pos c3, if_neg c2, if_neg hb0, if_pos rfl]
          · rw [if_neg c3, if_neg hb0, if_pos rfl]
      · rw [if_neg h]
        by_cases c3 : b = -1
        · subst c3
          have c4 : a = -9223372036854775808 := by
            have := mul_min ha
            by_cases c : a = -9223372036854775808
            · exact c
            · exact absurd (this.2 c) h
          subst c4; rfl
        · have n := mul_no hb hb0 c3 h
          simp only [if_neg n, if_neg c3, if_neg hb0, ite_self]

theorem ExactProducts.u64 {n : Int} (h0 : 0 ≤ n) (h : n < 18446744073709551616) : IntKind.u64.wrap n = n := by
  rw [IntKind.wrap_u64]; omega

theorem ExactProducts.size {a : Int} (ha : In a) : whilomref01_size.f a = some (a.natAbs : Int) := by
  unfold In at ha
  unfold whilomref01_size.f
  by_cases h : a < 0
  · have e1 : wrap64 (a + 1) = a + 1 := wrap_in (by unfold In; omega)
    have e2 : wrap64 (-(a + 1)) = -(a + 1) := wrap_in (by unfold In; omega)
    rw [if_pos h, e1, e2, ExactProducts.u64 (n := -(a + 1)) (by omega) (by omega), ExactProducts.u64 (n := -(a + 1) + 1) (by omega) (by omega)]
    congr 1; omega
  · rw [if_neg h, ExactProducts.u64 (by omega) (by omega)]
    congr 1; omega

/-- What is left of the long multiplication, by z = |a b|. -/
def ExactProducts.signed (a b z : Int) : Int × Bool :=
  if (a < 0) = (b < 0) then (if z > 9223372036854775807 then (0, false) else (z, true)) else (if z > 9223372036854775808 then (0, false) else (-z, true))

theorem ExactProducts.signed_eq {a b : Int} : ExactProducts.signed a b ((a * b).natAbs : Int) = if In (a * b) then (a * b, true) else (0, false) := by
  unfold ExactProducts.signed
  by_cases s : (a < 0) = (b < 0)
  · have h : 0 ≤ a * b := by
      by_cases ha : a < 0
      · have hb : b < 0 := by rw [← s]; exact ha
        exact Int.mul_nonneg_of_nonpos_of_nonpos (by omega) (by omega)
      · have hb : ¬ b < 0 := by rw [← s]; exact ha
        exact Int.mul_nonneg (by omega) (by omega)
    rw [if_pos s]
    generalize a * b = c at *
    by_cases g : c ≤ 9223372036854775807
    · rw [if_neg (by omega), if_pos (by unfold In; omega)]; congr 1; omega
    · rw [if_pos (by omega), if_neg (by unfold In; omega)]
  · have h : a * b ≤ 0 := by
      by_cases ha : a < 0
      · have hb : ¬ b < 0 := by intro hb; exact s (by simp [ha, hb])
        exact Int.mul_nonpos_of_nonpos_of_nonneg (by omega) (by omega)
      · have hb : b < 0 := by
          by_cases hb : b < 0
          · exact hb
          · exact absurd (by simp [ha, hb]) s
        exact Int.mul_nonpos_of_nonneg_of_nonpos (by omega) (by omega)
    rw [if_neg s]
    generalize a * b = c at *
    by_cases g : -9223372036854775808 ≤ c
    · rw [if_neg (by omega), if_pos (by unfold In; omega)]; congr 1; omega
    · rw [if_pos (by omega), if_neg (by unfold In; omega)]

theorem ExactProducts.big {a b : Int} (h : 18446744073709551616 ≤ ((a * b).natAbs : Int)) : (if In (a * b) then (a * b, true) else (0, false)) = ((0, false) : Int × Bool) := by
  rw [if_neg]; unfold In; omega

/-- The loop's one round: the two halves of each number. -/
theorem ExactProducts.round (k : Nat) (a b hi lo top low : Int) (b1 : 0 ≤ hi) (b2 : hi ≤ 2147483648) (b3 : 0 ≤ lo) (b4 : lo < 4294967296)
    (b5 : 0 ≤ top) (b6 : top ≤ 2147483648) (b7 : 0 ≤ low) (b8 : low < 4294967296) (hz : hi = 0 ∨ top = 0)
    (hab : ((a * b).natAbs : Int) = (hi * low + lo * top) * 4294967296 + lo * low) :
    whilomref01_Product.j0 (k + 1) a b hi lo top low false = some (if In (a * b) then (a * b, true) else (0, false)) := by
  have m1 : 0 ≤ hi * low := Int.mul_nonneg b1 b7
  have m2 : 0 ≤ lo * top := Int.mul_nonneg b3 b5
  have m3 : 0 ≤ lo * low := Int.mul_nonneg b3 b7
  have n1 : hi * low ≤ 2147483648 * 4294967295 := Int.mul_le_mul b2 (by omega) b7 (by omega)
  have n2 : lo * top ≤ 4294967295 * 2147483648 := Int.mul_le_mul (by omega) b6 b5 (by omega)
  have n3 : lo * low ≤ 4294967295 * 4294967295 := Int.mul_le_mul (by omega) (by omega) b7 (by omega)
  have s : hi * low = 0 ∨ lo * top = 0 := by
    rcases hz with h | h
    · left; rw [h, Int.zero_mul]
    · right; rw [h, Int.mul_zero]
  simp only [whilomref01_Product.j0]
  rw [ExactProducts.u64 m1 (by omega), ExactProducts.u64 m2 (by omega), ExactProducts.u64 m3 (by omega)]
  generalize hi * low = u at *
  generalize lo * top = v at *
  generalize lo * low = t at *
  rw [ExactProducts.u64 (n := u + v) (by omega) (by omega)]
  simp only [Bool.false_eq_true, if_false]
  by_cases c1 : u + v > 4294967295
  · rw [if_pos c1, ExactProducts.big (by omega)]
  rw [if_neg c1, ExactProducts.u64 (n := (u + v) * 4294967296) (by omega) (by omega)]
  rw [ExactProducts.u64 (n := 18446744073709551615 - (u + v) * 4294967296) (by omega) (by omega)]
  by_cases c2 : t > 18446744073709551615 - (u + v) * 4294967296
  · rw [if_pos c2, ExactProducts.big (by omega)]
  rw [if_neg c2, ExactProducts.u64 (n := t + (u + v) * 4294967296) (by omega) (by omega)]
  have ez : t + (u + v) * 4294967296 = ((a * b).natAbs : Int) := by omega
  rw [ez, ← ExactProducts.signed_eq]
  unfold ExactProducts.signed
  generalize hc : ((a * b).natAbs : Int) = z at *
  by_cases s : (a < 0) = (b < 0)
  · rw [if_pos s, if_neg (by simp [s])]
    by_cases g : z > 9223372036854775807
    · rw [if_pos g, if_pos g]
    · rw [if_neg g, if_neg g, wrap_in (by unfold In; omega)]
  · have s' : ((decide (a < 0)) != (decide (b < 0))) = true := by
      rw [bne_iff_ne, ne_eq, decide_eq_decide]; intro h; exact s (propext h)
    rw [if_neg s, if_pos s']
    by_cases g : z > 9223372036854775808
    · rw [if_pos g, if_pos g]
    · rw [if_neg g, if_neg g]
      have : wrap64 (IntKind.u64.wrap (-z)) = -z := by
        rw [IntKind.wrap_u64]; unfold wrap64; omega
      rw [this]

theorem ExactProducts.product (k : Nat) {a b : Int} (ha : In a) (hb : In b) : whilomref01_Product.f (k + 1) a b = some (if In (a * b) then (a * b, true) else (0, false)) := by
  unfold whilomref01_Product.f
  rw [ExactProducts.size ha, ExactProducts.size hb]
  simp only [Option.bind_some]
  have hx : a.natAbs ≤ 9223372036854775808 := by unfold In at ha; omega
  have hy : b.natAbs ≤ 9223372036854775808 := by unfold In at hb; omega
  have habs : ((a * b).natAbs : Int) = (a.natAbs : Int) * (b.natAbs : Int) := by rw [Int.natAbs_mul]; rfl
  generalize a.natAbs = x at *
  generalize b.natAbs = y at *
  have d1 : Int.tdiv (x : Int) 4294967296 = (x : Int) / 4294967296 := Int.tdiv_eq_ediv_of_nonneg (by omega)
  have d2 : Int.tdiv (y : Int) 4294967296 = (y : Int) / 4294967296 := Int.tdiv_eq_ediv_of_nonneg (by omega)
  have d3 : Int.tmod (x : Int) 4294967296 = (x : Int) % 4294967296 := Int.tmod_eq_emod_of_nonneg (by omega)
  have d4 : Int.tmod (y : Int) 4294967296 = (y : Int) % 4294967296 := Int.tmod_eq_emod_of_nonneg (by omega)
  rw [d1, d2, d3, d4, ExactProducts.u64 (n := (x : Int) / 4294967296) (by omega) (by omega), ExactProducts.u64 (n := (y : Int) / 4294967296) (by omega) (by omega)]
  have ex : (x : Int) = ((x : Int) / 4294967296) * 4294967296 + (x : Int) % 4294967296 := by omega
  have ey : (y : Int) = ((y : Int) / 4294967296) * 4294967296 + (y : Int) % 4294967296 := by omega
  have b1 : 0 ≤ (x : Int) / 4294967296 := by omega
  have b2 : (x : Int) / 4294967296 ≤ 2147483648 := by omega
  have b3 : 0 ≤ (x : Int) % 4294967296 := by omega
  have b4 : (x : Int) % 4294967296 < 4294967296 := by omega
  have b5 : 0 ≤ (y : Int) / 4294967296 := by omega
  have b6 : (y : Int) / 4294967296 ≤ 2147483648 := by omega
  have b7 : 0 ≤ (y : Int) % 4294967296 := by omega
  have b8 : (y : Int) % 4294967296 < 4294967296 := by omega
  rw [ex, ey] at habs
  generalize (x : Int) / 4294967296 = hi at *
  generalize (x : Int) % 4294967296 = lo at *
  generalize (y : Int) / 4294967296 = top at *
  generalize (y : Int) % 4294967296 = low at *
  have expand : (hi * 4294967296 + lo) * (top * 4294967296 + low) = (hi * top) * 18446744073709551616 + ((hi * low + lo * top) * 4294967296 + lo * low) := by
    rw [Int.add_mul, Int.mul_add, Int.mul_add]
    have e1 : hi * 4294967296 * (top * 4294967296) = (hi * top) * 18446744073709551616 := by
      rw [Int.mul_assoc, Int.mul_left_comm 4294967296 top, ← Int.mul_assoc]; omega
    have e2 : hi * 4294967296 * low = (hi * low) * 4294967296 := by rw [Int.mul_assoc, Int.mul_comm 4294967296 low, ← Int.mul_assoc]
    have e3 : lo * (top * 4294967296) = (lo * top) * 4294967296 := by rw [Int.mul_assoc]
    rw [e1, e2, e3]; omega
  rw [expand] at habs
  by_cases c1 : hi > 0
  · rw [if_pos c1]
    by_cases c2 : top > 0
    · rw [decide_eq_true c2]
      simp only [whilomref01_Product.j0, if_true]
      have one : 1 ≤ hi * top := Int.mul_pos c1 c2
      have m1 : 0 ≤ hi * low := Int.mul_nonneg b1 b7
      have m2 : 0 ≤ lo * top := Int.mul_nonneg b3 b5
      have m3 : 0 ≤ lo * low := Int.mul_nonneg b3 b7
      rw [ExactProducts.big (by omega)]
    · rw [decide_eq_false c2]
      have z : top = 0 := by omega
      refine ExactProducts.round k a b hi lo top low b1 b2 b3 b4 b5 b6 b7 b8 (Or.inr z) ?_
      rw [habs, z, Int.mul_zero]; omega
  · rw [if_neg c1]
    have z : hi = 0 := by omega
    refine ExactProducts.round k a b hi lo top low b1 b2 b3 b4 b5 b6 b7 b8 (Or.inl z) ?_
    rw [habs, z, Int.zero_mul, Int.zero_mul]; omega

theorem ExactProducts : whilomlaw01_ExactProducts.Pure := by
  intro a b w0 w1
  have ha := ExactProducts.wfIn w0
  have hb := ExactProducts.wfIn w1
  refine ⟨1, ?_⟩
  unfold whilomlaw01_ExactProducts.f
  rw [ExactProducts.awake, ExactProducts.mul 0 ha hb, ExactProducts.product 0 ha hb]
  simp

end Go.Proofs.Ytfkbijkmdnieiaa.Pure
