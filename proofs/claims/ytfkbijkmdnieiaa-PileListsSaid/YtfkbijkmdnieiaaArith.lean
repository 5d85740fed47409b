/- Plain facts on whole numbers of 64 bits, without Go: where sums, products and halves lie. No conditions. -/
import Derived.RowKit
import Derived.OpenShut
namespace Go.Proofs.Ytfkbijkmdnieiaa.Arith
open Go.RowKit

def In (n : Int) : Prop := -9223372036854775808 ≤ n ∧ n ≤ 9223372036854775807
instance (n : Int) : Decidable (In n) := by unfold In; infer_instance

theorem wrap_in {n : Int} (h : In n) : wrap64 n = n := by unfold In at h; unfold wrap64; omega
theorem wrap_is (n : Int) : In (wrap64 n) := by unfold In wrap64; omega
theorem wrap_mod (n : Int) : ∃ m : Int, wrap64 n = n + 18446744073709551616 * m := by
  unfold wrap64
  refine ⟨-((n + 9223372036854775808) / 18446744073709551616), ?_⟩
  omega

theorem add_yes {a b : Int} (h : In (a + b)) : ((decide (wrap64 (a + b) > a)) == (decide (b > 0))) = true := by
  rw [wrap_in h, beq_iff_eq, decide_eq_decide]; omega
theorem add_no {a b : Int} (ha : In a) (hb : In b) (h : ¬ In (a + b)) : ((decide (wrap64 (a + b) > a)) == (decide (b > 0))) = false := by
  unfold In at *
  rw [beq_eq_false_iff_ne, ne_eq, decide_eq_decide]; unfold wrap64; omega
theorem sub_yes {a b : Int} (h : In (a - b)) : ((decide (wrap64 (a - b) < a)) == (decide (b > 0))) = true := by
  rw [wrap_in h, beq_iff_eq, decide_eq_decide]; omega
theorem sub_no {a b : Int} (ha : In a) (hb : In b) (h : ¬ In (a - b)) : ((decide (wrap64 (a - b) < a)) == (decide (b > 0))) = false := by
  unfold In at *
  rw [beq_eq_false_iff_ne, ne_eq, decide_eq_decide]; unfold wrap64; omega

theorem tdiv_abs_le (c b : Int) : (c.tdiv b).natAbs * b.natAbs ≤ c.natAbs := by
  rw [Int.natAbs_tdiv]; exact Nat.div_mul_le_self _ _

theorem mul_yes {a b : Int} (ha : In a) (hb : b ≠ 0) (h : In (a * b)) : wrap64 (Int.tdiv (wrap64 (a * b)) b) = a := by
  rw [wrap_in h, Int.mul_tdiv_cancel _ hb, wrap_in ha]

theorem mul_no {a b : Int} (hb : In b) (h0 : b ≠ 0) (h1 : b ≠ -1) (h : ¬ In (a * b)) : wrap64 (Int.tdiv (wrap64 (a * b)) b) ≠ a := by
  intro e
  obtain ⟨m, hm⟩ := wrap_mod (a * b)
  have hc := wrap_is (a * b)
  generalize hcc : wrap64 (a * b) = c at *
  have hq : In (c.tdiv b) := by
    have := tdiv_abs_le c b
    by_cases hb1 : b.natAbs ≤ 1
    · have : b = 1 := by omega
      subst this; rw [Int.tdiv_one]; exact hc
    · have h2 : (c.tdiv b).natAbs * 2 ≤ c.natAbs := Nat.le_trans (Nat.mul_le_mul_left _ (by omega)) this
      unfold In at hc ⊢; omega
  rw [wrap_in hq] at e
  have hd := Int.mul_tdiv_add_tmod c b
  rw [e] at hd
  have hr : (c.tmod b).natAbs < b.natAbs := by
    rw [Int.natAbs_tmod]; exact Nat.mod_lt _ (by omega)
  rw [Int.mul_comm b a] at hd
  apply h
  unfold In at hb
  have : c.tmod b = 18446744073709551616 * m := by omega
  have hm0 : m = 0 := by omega
  subst hm0
  have : a * b = c := by omega
  rw [this]; exact hc

theorem mul_min {a : Int} (ha : In a) : In (a * -1) ↔ a ≠ -9223372036854775808 := by unfold In at *; omega

theorem tdiv2 (a : Int) : Int.tdiv a 2 = if 0 ≤ a then a / 2 else -((-a) / 2) := by
  split
  · rw [Int.tdiv_eq_ediv_of_nonneg ‹_›]
  · have h := Int.neg_tdiv (a := -a) (b := 2)
    rw [Int.neg_neg] at h
    rw [h, Int.tdiv_eq_ediv_of_nonneg (by omega)]
theorem tmod2 (a : Int) : Int.tmod a 2 = a - 2 * Int.tdiv a 2 := by
  have := Int.mul_tdiv_add_tmod a 2; omega

theorem nat_sum : ∀ (n x y : Nat), x < 2 ^ n → x + y = 2 * (x &&& y) + (x ^^^ y) := by
  intro n
  induction n with
  | zero => intro x y hx; have : x = 0 := by simpa using hx
            subst this; simp
  | succ n ih =>
    intro x y hx
    have h := ih (x / 2) (y / 2) (by rw [Nat.pow_succ] at hx; omega)
    have e1 : (x &&& y) / 2 = (x / 2) &&& (y / 2) := Nat.and_div_two
    have e2 : (x ^^^ y) / 2 = (x / 2) ^^^ (y / 2) := Nat.xor_div_two
    have m1 : (x &&& y) % 2 = 1 ↔ (x % 2 = 1 ∧ y % 2 = 1) := by
      have := Nat.testBit_and x y 0
      simp [Nat.testBit_zero] at this
      have := Nat.and_mod_two_eq_one (a := x) (b := y)
      exact this
    have m2 : (x ^^^ y) % 2 = 1 ↔ (¬ (x % 2 = 1 ↔ y % 2 = 1)) := by
      exact Nat.xor_mod_two_eq_one
    omega

theorem bv_sum (x y : BitVec 64) : x.toNat + y.toNat = 2 * (x &&& y).toNat + (x ^^^ y).toNat := by
  rw [BitVec.toNat_and, BitVec.toNat_xor]; exact nat_sum 64 _ _ x.isLt

theorem and_top (x y : BitVec 64) : (9223372036854775808 ≤ (x &&& y).toNat) ↔ (9223372036854775808 ≤ x.toNat ∧ 9223372036854775808 ≤ y.toNat) := by
  have h := BitVec.msb_and (x := x) (y := y)
  rw [BitVec.msb_eq_decide, BitVec.msb_eq_decide, BitVec.msb_eq_decide] at h
  simp at h
  by_cases h1 : 9223372036854775808 ≤ (x &&& y).toNat <;> by_cases h2 : 9223372036854775808 ≤ x.toNat <;> by_cases h3 : 9223372036854775808 ≤ y.toNat <;> simp_all <;> omega
theorem xor_top (x y : BitVec 64) : (9223372036854775808 ≤ (x ^^^ y).toNat) ↔ ¬ (9223372036854775808 ≤ x.toNat ↔ 9223372036854775808 ≤ y.toNat) := by
  have h := BitVec.msb_xor (x := x) (y := y)
  rw [BitVec.msb_eq_decide, BitVec.msb_eq_decide, BitVec.msb_eq_decide] at h
  simp at h
  by_cases h1 : 9223372036854775808 ≤ (x ^^^ y).toNat <;> by_cases h2 : 9223372036854775808 ≤ x.toNat <;> by_cases h3 : 9223372036854775808 ≤ y.toNat <;> simp_all <;> omega

theorem wrap_nat (n : Nat) (h : n < 18446744073709551616) : IntKind.i64.wrap (n : Int) = if 9223372036854775808 ≤ n then (n : Int) - 18446744073709551616 else n := by
  have e : IntKind.i64.wrap (n : Int) = wrap64 n := by
    simp [IntKind.wrap, IntKind.bits, IntKind.signed, wrap64]
    split <;> omega
  rw [e]; unfold wrap64; split <;> omega

theorem ofInt_nat {a : Int} (h : In a) : ((BitVec.ofInt 64 a).toNat : Int) = if 0 ≤ a then a else a + 18446744073709551616 := by
  rw [BitVec.toNat_ofInt]; unfold In at h
  have : ((2 ^ 64 : Nat) : Int) = 18446744073709551616 := by decide
  rw [this]
  split <;> omega

theorem mid_eq {a b : Int} (ha : In a) (hb : In b) : wrap64 ((Go.bits .and .i64 a b) + ((Go.bits .xor .i64 a b) / 2)) = (a + b) / 2 := by
  have s := bv_sum (BitVec.ofInt 64 a) (BitVec.ofInt 64 b)
  have t1 := and_top (BitVec.ofInt 64 a) (BitVec.ofInt 64 b)
  have t2 := xor_top (BitVec.ofInt 64 a) (BitVec.ofInt 64 b)
  have n1 := ofInt_nat ha
  have n2 := ofInt_nat hb
  have l1 := (BitVec.ofInt 64 a &&& BitVec.ofInt 64 b).isLt
  have l2 := (BitVec.ofInt 64 a ^^^ BitVec.ofInt 64 b).isLt
  have e1 : Go.bits .and .i64 a b = IntKind.i64.wrap ((BitVec.ofInt 64 a &&& BitVec.ofInt 64 b).toNat : Int) := rfl
  have e2 : Go.bits .xor .i64 a b = IntKind.i64.wrap ((BitVec.ofInt 64 a ^^^ BitVec.ofInt 64 b).toNat : Int) := rfl
  rw [e1, e2, wrap_nat _ (by omega), wrap_nat _ (by omega)]
  generalize (BitVec.ofInt 64 a &&& BitVec.ofInt 64 b).toNat = p at *
  generalize (BitVec.ofInt 64 a ^^^ BitVec.ofInt 64 b).toNat = q at *
  generalize (BitVec.ofInt 64 a).toNat = u at *
  generalize (BitVec.ofInt 64 b).toNat = v at *
  unfold In at ha hb
  have : In ((a + b) / 2) := by unfold In; omega
  rw [← wrap_in this]
  congr 1
  split at n1 <;> split at n2 <;> split <;> split <;> omega

end Go.Proofs.Ytfkbijkmdnieiaa.Arith
