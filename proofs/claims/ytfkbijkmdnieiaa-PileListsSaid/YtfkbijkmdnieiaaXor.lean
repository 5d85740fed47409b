/- x xor 1 xor 1 is x, of any whole number of 64 bits. No conditions. -/
import Derived.Test.YtfkbijkmdnieiaaArith
namespace Go.Proofs.Ytfkbijkmdnieiaa.Arith
open Go.RowKit

theorem i64_toInt (b : BitVec 64) : IntKind.i64.wrap (b.toNat : Int) = b.toInt := by
  have h := b.isLt
  rw [wrap_nat _ (by omega), BitVec.toInt_eq_toNat_cond]
  split <;> split <;> omega

theorem ofInt_wrap (b : BitVec 64) : BitVec.ofInt 64 (IntKind.i64.wrap (b.toNat : Int)) = b := by
  rw [i64_toInt, BitVec.ofInt_toInt]

theorem toInt_ofInt {a : Int} (h : In a) : (BitVec.ofInt 64 a).toInt = a := by
  have := ofInt_nat h
  rw [BitVec.toInt_eq_toNat_cond]
  unfold In at h
  split at this <;> split <;> omega

theorem xor_back {a b : Int} (h : In a) : Go.bits .xor .i64 (Go.bits .xor .i64 a b) b = a := by
  have e1 : ∀ x y : Int, Go.bits .xor .i64 x y = IntKind.i64.wrap ((BitVec.ofInt 64 x ^^^ BitVec.ofInt 64 y).toNat : Int) := fun _ _ => rfl
  rw [e1, e1, ofInt_wrap, BitVec.xor_assoc, BitVec.xor_self, BitVec.xor_zero, i64_toInt, toInt_ofInt h]

end Go.Proofs.Ytfkbijkmdnieiaa.Arith
