/- Texts of this claim. No conditions. -/
import Derived.Test.YtccfjjaljckinaaRPTagOncex0
-- PRINTED BY print.sh 35421559b90ae4d0a3588c463048766b98c2df88dd9212a6774a882060cdf62d: not written by this session
namespace Go.Proofs.Ytccfjjaljckinaa.PTagOnce
open Go.RowKit Go.Proofs.YtccfjjaljckinaaW.PrintWords Go.Proofs.YtccfjjaljckinaaW.PrintLast Go.Proofs.YtccfjjaljckinaaW.PrintMore
attribute [local go_sem] max2_int min2_int max_two min_two max_three min_three max_four min_four   -- for this text's walks alone
set_option linter.unusedVariables false
set_option linter.unusedSimpArgs false

-- NOT PRINTED: function 9 (tag_New)

-- NOT PRINTED: function 24 (tag_Table_Len)

-- NOT PRINTED: function 29 (tag_Table_may)

-- NOT PRINTED: function 45 (tag_slot_45)

-- NOT PRINTED: function 30 (tag_Table_free)

-- NOT PRINTED: function 31 (tag_Table_lay)

-- NOT PRINTED: function 11 (tag_Table_Issue)

-- NOT PRINTED: function 32 (tag_Table_find)

-- NOT PRINTED: function 12 (tag_Table_Drop)

-- NOT PRINTED: function 47 (tag_slot_47)

-- NOT PRINTED: function 33 (tag_Table_known)

-- NOT PRINTED: function 13 (tag_Table_Revive)

-- NOT PRINTED: function 8 (whilomlaw16_awake)

/-! ### whilomref01_Rest: function 10 -/
def whilomref01_Rest.f (a0 : Int) (a1 : Int) : Option (Int) := if a1 = 0 then (none) else (some (Int.tmod (wrap64 ((Int.tmod a0 a1) + a1)) a1))
set_option maxHeartbeats 8000000 in
set_option maxRecDepth 100000 in
theorem whilomref01_Rest.calls (a0 : Int) (a1 : Int) (r : Int) (w : World) (h : whilomref01_Rest.f a0 a1 = some r) :
    Calls Try.prog 10 #[.int .i64 a0, .int .i64 a1] w fun e w' => e = .returned (.int .i64 r) ∧ Drawn0 w w' := by
  have H : (if a1 = 0 then (none) else (some (Int.tmod (wrap64 ((Int.tmod a0 a1) + a1)) a1))) = some r := h
  clear h
  by_cases c3 : a1 = 0
  · rw [if_pos c3] at H
    exact absurd H (by simp)
  · rw [if_neg c3] at H
    have c3b0 : (a1 == 0) = false := beq_eq_false_iff_ne.mpr c3
    have c3b1 : (a1 != 0) = true := bne_iff_ne.mpr c3
    obtain rfl := Option.some.inj H
    go_enter Try.func10, Try.ntmps10
    go_wp2
    go_ret
    exact ⟨by first | rfl | (simp; done) | (simp [*]; done), by repeat (first | exact Drawn0.refl _ | apply Drawn0.step)⟩

-- NOT PRINTED: function 14 (tag_Table_Move)

-- NOT PRINTED: function 15 (tag_Table_Serial)

-- NOT PRINTED: function 3 (whilomlaw16_TagOnce)

end Go.Proofs.Ytccfjjaljckinaa.PTagOnce
