/- The box is awake: the law's own trial answers true. No conditions. -/
import Derived.Test.YtfkbijkmdnieiaaBoxTake
namespace Go.Proofs.Ytfkbijkmdnieiaa.BoxInt
open Go.RowKit Go.Conc Go.Proofs.Ytfkbijkmdnieiaa.Mem Go.Proofs.YtfkbijkmdnieiaaW.PrintWords

/-- A box that a call has made lies above what was there. -/
def Over (w : World) (B C D : Nat) : Prop := w.heap.size ≤ B ∧ w.heap.size ≤ C ∧ w.heap.size ≤ D

set_option maxRecDepth 100000 in
set_option maxHeartbeats 2000000 in
theorem awake (w : World) : Calls Try.prog 44 #[] w fun e w' => e = .returned (.bool true) ∧ Below w.heap.size w w' := by
  go_enter Try.func44, Try.ntmps44
  go_wp2_with fail
  refine (new 2 _).mono ?_
  rintro e w1 ⟨B, C, D, rfl, hp, hc, hB, hC, hD⟩
  have hp : IsBox w1 B C D 2 [] false := hp
  have HP1 := Lib.hid hp
  have HB1 : Hid (Below w.heap.size w w1) := hc.onto (Below.refl _ _) (Nat.le_refl _) (by simp)
  have HN : Hid (∀ k, k < w.heap.size → ¬ k = C) := by intro k hk; omega
  clear hp hc hB hC hD
  go_wp2_with fail
  refine (offer_room B C D 2 [] 1 _ HP1.out (by decide)).mono ?_
  rintro e w2 ⟨rfl, hp, hc⟩
  have HP2 := Lib.hid hp
  have HB2 : Hid (Below w.heap.size w w2) := hc.onto HB1.out (Nat.le_refl _) HN.out
  clear hp hc HP1 HB1
  go_wp2_with fail
  refine (offer_room B C D 2 [1] 2 _ HP2.out (by decide)).mono ?_
  rintro e w3 ⟨rfl, hp, hc⟩
  have HP3 := Lib.hid hp
  have HB3 : Hid (Below w.heap.size w w3) := hc.onto HB2.out (Nat.le_refl _) HN.out
  clear hp hc HP2 HB2
  go_wp2_with fail
  refine (offer_full B C D 2 [1, 2] 3 _ HP3.out rfl).mono ?_
  rintro e w4 ⟨rfl, rfl⟩
  go_wp2_with fail
  refine (take_some B C D 2 1 [2] false _ HP3.out).mono ?_
  rintro e w5 ⟨rfl, hp, hc⟩
  have HP5 := Lib.hid hp
  have HB5 : Hid (Below w.heap.size w w5) := hc.onto HB3.out (Nat.le_refl _) HN.out
  clear hp hc HP3 HB3
  go_wp2_with fail
  refine (len B C D 2 [2] false _ HP5.out).mono ?_
  rintro e w6 ⟨rfl, rfl⟩
  go_wp2
  go_ret
  exact ⟨rfl, HB5.out⟩
end Go.Proofs.Ytfkbijkmdnieiaa.BoxInt
