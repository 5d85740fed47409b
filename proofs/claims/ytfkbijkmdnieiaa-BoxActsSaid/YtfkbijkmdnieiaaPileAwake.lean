/- The document's example of a pile: the law's first question answers true. No conditions. -/
import Derived.Test.YtfkbijkmdnieiaaPileInt3
namespace Go.Proofs.Ytfkbijkmdnieiaa.PileInt
open Go.RowKit Go.Proofs.Ytfkbijkmdnieiaa.Mem Go.Proofs.Ytfkbijkmdnieiaa.Ring

/-- Pop, whatever the pile holds. -/
theorem pop (B R L f : Nat) (vs : List Int) (w : World) (h : P w B R L f vs) :
    Calls Try.prog 35 #[.pointer (some ⟨B, 0, none⟩)] w fun e w' =>
      e = .returned (.tuple #[.int .i64 (vs.getLast?.getD 0), .bool vs.getLast?.isSome]) ∧ P w' B R L f vs.dropLast ∧ Chg (fun k => k = B ∨ k = R) w w' := by
  cases hv : vs.getLast? with
  | none =>
    obtain rfl : vs = [] := by simpa using hv
    exact pop_none B R L f w h
  | some v => exact pop_some B R L f vs v w h hv

theorem top (B R L f : Nat) (vs : List Int) (w : World) (h : P w B R L f vs) :
    Calls Try.prog 53 #[.pointer (some ⟨B, 0, none⟩)] w fun e w' =>
      e = .returned (.tuple #[.int .i64 (vs.getLast?.getD 0), .bool vs.getLast?.isSome]) ∧ ∃ n, w' = w.drewN n := by
  cases hv : vs.getLast? with
  | none =>
    obtain rfl : vs = [] := by simpa using hv
    exact top_none B R L f w h
  | some v => exact top_some B R L f vs v w h hv

set_option maxRecDepth 100000 in
set_option maxHeartbeats 1000000 in
theorem awake (w : World) : Calls Try.prog 32 #[] w fun e w' => e = .returned (.bool true) ∧ Below w.heap.size w w' := by
  go_enter Try.func32, Try.ntmps32
  go_wp2_with fail
  refine (new 2 _).mono ?_
  rintro e w1 ⟨B, R, rfl, hp, hc, hB, hR⟩
  have hN : ∀ k, k < w.heap.size → ¬ (k = B ∨ k = R) := by intro k hk; omega
  have HN := Lib.hid hN; clear hN
  have HB1 := Lib.hid (hc.onto (Below.refl w.heap.size w) (Nat.le_refl _) (by simp)); have HP1 := Lib.hid hp; clear hp hc
  go_wp2_with fail
  refine (push_room B R 2 0 [] 1 _ HP1.out (by decide)).mono ?_
  rintro e w2 ⟨rfl, hp, hc⟩
  have HB2 := Lib.hid (hc.onto HB1.out (Nat.le_refl _) HN.out); have HP2 := Lib.hid hp; clear hp hc
  go_wp2_with fail
  refine (push_room B R 2 0 [1] 2 _ HP2.out (by decide)).mono ?_
  rintro e w3 ⟨rfl, hp, hc⟩
  have HB3 := Lib.hid (hc.onto HB2.out (Nat.le_refl _) HN.out); have HP3 := Lib.hid hp; clear hp hc
  go_wp2_with fail
  refine (push_full B R 2 0 [1, 2] 3 1 _ HP3.out (by decide) rfl).mono ?_
  rintro e w4 ⟨rfl, hp, hc⟩
  have HB4 := Lib.hid (hc.onto HB3.out (Nat.le_refl _) HN.out); have HP4 := Lib.hid hp; clear hp hc
  go_wp2_with fail
  refine (pop_some B R 2 _ [2, 3] 3 _ HP4.out rfl).mono ?_
  rintro e w5 ⟨rfl, hp, hc⟩
  have HB5 := Lib.hid (hc.onto HB4.out (Nat.le_refl _) HN.out); have HP5 := Lib.hid hp; clear hp hc
  go_wp2_with fail
  refine (len B R 2 _ [2] _ HP5.out).mono ?_
  rintro e w6 ⟨rfl, rfl⟩
  go_wp2
  go_ret
  exact ⟨rfl, HB5.out⟩
end Go.Proofs.Ytfkbijkmdnieiaa.PileInt
