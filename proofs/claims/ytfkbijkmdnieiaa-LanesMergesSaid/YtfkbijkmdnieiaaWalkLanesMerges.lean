/- The law on merged lanes answers true, at any lanes. No conditions. -/
import Derived.Test.YtfkbijkmdnieiaaPureLanesMerges
namespace Go.Proofs.Ytfkbijkmdnieiaa.WalkLanesMerges
open Go.RowKit Go.Proofs.Ytfkbijkmdnieiaa.PLanesMerges Go.Proofs.YtfkbijkmdnieiaaW.PrintWords

theorem walk {p : List (List ByteArray) → Prop} (A : Option Addr) (len cap : Nat) (L : List (List ByteArray)) (w : World) (hr : Kd.C (Kd.slice 9 Kd.string) w A len L) (hl : len ≤ cap) (_ : p L) :
    Calls Try.prog 5 #[.slice A len cap] w fun e w' => e = .returned (.bool true) ∧ Below w.heap.size w w' := by
  obtain ⟨k, hk⟩ := Pure.LanesMerges.holds L
  have e := Kd.C_len hr
  subst e
  exact whilomlaw27_LanesMerges.calls k A cap L true w hr hl hk

end Go.Proofs.Ytfkbijkmdnieiaa.WalkLanesMerges
