/- Times and handles: the law over an argument's memory. No conditions. -/
import Derived.Test.YtccfjjaljckinaaLawTimesM
import Derived.Test.YtccfjjaljckinaaRawM
namespace Go.Proofs.Ytccfjjaljckinaa.Tag
open Go.RowKit Go.Lib Go.Shelf Go.Deep Go.ChangeShapes Go.WideShapes Go.Proofs.Ytccfjjaljckinaa.Mem Go.Proofs.Ytccfjjaljckinaa.IMap Go.Proofs.YtccfjjaljckinaaW.PrintWords Go.Proofs.Ytccfjjaljckinaa.Open
theorem row_times (A : Option Addr) (len cap : Nat) (xs : List RawA) (w : World) (hc : kdA.C w A len xs) (_ : len ≤ cap) (hw : ∀ y ∈ xs, wfA y) :
    Calls Try.prog 5 #[.slice A len cap] w fun e w' => e = .returned (.bool true) ∧ Below w.heap.size w w' := by
  by_cases hb : 50 < len
  · exact times_long A len cap w hb
  · have hlen := Kd.C_len hc
    have := times_short A cap (xs.map actOf) w (acts_of hc) (fits_acts hw) (by rw [List.length_map]; omega)
    rw [List.length_map, hlen] at this
    exact this
end Go.Proofs.Ytccfjjaljckinaa.Tag
