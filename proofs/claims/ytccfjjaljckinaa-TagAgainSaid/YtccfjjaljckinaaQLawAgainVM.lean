/- Made again: the law over its arguments' memory. No conditions. -/
import Derived.Test.YtccfjjaljckinaaQLawAgainM
import Derived.Test.YtccfjjaljckinaaQRawM
namespace Go.Proofs.Ytccfjjaljckinaa.Tag
open Go.RowKit Go.Lib Go.Shelf Go.Deep Go.ChangeShapes Go.WideShapes Go.Proofs.Ytccfjjaljckinaa.Mem Go.Proofs.Ytccfjjaljckinaa.IMap Go.Proofs.YtccfjjaljckinaaW.PrintWords Go.Proofs.Ytccfjjaljckinaa.Open
theorem row_again (A : Option Addr) (len cap : Nat) (xs : List RawA) (A' : Option Addr) (len' cap' : Nat) (ys : List RawA) (w : World) (hc : kdA.C w A len xs) (_ : len ≤ cap) (hw : ∀ y ∈ xs, wfA y) (hc' : kdA.C w A' len' ys) (_ : len' ≤ cap') (hw' : ∀ y ∈ ys, wfA y) :
    Calls Try.prog 7 #[.slice A len cap, .slice A' len' cap'] w fun e w' => e = .returned (.bool true) ∧ Below w.heap.size w w' := by
  by_cases hb : 30 < len
  · exact again_long A A' len cap len' cap' w hb
  by_cases hb' : 20 < len'
  · exact again_long_more A A' len cap len' cap' w hb hb'
  · have hlen := Kd.C_len hc
    have hlen' := Kd.C_len hc'
    have := again_short A A' cap cap' (xs.map actOf) (ys.map actOf) w (acts_of hc) (fits_acts hw) (by rw [List.length_map]; omega) (acts_of hc') (fits_acts hw') (by rw [List.length_map]; omega)
    rw [List.length_map, List.length_map, hlen, hlen'] at this
    exact this
end Go.Proofs.Ytccfjjaljckinaa.Tag
