/- Whatever is issued, dropped, revived and moved: the law over an argument's memory. No conditions. -/
import Derived.Test.YtccfjjaljckinaaLawActsM
import Derived.Test.YtccfjjaljckinaaRawM
namespace Go.Proofs.Ytccfjjaljckinaa.Tag
open Go.RowKit Go.Lib Go.Shelf Go.Deep Go.ChangeShapes Go.WideShapes Go.Proofs.Ytccfjjaljckinaa.Mem Go.Proofs.Ytccfjjaljckinaa.IMap Go.Proofs.YtccfjjaljckinaaW.PrintWords Go.Proofs.Ytccfjjaljckinaa.Open
theorem row_acts (c0 : Int) (A : Option Addr) (len cap : Nat) (xs : List RawA) (w : World) (_ : (Lit.int .i64 c0).wf = true) (hc : kdA.C w A len xs) (_ : len ≤ cap) (hw : ∀ y ∈ xs, wfA y) :
    Calls Try.prog 6 #[.int .i64 c0, .slice A len cap] w fun e w' => e = .returned (.bool true) ∧ Below w.heap.size w w' := by
  by_cases hb : 50 < len
  · exact acts_long c0 A len cap w hb
  · have hlen := Kd.C_len hc
    have := acts_short c0 A cap (xs.map actOf) w (acts_of hc) (fits_acts hw) (by rw [List.length_map]; omega)
    rw [List.length_map, hlen] at this
    exact this
end Go.Proofs.Ytccfjjaljckinaa.Tag
