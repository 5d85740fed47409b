/- The law of unlike items in the row's form. No conditions. -/
import Derived.Test.YtddmlhcjbifkoaaDoorItemL
import Derived.Test.YtddmlhcjbifkoaaDoorItem8
namespace Go.Proofs.YtddmlhcjbifkoaaDoor.Item
open Go Go.RowKit Go.Proofs.YtddmlhcjbifkoaaDoor.Mem Go.Proofs.YtddmlhcjbifkoaaDoorW.PrintWords
theorem row_apart (z y : Int × Int) (w : World) (_ : True) (hz : (Lit.int .i64 z.1).wf = true ∧ (Lit.int .i64 z.2).wf = true) (_ : True) (hy : (Lit.int .i64 y.1).wf = true ∧ (Lit.int .i64 y.2).wf = true) (he : Env w) :
    Calls Tryd.prog 10 #[.agg #[.int .i64 z.1, .int .i64 z.2], .agg #[.int .i64 y.1, .int .i64 y.2]] w fun e w' => e = .returned (.bool true) ∧ Below w.heap.size w w' := law_apart z.1 z.2 y.1 y.2 w (in64 hz.1) (in64 hz.2) (in64 hy.1) (in64 hy.2) he
end Go.Proofs.YtddmlhcjbifkoaaDoor.Item
