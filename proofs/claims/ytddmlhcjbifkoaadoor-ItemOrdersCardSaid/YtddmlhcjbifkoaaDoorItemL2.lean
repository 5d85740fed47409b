/- The order of items in the row's form. No conditions. -/
import Derived.Test.YtddmlhcjbifkoaaDoorItemL
import Derived.Test.YtddmlhcjbifkoaaDoorItem7
namespace Go.Proofs.YtddmlhcjbifkoaaDoor.Item
open Go Go.RowKit Go.Proofs.YtddmlhcjbifkoaaDoor.Mem Go.Proofs.YtddmlhcjbifkoaaDoorW.PrintWords
theorem row_orders (z y x : Int × Int) (w : World) (_ : True) (_ : (Lit.int .i64 z.1).wf = true ∧ (Lit.int .i64 z.2).wf = true) (_ : True) (_ : (Lit.int .i64 y.1).wf = true ∧ (Lit.int .i64 y.2).wf = true) (_ : True) (_ : (Lit.int .i64 x.1).wf = true ∧ (Lit.int .i64 x.2).wf = true) (he : Env w) :
    Calls Tryd.prog 7 #[.agg #[.int .i64 z.1, .int .i64 z.2], .agg #[.int .i64 y.1, .int .i64 y.2], .agg #[.int .i64 x.1, .int .i64 x.2]] w fun e w' => e = .returned (.bool true) ∧ Below w.heap.size w w' := law_orders z.1 z.2 y.1 y.2 x.1 x.2 w he
end Go.Proofs.YtddmlhcjbifkoaaDoor.Item
