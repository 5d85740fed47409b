-- PRINTED BY print.sh 35421559b90ae4d0a3588c463048766b98c2df88dd9212a6774a882060cdf62d: not written by this session
import Derived.Test.YtddmlhcjbifkoaaDoorProg
import Derived.Below
import Derived.Deep.Draws
import Derived.Deep.AppendLies
import Derived.Maps.AppendAt
import Derived.OwnWalk
import Derived.Laws.BytesArg
import Derived.Laws.MakeOwn
import Derived.Laws.OwnMore
import Derived.Deep.OwnRows
import Derived.Tactics
import Derived.Lib.ConvBytes
import Derived.Laws.Slices
import Derived.WalkKit
import Derived.KernelRfl
import Derived.RowKit3
import Derived.Deep.LoopGhost
import Derived.Deep.QuietTactic
import Derived.BigQuiet
import Derived.WideLaws
import Derived.Deep.DeepCutAuto
import Derived.Deep.CutBlock
import Derived.Deep.RegionHeld3
import Derived.Laws.Rows
import Derived.Lib.AppendStr
import Derived.ArgAppend
import Derived.Laws.IdiomCopy
import Derived.OrdersHeld
import Derived.Laws.BitsLemmas
import Derived.RowKit
import Derived.Test.YtddmlhcjbifkoaaDoorWWords
import Derived.Test.YtddmlhcjbifkoaaDoorWLast
import Derived.Test.YtddmlhcjbifkoaaDoorWTab
import Derived.Test.YtddmlhcjbifkoaaDoorWFour
import Derived.Test.YtddmlhcjbifkoaaDoorWQPut
import Derived.Test.YtddmlhcjbifkoaaDoorWApart
import Derived.Test.YtddmlhcjbifkoaaDoorWArr
import Derived.Test.YtddmlhcjbifkoaaDoorWZeros
import Derived.Test.YtddmlhcjbifkoaaDoorWFoot
import Derived.Test.YtddmlhcjbifkoaaDoorWKept
import Derived.Test.YtddmlhcjbifkoaaDoorWShare
import Derived.Test.YtddmlhcjbifkoaaDoorWN
import Derived.Test.YtddmlhcjbifkoaaDoorWFootNe
import Derived.Test.YtddmlhcjbifkoaaDoorWAt
import Derived.Test.YtddmlhcjbifkoaaDoorWEqStruct
import Derived.Test.YtddmlhcjbifkoaaDoorWRepsOne
import Derived.Test.YtddmlhcjbifkoaaDoorWInv
import Derived.Test.YtddmlhcjbifkoaaDoorWInvWords
import Derived.Test.YtddmlhcjbifkoaaDoorWGuard
import Derived.Test.YtddmlhcjbifkoaaDoorWNEv
import Derived.Test.YtddmlhcjbifkoaaDoorWMore
namespace Go.Proofs.YtddmlhcjbifkoaaDoor.PItemReads
open Go.RowKit Go.Proofs.YtddmlhcjbifkoaaDoorW.PrintWords Go.Proofs.YtddmlhcjbifkoaaDoorW.PrintLast Go.Proofs.YtddmlhcjbifkoaaDoorW.PrintMore
attribute [local go_sem] max2_int min2_int max_two min_two max_three min_three max_four min_four   -- for this text's walks alone
set_option linter.unusedVariables false
set_option linter.unusedSimpArgs false



def errW : Option Int → Value
  | none => .nilIface
  | some c => .iface 125 (.int .i64 c)
theorem errW_none : errW none = .nilIface := rfl
theorem errW_some (c : Int) : errW (some c) = .iface 125 (.int .i64 c) := rfl

theorem info3 : (Tryd.prog.info? 3).map (fun i => (i.zero, i.size, i.bytes)) = some (some (.int .i64 0), 1, 8) := by kernel_rfl
theorem info5 : (Tryd.prog.info? 5).map (fun i => (i.zero, i.size, i.bytes)) = some (some (.int .u8 0), 1, 1) := by kernel_rfl
-- the values' own types

end Go.Proofs.YtddmlhcjbifkoaaDoor.PItemReads
