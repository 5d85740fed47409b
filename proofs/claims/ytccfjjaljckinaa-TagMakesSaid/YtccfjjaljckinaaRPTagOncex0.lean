/- Texts of this claim. No conditions. -/
import Derived.Test.YtccfjjaljckinaaProg
import Derived.Below
import Derived.Deep.Draws
import Derived.Deep.AppendLies
import Derived.Maps.AppendAt
import Derived.OwnWalk
import Derived.Laws.BytesArg
import Derived.Laws.MakeOwn
import Derived.Laws.OwnMore
import Derived.Deep.OwnRows
import Derived.Tactics
import Derived.Lib.ConvBytes
import Derived.Laws.Slices
import Derived.WalkKit
import Derived.KernelRfl
import Derived.RowKit3
import Derived.Deep.LoopGhost
import Derived.Deep.QuietTactic
import Derived.BigQuiet
import Derived.WideLaws
import Derived.Deep.DeepCutAuto
import Derived.Deep.CutBlock
import Derived.Deep.RegionHeld3
import Derived.Laws.Rows
import Derived.Lib.AppendStr
import Derived.ArgAppend
import Derived.Laws.IdiomCopy
import Derived.OrdersHeld
import Derived.Laws.BitsLemmas
import Derived.RowKit
import Derived.Test.YtccfjjaljckinaaRWWords
import Derived.Test.YtccfjjaljckinaaRWLast
import Derived.Test.YtccfjjaljckinaaRWTab
import Derived.Test.YtccfjjaljckinaaRWApart
import Derived.Test.YtccfjjaljckinaaRWFoot
import Derived.Test.YtccfjjaljckinaaRWKept
import Derived.Test.YtccfjjaljckinaaRWShare
import Derived.Test.YtccfjjaljckinaaRWN
import Derived.Test.YtccfjjaljckinaaRWEqStruct
import Derived.Test.YtccfjjaljckinaaRWRepsOne
import Derived.Test.YtccfjjaljckinaaRWInv
import Derived.Test.YtccfjjaljckinaaRWMore
-- PRINTED BY print.sh 35421559b90ae4d0a3588c463048766b98c2df88dd9212a6774a882060cdf62d: not written by this session
namespace Go.Proofs.Ytccfjjaljckinaa.PTagOnce
open Go.RowKit Go.Proofs.YtccfjjaljckinaaW.PrintWords Go.Proofs.YtccfjjaljckinaaW.PrintLast Go.Proofs.YtccfjjaljckinaaW.PrintMore
attribute [local go_sem] max2_int min2_int max_two min_two max_three min_three max_four min_four   -- for this text's walks alone
set_option linter.unusedVariables false
set_option linter.unusedSimpArgs false



def errW : Option Int → Value
  | none => .nilIface
  | some c => .iface 0 (.int .i64 c)
theorem errW_none : errW none = .nilIface := rfl
theorem errW_some (c : Int) : errW (some c) = .iface 0 (.int .i64 c) := rfl

-- the values' own types

end Go.Proofs.Ytccfjjaljckinaa.PTagOnce
