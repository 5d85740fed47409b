/-
  No cell of these rows narrows 'for every input' (looked for: loops, veiled, ifaces, maps, wideKeys, modest, calm, conditions, laid).
  DERIVED. THE GIVEN ROWS OF THIS SEAT. 14 by the template 'for every input the law returns true; each argument reads behind the call as it read before'; 0 by the template 'total and deterministic' (their statements: YtfkbijkmdnieiaaTotals.lean).
  GIVEN WITH THE SEED: the statements are not yours to turn. If you find one false, say at which input.
  Laid BY PROGRAM, IN A SANDBOX (cutbox-rows.mjs): the forced cells as the released guide's own fill.sh prints them over the translation 5066a5780e5c5960… (all of the seat's roots in one cut). By AI agents, Wed Nov 11 2026. No macro, syntax, notation, axiom, sorry.
-/
import Derived.Test.YtfkbijkmdnieiaaChecked
import GoSem.Claim
import GoSem.ClaimJoined
import GoSem.ClaimMapViews
import Derived.JoinedTies
import Derived.KernelRfl
namespace Go.Proofs.Ytfkbijkmdnieiaa
/- THE CELL 'sum', in the pinned program and in every row, IS THE sha256 OF THE DUMP (.gsa) THAT YtfkbijkmdnieiaaProg.lean LOADS. Nothing in Lean hashes anything: it is a label: what it is worth is what the hold of that sum in a sandbox is worth. -/
noncomputable def Try.pinned : Pinned := { name := "ytfkbijkmdnieiaa", sum := "5066a5780e5c59602c764055d2c1b9cdeca6dd3688e68a9026983077a3637825", checked := Try.checked }
namespace Rows
def none {H : Type} : Left H := { results := [], args := [] }

/-- 'whilomlaw01.ExactMids': WHATEVER THE INPUT: true; the input reads as it did. -/
def exactMidsSpec : ChangeSpec := { name := "exactMids", fn := fun _ => fun
  | [d1, d2] => { results := [.lit (.bool true)], args := [d1, d2] }
  | _ => none }
def exactMidsRow : OpenClaim := { program := "ytfkbijkmdnieiaa", sum := "5066a5780e5c59602c764055d2c1b9cdeca6dd3688e68a9026983077a3637825", func := "whilom/whilomlaw01.ExactMids", spec := "exactMids", apart := false }
def ExactMidsSaid : Prop := exactMidsRow.holds Try.pinned (OpenSpec.ofChange exactMidsSpec)

/-- ITS FALSE NEIGHBOUR: 'it returns false'. Refute it at one input. -/
def exactMidsWrong : ChangeSpec := { name := "exactMids", fn := fun _ => fun
  | [d1, d2] => { results := [.lit (.bool false)], args := [d1, d2] }
  | _ => none }
def ExactMidsWrongFalsely : Prop := exactMidsRow.holds Try.pinned (OpenSpec.ofChange exactMidsWrong)

/-- 'whilomlaw01.ExactSums': WHATEVER THE INPUT: true; the input reads as it did. -/
def exactSumsSpec : ChangeSpec := { name := "exactSums", fn := fun _ => fun
  | [d1, d2] => { results := [.lit (.bool true)], args := [d1, d2] }
  | _ => none }
def exactSumsRow : OpenClaim := { program := "ytfkbijkmdnieiaa", sum := "5066a5780e5c59602c764055d2c1b9cdeca6dd3688e68a9026983077a3637825", func := "whilom/whilomlaw01.ExactSums", spec := "exactSums", apart := false }
def ExactSumsSaid : Prop := exactSumsRow.holds Try.pinned (OpenSpec.ofChange exactSumsSpec)

/-- ITS FALSE NEIGHBOUR: 'it returns false'. Refute it at one input. -/
def exactSumsWrong : ChangeSpec := { name := "exactSums", fn := fun _ => fun
  | [d1, d2] => { results := [.lit (.bool false)], args := [d1, d2] }
  | _ => none }
def ExactSumsWrongFalsely : Prop := exactSumsRow.holds Try.pinned (OpenSpec.ofChange exactSumsWrong)

/-- 'whilomlaw27.LanesMerges': WHATEVER THE INPUT: true; the input reads as it did. -/
def lanesMergesSpec : ChangeSpec := { name := "lanesMerges", fn := fun _ => fun
  | [d] => { results := [.lit (.bool true)], args := [d] }
  | _ => none }
def lanesMergesRow : OpenClaim := { program := "ytfkbijkmdnieiaa", sum := "5066a5780e5c59602c764055d2c1b9cdeca6dd3688e68a9026983077a3637825", func := "whilom/whilomlaw27.LanesMerges", spec := "lanesMerges", apart := false }
def LanesMergesSaid : Prop := lanesMergesRow.holds Try.pinned (OpenSpec.ofChange lanesMergesSpec)

/-- ITS FALSE NEIGHBOUR: 'it returns false'. Refute it at one input. -/
def lanesMergesWrong : ChangeSpec := { name := "lanesMerges", fn := fun _ => fun
  | [d] => { results := [.lit (.bool false)], args := [d] }
  | _ => none }
def LanesMergesWrongFalsely : Prop := lanesMergesRow.holds Try.pinned (OpenSpec.ofChange lanesMergesWrong)

/-- 'whilomlaw01.ExactSteps': WHATEVER THE INPUT: true; the input reads as it did. -/
def exactStepsSpec : ChangeSpec := { name := "exactSteps", fn := fun _ => fun
  | [d] => { results := [.lit (.bool true)], args := [d] }
  | _ => none }
def exactStepsRow : OpenClaim := { program := "ytfkbijkmdnieiaa", sum := "5066a5780e5c59602c764055d2c1b9cdeca6dd3688e68a9026983077a3637825", func := "whilom/whilomlaw01.ExactSteps", spec := "exactSteps", apart := false }
def ExactStepsSaid : Prop := exactStepsRow.holds Try.pinned (OpenSpec.ofChange exactStepsSpec)

/-- ITS FALSE NEIGHBOUR: 'it returns false'. Refute it at one input. -/
def exactStepsWrong : ChangeSpec := { name := "exactSteps", fn := fun _ => fun
  | [d] => { results := [.lit (.bool false)], args := [d] }
  | _ => none }
def ExactStepsWrongFalsely : Prop := exactStepsRow.holds Try.pinned (OpenSpec.ofChange exactStepsWrong)

/-- 'whilomlaw01.ExactProducts': WHATEVER THE INPUT: true; the input reads as it did. -/
def exactProductsSpec : ChangeSpec := { name := "exactProducts", fn := fun _ => fun
  | [d1, d2] => { results := [.lit (.bool true)], args := [d1, d2] }
  | _ => none }
def exactProductsRow : OpenClaim := { program := "ytfkbijkmdnieiaa", sum := "5066a5780e5c59602c764055d2c1b9cdeca6dd3688e68a9026983077a3637825", func := "whilom/whilomlaw01.ExactProducts", spec := "exactProducts", apart := false }
def ExactProductsSaid : Prop := exactProductsRow.holds Try.pinned (OpenSpec.ofChange exactProductsSpec)

/-- ITS FALSE NEIGHBOUR: 'it returns false'. Refute it at one input. -/
def exactProductsWrong : ChangeSpec := { name := "exactProducts", fn := fun _ => fun
  | [d1, d2] => { results := [.lit (.bool false)], args := [d1, d2] }
  | _ => none }
def ExactProductsWrongFalsely : Prop := exactProductsRow.holds Try.pinned (OpenSpec.ofChange exactProductsWrong)

/-- 'whilomlaw01.ExactBack': WHATEVER THE INPUT: true; the input reads as it did. -/
def exactBackSpec : ChangeSpec := { name := "exactBack", fn := fun _ => fun
  | [d1, d2] => { results := [.lit (.bool true)], args := [d1, d2] }
  | _ => none }
def exactBackRow : OpenClaim := { program := "ytfkbijkmdnieiaa", sum := "5066a5780e5c59602c764055d2c1b9cdeca6dd3688e68a9026983077a3637825", func := "whilom/whilomlaw01.ExactBack", spec := "exactBack", apart := false }
def ExactBackSaid : Prop := exactBackRow.holds Try.pinned (OpenSpec.ofChange exactBackSpec)

/-- ITS FALSE NEIGHBOUR: 'it returns false'. Refute it at one input. -/
def exactBackWrong : ChangeSpec := { name := "exactBack", fn := fun _ => fun
  | [d1, d2] => { results := [.lit (.bool false)], args := [d1, d2] }
  | _ => none }
def ExactBackWrongFalsely : Prop := exactBackRow.holds Try.pinned (OpenSpec.ofChange exactBackWrong)

/-- 'whilomlaw04.PileTwo': WHATEVER THE INPUT: true; the input reads as it did. -/
def pileTwoSpec : ChangeSpec := { name := "pileTwo", fn := fun _ => fun
  | [d] => { results := [.lit (.bool true)], args := [d] }
  | _ => none }
def pileTwoRow : OpenClaim := { program := "ytfkbijkmdnieiaa", sum := "5066a5780e5c59602c764055d2c1b9cdeca6dd3688e68a9026983077a3637825", func := "whilom/whilomlaw04.PileTwo", spec := "pileTwo", apart := false }
def PileTwoSaid : Prop := pileTwoRow.holds Try.pinned (OpenSpec.ofChange pileTwoSpec)

/-- ITS FALSE NEIGHBOUR: 'it returns false'. Refute it at one input. -/
def pileTwoWrong : ChangeSpec := { name := "pileTwo", fn := fun _ => fun
  | [d] => { results := [.lit (.bool false)], args := [d] }
  | _ => none }
def PileTwoWrongFalsely : Prop := pileTwoRow.holds Try.pinned (OpenSpec.ofChange pileTwoWrong)

/-- 'whilomlaw04.PileItems': WHATEVER THE INPUT: true; the input reads as it did. -/
def pileItemsSpec : ChangeSpec := { name := "pileItems", fn := fun _ => fun
  | [d1, d2] => { results := [.lit (.bool true)], args := [d1, d2] }
  | _ => none }
def pileItemsRow : OpenClaim := { program := "ytfkbijkmdnieiaa", sum := "5066a5780e5c59602c764055d2c1b9cdeca6dd3688e68a9026983077a3637825", func := "whilom/whilomlaw04.PileItems", spec := "pileItems", apart := false }
def PileItemsSaid : Prop := pileItemsRow.holds Try.pinned (OpenSpec.ofChange pileItemsSpec)

/-- ITS FALSE NEIGHBOUR: 'it returns false'. Refute it at one input. -/
def pileItemsWrong : ChangeSpec := { name := "pileItems", fn := fun _ => fun
  | [d1, d2] => { results := [.lit (.bool false)], args := [d1, d2] }
  | _ => none }
def PileItemsWrongFalsely : Prop := pileItemsRow.holds Try.pinned (OpenSpec.ofChange pileItemsWrong)

/-- 'whilomlaw04.PileLists': WHATEVER THE INPUT: true; the input reads as it did. -/
def pileListsSpec : ChangeSpec := { name := "pileLists", fn := fun _ => fun
  | [d1, d2] => { results := [.lit (.bool true)], args := [d1, d2] }
  | _ => none }
def pileListsRow : OpenClaim := { program := "ytfkbijkmdnieiaa", sum := "5066a5780e5c59602c764055d2c1b9cdeca6dd3688e68a9026983077a3637825", func := "whilom/whilomlaw04.PileLists", spec := "pileLists", apart := false }
def PileListsSaid : Prop := pileListsRow.holds Try.pinned (OpenSpec.ofChange pileListsSpec)

/-- ITS FALSE NEIGHBOUR: 'it returns false'. Refute it at one input. -/
def pileListsWrong : ChangeSpec := { name := "pileLists", fn := fun _ => fun
  | [d1, d2] => { results := [.lit (.bool false)], args := [d1, d2] }
  | _ => none }
def PileListsWrongFalsely : Prop := pileListsRow.holds Try.pinned (OpenSpec.ofChange pileListsWrong)

/-- 'whilomlaw05.BoxOrder': WHATEVER THE INPUT: true; the input reads as it did. -/
def boxOrderSpec : ChangeSpec := { name := "boxOrder", fn := fun _ => fun
  | [d1, d2] => { results := [.lit (.bool true)], args := [d1, d2] }
  | _ => none }
def boxOrderRow : OpenClaim := { program := "ytfkbijkmdnieiaa", sum := "5066a5780e5c59602c764055d2c1b9cdeca6dd3688e68a9026983077a3637825", func := "whilom/whilomlaw05.BoxOrder", spec := "boxOrder", apart := false }
def BoxOrderSaid : Prop := boxOrderRow.holds Try.pinned (OpenSpec.ofChange boxOrderSpec)

/-- ITS FALSE NEIGHBOUR: 'it returns false'. Refute it at one input. -/
def boxOrderWrong : ChangeSpec := { name := "boxOrder", fn := fun _ => fun
  | [d1, d2] => { results := [.lit (.bool false)], args := [d1, d2] }
  | _ => none }
def BoxOrderWrongFalsely : Prop := boxOrderRow.holds Try.pinned (OpenSpec.ofChange boxOrderWrong)

/-- 'whilomlaw04.PileActs': WHATEVER THE INPUT: true; the input reads as it did. -/
def pileActsSpec : ChangeSpec := { name := "pileActs", fn := fun _ => fun
  | [d1, d2] => { results := [.lit (.bool true)], args := [d1, d2] }
  | _ => none }
def pileActsRow : OpenClaim := { program := "ytfkbijkmdnieiaa", sum := "5066a5780e5c59602c764055d2c1b9cdeca6dd3688e68a9026983077a3637825", func := "whilom/whilomlaw04.PileActs", spec := "pileActs", apart := false }
def PileActsSaid : Prop := pileActsRow.holds Try.pinned (OpenSpec.ofChange pileActsSpec)

/-- ITS FALSE NEIGHBOUR: 'it returns false'. Refute it at one input. -/
def pileActsWrong : ChangeSpec := { name := "pileActs", fn := fun _ => fun
  | [d1, d2] => { results := [.lit (.bool false)], args := [d1, d2] }
  | _ => none }
def PileActsWrongFalsely : Prop := pileActsRow.holds Try.pinned (OpenSpec.ofChange pileActsWrong)

/-- 'whilomlaw05.BoxTexts': WHATEVER THE INPUT: true; the input reads as it did. -/
def boxTextsSpec : ChangeSpec := { name := "boxTexts", fn := fun _ => fun
  | [d] => { results := [.lit (.bool true)], args := [d] }
  | _ => none }
def boxTextsRow : OpenClaim := { program := "ytfkbijkmdnieiaa", sum := "5066a5780e5c59602c764055d2c1b9cdeca6dd3688e68a9026983077a3637825", func := "whilom/whilomlaw05.BoxTexts", spec := "boxTexts", apart := false }
def BoxTextsSaid : Prop := boxTextsRow.holds Try.pinned (OpenSpec.ofChange boxTextsSpec)

/-- ITS FALSE NEIGHBOUR: 'it returns false'. Refute it at one input. -/
def boxTextsWrong : ChangeSpec := { name := "boxTexts", fn := fun _ => fun
  | [d] => { results := [.lit (.bool false)], args := [d] }
  | _ => none }
def BoxTextsWrongFalsely : Prop := boxTextsRow.holds Try.pinned (OpenSpec.ofChange boxTextsWrong)

/-- 'whilomlaw05.BoxNil': WHATEVER THE INPUT: true; the input reads as it did. -/
def boxNilSpec : ChangeSpec := { name := "boxNil", fn := fun _ => fun
  | [d] => { results := [.lit (.bool true)], args := [d] }
  | _ => none }
def boxNilRow : OpenClaim := { program := "ytfkbijkmdnieiaa", sum := "5066a5780e5c59602c764055d2c1b9cdeca6dd3688e68a9026983077a3637825", func := "whilom/whilomlaw05.BoxNil", spec := "boxNil", apart := false }
def BoxNilSaid : Prop := boxNilRow.holds Try.pinned (OpenSpec.ofChange boxNilSpec)

/-- ITS FALSE NEIGHBOUR: 'it returns false'. Refute it at one input. -/
def boxNilWrong : ChangeSpec := { name := "boxNil", fn := fun _ => fun
  | [d] => { results := [.lit (.bool false)], args := [d] }
  | _ => none }
def BoxNilWrongFalsely : Prop := boxNilRow.holds Try.pinned (OpenSpec.ofChange boxNilWrong)

/-- 'whilomlaw05.BoxActs': WHATEVER THE INPUT: true; the input reads as it did. -/
def boxActsSpec : ChangeSpec := { name := "boxActs", fn := fun _ => fun
  | [d1, d2] => { results := [.lit (.bool true)], args := [d1, d2] }
  | _ => none }
def boxActsRow : OpenClaim := { program := "ytfkbijkmdnieiaa", sum := "5066a5780e5c59602c764055d2c1b9cdeca6dd3688e68a9026983077a3637825", func := "whilom/whilomlaw05.BoxActs", spec := "boxActs", apart := false }
def BoxActsSaid : Prop := boxActsRow.holds Try.pinned (OpenSpec.ofChange boxActsSpec)

/-- ITS FALSE NEIGHBOUR: 'it returns false'. Refute it at one input. -/
def boxActsWrong : ChangeSpec := { name := "boxActs", fn := fun _ => fun
  | [d1, d2] => { results := [.lit (.bool false)], args := [d1, d2] }
  | _ => none }
def BoxActsWrongFalsely : Prop := boxActsRow.holds Try.pinned (OpenSpec.ofChange boxActsWrong)

/- THE SECOND FORM. 'bulk': how many values and letters a reading holds, each counted each time it is reached (what is shared counts as often as it is met; a slice's spare places count too). A statement '..UptoSaid' is the law's where the arguments, and the package variables that the reading takes, are together of bulk at most 1048576: NARROWER than '..Said'. Prove '..Said' where nothing that the law and all that it calls make is longer than what came in: it says more and counts as full. Else prove '..UptoSaid'. A law counts once. -/
mutual
def uptoBulk {H : Type} : DataW H → Nat
  | .lit (.string bytes) => bytes.length + 1
  | .lit _ => 1
  | .nil => 1
  | .ptr d => uptoBulk d + 1
  | .slice elems spare => uptoBulkAll elems + uptoBulkAll spare + 1
  | .agg parts => uptoBulkAll parts + 1
  | .iface _ d => uptoBulk d + 1
  | .map entries => uptoBulkEntries entries + 1
  | .held _ => 1
def uptoBulkAll {H : Type} : List (DataW H) → Nat
  | [] => 0
  | d :: r => uptoBulk d + uptoBulkAll r
def uptoBulkEntries {H : Type} : List (Lit × DataW H) → Nat
  | [] => 0
  | x :: r => uptoBulkEntry x + uptoBulkEntries r
def uptoBulkEntry {H : Type} : Lit × DataW H → Nat
  | (.string bytes, d) => bytes.length + uptoBulk d + 1
  | (_, d) => uptoBulk d + 1
 end
def uptoSmall : (H : Type) → List (DataW H) → Bool := fun _ ds => decide (uptoBulkAll ds ≤ 1048576)
def OpenSpec.upto (s : _root_.Go.ChangeSpec) : _root_.Go.OpenSpec := { _root_.Go.OpenSpec.ofChange s with cond := some uptoSmall }

/-- 'whilomlaw01.ExactMids', WHERE WHAT IT READS IS OF BULK AT MOST 1048576: true; the input reads as it did. -/
def exactMidsUptoRow : OpenClaim := { program := "ytfkbijkmdnieiaa", sum := "5066a5780e5c59602c764055d2c1b9cdeca6dd3688e68a9026983077a3637825", func := "whilom/whilomlaw01.ExactMids", spec := "exactMids", apart := false, narrowed := true }
def ExactMidsUptoSaid : Prop := exactMidsUptoRow.holds Try.pinned (OpenSpec.upto exactMidsSpec)

/-- 'whilomlaw01.ExactSums', WHERE WHAT IT READS IS OF BULK AT MOST 1048576: true; the input reads as it did. -/
def exactSumsUptoRow : OpenClaim := { program := "ytfkbijkmdnieiaa", sum := "5066a5780e5c59602c764055d2c1b9cdeca6dd3688e68a9026983077a3637825", func := "whilom/whilomlaw01.ExactSums", spec := "exactSums", apart := false, narrowed := true }
def ExactSumsUptoSaid : Prop := exactSumsUptoRow.holds Try.pinned (OpenSpec.upto exactSumsSpec)

/-- 'whilomlaw27.LanesMerges', WHERE WHAT IT READS IS OF BULK AT MOST 1048576: true; the input reads as it did. -/
def lanesMergesUptoRow : OpenClaim := { program := "ytfkbijkmdnieiaa", sum := "5066a5780e5c59602c764055d2c1b9cdeca6dd3688e68a9026983077a3637825", func := "whilom/whilomlaw27.LanesMerges", spec := "lanesMerges", apart := false, narrowed := true }
def LanesMergesUptoSaid : Prop := lanesMergesUptoRow.holds Try.pinned (OpenSpec.upto lanesMergesSpec)

/-- 'whilomlaw01.ExactSteps', WHERE WHAT IT READS IS OF BULK AT MOST 1048576: true; the input reads as it did. -/
def exactStepsUptoRow : OpenClaim := { program := "ytfkbijkmdnieiaa", sum := "5066a5780e5c59602c764055d2c1b9cdeca6dd3688e68a9026983077a3637825", func := "whilom/whilomlaw01.ExactSteps", spec := "exactSteps", apart := false, narrowed := true }
def ExactStepsUptoSaid : Prop := exactStepsUptoRow.holds Try.pinned (OpenSpec.upto exactStepsSpec)

/-- 'whilomlaw01.ExactProducts', WHERE WHAT IT READS IS OF BULK AT MOST 1048576: true; the input reads as it did. -/
def exactProductsUptoRow : OpenClaim := { program := "ytfkbijkmdnieiaa", sum := "5066a5780e5c59602c764055d2c1b9cdeca6dd3688e68a9026983077a3637825", func := "whilom/whilomlaw01.ExactProducts", spec := "exactProducts", apart := false, narrowed := true }
def ExactProductsUptoSaid : Prop := exactProductsUptoRow.holds Try.pinned (OpenSpec.upto exactProductsSpec)

/-- 'whilomlaw01.ExactBack', WHERE WHAT IT READS IS OF BULK AT MOST 1048576: true; the input reads as it did. -/
def exactBackUptoRow : OpenClaim := { program := "ytfkbijkmdnieiaa", sum := "5066a5780e5c59602c764055d2c1b9cdeca6dd3688e68a9026983077a3637825", func := "whilom/whilomlaw01.ExactBack", spec := "exactBack", apart := false, narrowed := true }
def ExactBackUptoSaid : Prop := exactBackUptoRow.holds Try.pinned (OpenSpec.upto exactBackSpec)

/-- 'whilomlaw04.PileTwo', WHERE WHAT IT READS IS OF BULK AT MOST 1048576: true; the input reads as it did. -/
def pileTwoUptoRow : OpenClaim := { program := "ytfkbijkmdnieiaa", sum := "5066a5780e5c59602c764055d2c1b9cdeca6dd3688e68a9026983077a3637825", func := "whilom/whilomlaw04.PileTwo", spec := "pileTwo", apart := false, narrowed := true }
def PileTwoUptoSaid : Prop := pileTwoUptoRow.holds Try.pinned (OpenSpec.upto pileTwoSpec)

/-- 'whilomlaw04.PileItems', WHERE WHAT IT READS IS OF BULK AT MOST 1048576: true; the input reads as it did. -/
def pileItemsUptoRow : OpenClaim := { program := "ytfkbijkmdnieiaa", sum := "5066a5780e5c59602c764055d2c1b9cdeca6dd3688e68a9026983077a3637825", func := "whilom/whilomlaw04.PileItems", spec := "pileItems", apart := false, narrowed := true }
def PileItemsUptoSaid : Prop := pileItemsUptoRow.holds Try.pinned (OpenSpec.upto pileItemsSpec)

/-- 'whilomlaw04.PileLists', WHERE WHAT IT READS IS OF BULK AT MOST 1048576: true; the input reads as it did. -/
def pileListsUptoRow : OpenClaim := { program := "ytfkbijkmdnieiaa", sum := "5066a5780e5c59602c764055d2c1b9cdeca6dd3688e68a9026983077a3637825", func := "whilom/whilomlaw04.PileLists", spec := "pileLists", apart := false, narrowed := true }
def PileListsUptoSaid : Prop := pileListsUptoRow.holds Try.pinned (OpenSpec.upto pileListsSpec)

/-- 'whilomlaw05.BoxOrder', WHERE WHAT IT READS IS OF BULK AT MOST 1048576: true; the input reads as it did. -/
def boxOrderUptoRow : OpenClaim := { program := "ytfkbijkmdnieiaa", sum := "5066a5780e5c59602c764055d2c1b9cdeca6dd3688e68a9026983077a3637825", func := "whilom/whilomlaw05.BoxOrder", spec := "boxOrder", apart := false, narrowed := true }
def BoxOrderUptoSaid : Prop := boxOrderUptoRow.holds Try.pinned (OpenSpec.upto boxOrderSpec)

/-- 'whilomlaw04.PileActs', WHERE WHAT IT READS IS OF BULK AT MOST 1048576: true; the input reads as it did. -/
def pileActsUptoRow : OpenClaim := { program := "ytfkbijkmdnieiaa", sum := "5066a5780e5c59602c764055d2c1b9cdeca6dd3688e68a9026983077a3637825", func := "whilom/whilomlaw04.PileActs", spec := "pileActs", apart := false, narrowed := true }
def PileActsUptoSaid : Prop := pileActsUptoRow.holds Try.pinned (OpenSpec.upto pileActsSpec)

/-- 'whilomlaw05.BoxTexts', WHERE WHAT IT READS IS OF BULK AT MOST 1048576: true; the input reads as it did. -/
def boxTextsUptoRow : OpenClaim := { program := "ytfkbijkmdnieiaa", sum := "5066a5780e5c59602c764055d2c1b9cdeca6dd3688e68a9026983077a3637825", func := "whilom/whilomlaw05.BoxTexts", spec := "boxTexts", apart := false, narrowed := true }
def BoxTextsUptoSaid : Prop := boxTextsUptoRow.holds Try.pinned (OpenSpec.upto boxTextsSpec)

/-- 'whilomlaw05.BoxNil', WHERE WHAT IT READS IS OF BULK AT MOST 1048576: true; the input reads as it did. -/
def boxNilUptoRow : OpenClaim := { program := "ytfkbijkmdnieiaa", sum := "5066a5780e5c59602c764055d2c1b9cdeca6dd3688e68a9026983077a3637825", func := "whilom/whilomlaw05.BoxNil", spec := "boxNil", apart := false, narrowed := true }
def BoxNilUptoSaid : Prop := boxNilUptoRow.holds Try.pinned (OpenSpec.upto boxNilSpec)

/-- 'whilomlaw05.BoxActs', WHERE WHAT IT READS IS OF BULK AT MOST 1048576: true; the input reads as it did. -/
def boxActsUptoRow : OpenClaim := { program := "ytfkbijkmdnieiaa", sum := "5066a5780e5c59602c764055d2c1b9cdeca6dd3688e68a9026983077a3637825", func := "whilom/whilomlaw05.BoxActs", spec := "boxActs", apart := false, narrowed := true }
def BoxActsUptoSaid : Prop := boxActsUptoRow.holds Try.pinned (OpenSpec.upto boxActsSpec)

end Rows
end Go.Proofs.Ytfkbijkmdnieiaa
