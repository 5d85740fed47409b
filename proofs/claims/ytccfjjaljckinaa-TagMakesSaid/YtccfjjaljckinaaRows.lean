/-
  No cell of these rows narrows 'for every input' (looked for: loops, veiled, ifaces, maps, wideKeys, modest, calm, conditions, laid).
  DERIVED. THE GIVEN ROWS OF THIS SEAT. 5 by the template 'for every input the law returns true; each argument reads behind the call as it read before'; 0 by the template 'total and deterministic' (their statements: YtccfjjaljckinaaTotals.lean).
  GIVEN WITH THE SEED: the statements are not yours to turn. If you find one false, say at which input.
  Laid BY PROGRAM, IN A SANDBOX (cutbox-rows.mjs): the forced cells as the released guide's own fill.sh prints them over the translation 65c1547c5f27cf2e… (all of the seat's roots in one cut). By AI agents, Wed Nov 11 2026. No macro, syntax, notation, axiom, sorry.
-/
import Derived.Test.YtccfjjaljckinaaChecked
import GoSem.Claim
import GoSem.ClaimJoined
import GoSem.ClaimMapViews
import Derived.JoinedTies
import Derived.KernelRfl
namespace Go.Proofs.Ytccfjjaljckinaa
/- THE CELL 'sum', in the pinned program and in every row, IS THE sha256 OF THE DUMP (.gsa) THAT YtccfjjaljckinaaProg.lean LOADS. Nothing in Lean hashes anything: it is a label: what it is worth is what the hold of that sum in a sandbox is worth. -/
noncomputable def Try.pinned : Pinned := { name := "ytccfjjaljckinaa", sum := "65c1547c5f27cf2eb96d6bfca58e38405362b5ee7f9c07e03322120659ffd3c8", checked := Try.checked }
namespace Rows
def none {H : Type} : Left H := { results := [], args := [] }

/-- 'whilomlaw16.TagOnce': WHATEVER THE INPUT: true; the input reads as it did. -/
def tagOnceSpec : ChangeSpec := { name := "tagOnce", fn := fun _ => fun
  | [d] => { results := [.lit (.bool true)], args := [d] }
  | _ => none }
def tagOnceRow : OpenClaim := { program := "ytccfjjaljckinaa", sum := "65c1547c5f27cf2eb96d6bfca58e38405362b5ee7f9c07e03322120659ffd3c8", func := "whilom/whilomlaw16.TagOnce", spec := "tagOnce", unfollowed := true, recurses := true, apart := false }
def TagOnceSaid : Prop := tagOnceRow.holds Try.pinned (OpenSpec.ofChange tagOnceSpec)

/-- ITS FALSE NEIGHBOUR: 'it returns false'. Refute it at one input. -/
def tagOnceWrong : ChangeSpec := { name := "tagOnce", fn := fun _ => fun
  | [d] => { results := [.lit (.bool false)], args := [d] }
  | _ => none }
def TagOnceWrongFalsely : Prop := tagOnceRow.holds Try.pinned (OpenSpec.ofChange tagOnceWrong)

/-- 'whilomlaw16.TagMakes': WHATEVER THE INPUT: true; the input reads as it did. -/
def tagMakesSpec : ChangeSpec := { name := "tagMakes", fn := fun _ => fun
  | [d1, d2] => { results := [.lit (.bool true)], args := [d1, d2] }
  | _ => none }
def tagMakesRow : OpenClaim := { program := "ytccfjjaljckinaa", sum := "65c1547c5f27cf2eb96d6bfca58e38405362b5ee7f9c07e03322120659ffd3c8", func := "whilom/whilomlaw16.TagMakes", spec := "tagMakes", unfollowed := true, recurses := true, apart := false }
def TagMakesSaid : Prop := tagMakesRow.holds Try.pinned (OpenSpec.ofChange tagMakesSpec)

/-- ITS FALSE NEIGHBOUR: 'it returns false'. Refute it at one input. -/
def tagMakesWrong : ChangeSpec := { name := "tagMakes", fn := fun _ => fun
  | [d1, d2] => { results := [.lit (.bool false)], args := [d1, d2] }
  | _ => none }
def TagMakesWrongFalsely : Prop := tagMakesRow.holds Try.pinned (OpenSpec.ofChange tagMakesWrong)

/-- 'whilomlaw16.TagTimes': WHATEVER THE INPUT: true; the input reads as it did. -/
def tagTimesSpec : ChangeSpec := { name := "tagTimes", fn := fun _ => fun
  | [d] => { results := [.lit (.bool true)], args := [d] }
  | _ => none }
def tagTimesRow : OpenClaim := { program := "ytccfjjaljckinaa", sum := "65c1547c5f27cf2eb96d6bfca58e38405362b5ee7f9c07e03322120659ffd3c8", func := "whilom/whilomlaw16.TagTimes", spec := "tagTimes", unfollowed := true, recurses := true, apart := false }
def TagTimesSaid : Prop := tagTimesRow.holds Try.pinned (OpenSpec.ofChange tagTimesSpec)

/-- ITS FALSE NEIGHBOUR: 'it returns false'. Refute it at one input. -/
def tagTimesWrong : ChangeSpec := { name := "tagTimes", fn := fun _ => fun
  | [d] => { results := [.lit (.bool false)], args := [d] }
  | _ => none }
def TagTimesWrongFalsely : Prop := tagTimesRow.holds Try.pinned (OpenSpec.ofChange tagTimesWrong)

/-- 'whilomlaw16.TagActs': WHATEVER THE INPUT: true; the input reads as it did. -/
def tagActsSpec : ChangeSpec := { name := "tagActs", fn := fun _ => fun
  | [d1, d2] => { results := [.lit (.bool true)], args := [d1, d2] }
  | _ => none }
def tagActsRow : OpenClaim := { program := "ytccfjjaljckinaa", sum := "65c1547c5f27cf2eb96d6bfca58e38405362b5ee7f9c07e03322120659ffd3c8", func := "whilom/whilomlaw16.TagActs", spec := "tagActs", unfollowed := true, recurses := true, apart := false }
def TagActsSaid : Prop := tagActsRow.holds Try.pinned (OpenSpec.ofChange tagActsSpec)

/-- ITS FALSE NEIGHBOUR: 'it returns false'. Refute it at one input. -/
def tagActsWrong : ChangeSpec := { name := "tagActs", fn := fun _ => fun
  | [d1, d2] => { results := [.lit (.bool false)], args := [d1, d2] }
  | _ => none }
def TagActsWrongFalsely : Prop := tagActsRow.holds Try.pinned (OpenSpec.ofChange tagActsWrong)

/-- 'whilomlaw16.TagAgain': WHATEVER THE INPUT: true; the input reads as it did. -/
def tagAgainSpec : ChangeSpec := { name := "tagAgain", fn := fun _ => fun
  | [d1, d2] => { results := [.lit (.bool true)], args := [d1, d2] }
  | _ => none }
def tagAgainRow : OpenClaim := { program := "ytccfjjaljckinaa", sum := "65c1547c5f27cf2eb96d6bfca58e38405362b5ee7f9c07e03322120659ffd3c8", func := "whilom/whilomlaw16.TagAgain", spec := "tagAgain", unfollowed := true, recurses := true, apart := false }
def TagAgainSaid : Prop := tagAgainRow.holds Try.pinned (OpenSpec.ofChange tagAgainSpec)

/-- ITS FALSE NEIGHBOUR: 'it returns false'. Refute it at one input. -/
def tagAgainWrong : ChangeSpec := { name := "tagAgain", fn := fun _ => fun
  | [d1, d2] => { results := [.lit (.bool false)], args := [d1, d2] }
  | _ => none }
def TagAgainWrongFalsely : Prop := tagAgainRow.holds Try.pinned (OpenSpec.ofChange tagAgainWrong)

/- THE SECOND FORM. 'bulk': how many values and letters a reading holds, each counted each time it is reached (what is shared counts as often as it is met; a slice's spare places count too). A statement '..UptoSaid' is the law's where the arguments, and the package variables that the reading takes, are together of bulk at most 1048576: NARROWER than '..Said'. Prove '..Said' where nothing that the law and all that it calls make is longer than what came in: it says more and counts as full. Else prove '..UptoSaid'. A law counts once. -/
mutual
def uptoBulk {H : Type} : DataW H → Nat
  | .lit (.string bytes) => bytes.length + 1
  | .lit _ => 1
  | .nil => 1
  | .ptr d => uptoBulk d + 1
  | .slice elems spare => uptoBulkAll elems + uptoBulkAll spare + 1
  | .agg parts => uptoBulkAll parts + 1
  | .iface _ d => uptoBulk d + 1
  | .map entries => uptoBulkEntries entries + 1
  | .held _ => 1
def uptoBulkAll {H : Type} : List (DataW H) → Nat
  | [] => 0
  | d :: r => uptoBulk d + uptoBulkAll r
def uptoBulkEntries {H : Type} : List (Lit × DataW H) → Nat
  | [] => 0
  | x :: r => uptoBulkEntry x + uptoBulkEntries r
def uptoBulkEntry {H : Type} : Lit × DataW H → Nat
  | (.string bytes, d) => bytes.length + uptoBulk d + 1
  | (_, d) => uptoBulk d + 1
 end
def uptoSmall : (H : Type) → List (DataW H) → Bool := fun _ ds => decide (uptoBulkAll ds ≤ 1048576)
def OpenSpec.upto (s : _root_.Go.ChangeSpec) : _root_.Go.OpenSpec := { _root_.Go.OpenSpec.ofChange s with cond := some uptoSmall }

/-- 'whilomlaw16.TagOnce', WHERE WHAT IT READS IS OF BULK AT MOST 1048576: true; the input reads as it did. -/
def tagOnceUptoRow : OpenClaim := { program := "ytccfjjaljckinaa", sum := "65c1547c5f27cf2eb96d6bfca58e38405362b5ee7f9c07e03322120659ffd3c8", func := "whilom/whilomlaw16.TagOnce", spec := "tagOnce", unfollowed := true, recurses := true, apart := false, narrowed := true }
def TagOnceUptoSaid : Prop := tagOnceUptoRow.holds Try.pinned (OpenSpec.upto tagOnceSpec)

/-- 'whilomlaw16.TagMakes', WHERE WHAT IT READS IS OF BULK AT MOST 1048576: true; the input reads as it did. -/
def tagMakesUptoRow : OpenClaim := { program := "ytccfjjaljckinaa", sum := "65c1547c5f27cf2eb96d6bfca58e38405362b5ee7f9c07e03322120659ffd3c8", func := "whilom/whilomlaw16.TagMakes", spec := "tagMakes", unfollowed := true, recurses := true, apart := false, narrowed := true }
def TagMakesUptoSaid : Prop := tagMakesUptoRow.holds Try.pinned (OpenSpec.upto tagMakesSpec)

/-- 'whilomlaw16.TagTimes', WHERE WHAT IT READS IS OF BULK AT MOST 1048576: true; the input reads as it did. -/
def tagTimesUptoRow : OpenClaim := { program := "ytccfjjaljckinaa", sum := "65c1547c5f27cf2eb96d6bfca58e38405362b5ee7f9c07e03322120659ffd3c8", func := "whilom/whilomlaw16.TagTimes", spec := "tagTimes", unfollowed := true, recurses := true, apart := false, narrowed := true }
def TagTimesUptoSaid : Prop := tagTimesUptoRow.holds Try.pinned (OpenSpec.upto tagTimesSpec)

/-- 'whilomlaw16.TagActs', WHERE WHAT IT READS IS OF BULK AT MOST 1048576: true; the input reads as it did. -/
def tagActsUptoRow : OpenClaim := { program := "ytccfjjaljckinaa", sum := "65c1547c5f27cf2eb96d6bfca58e38405362b5ee7f9c07e03322120659ffd3c8", func := "whilom/whilomlaw16.TagActs", spec := "tagActs", unfollowed := true, recurses := true, apart := false, narrowed := true }
def TagActsUptoSaid : Prop := tagActsUptoRow.holds Try.pinned (OpenSpec.upto tagActsSpec)

/-- 'whilomlaw16.TagAgain', WHERE WHAT IT READS IS OF BULK AT MOST 1048576: true; the input reads as it did. -/
def tagAgainUptoRow : OpenClaim := { program := "ytccfjjaljckinaa", sum := "65c1547c5f27cf2eb96d6bfca58e38405362b5ee7f9c07e03322120659ffd3c8", func := "whilom/whilomlaw16.TagAgain", spec := "tagAgain", unfollowed := true, recurses := true, apart := false, narrowed := true }
def TagAgainUptoSaid : Prop := tagAgainUptoRow.holds Try.pinned (OpenSpec.upto tagAgainSpec)

end Rows
end Go.Proofs.Ytccfjjaljckinaa
