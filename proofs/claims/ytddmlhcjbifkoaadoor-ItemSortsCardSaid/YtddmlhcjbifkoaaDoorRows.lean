/-
  NARROWER THAN 'FOR EVERY INPUT', by the rows' own cells (each row's printed sentence says how): WordsSplits: laid · WordsBlanks: laid · WordsJoins: laid · WordsLines: laid · ItemOrders: laid · ItemTexts: laid · ItemReads: laid · ItemApart: laid · VerbParses: laid · VerbTexts: laid · VerbShows: laid · VerbApart: laid · ItemSorts: laid.
  DERIVED. THE GIVEN ROWS OF THIS SEAT. 13 by the template 'for every input the law returns true; each argument reads behind the call as it read before'; 0 by the template 'total and deterministic' (their statements: YtddmlhcjbifkoaaDoorTotals.lean).
  GIVEN WITH THE SEED: the statements are not yours to turn. If you find one false, say at which input.
  Laid BY PROGRAM, IN A SANDBOX (cutbox-rows.mjs): the forced cells as the released guide's own fill.sh prints them over the translation 91c6c7dd9f3dc920… (all of the seat's roots in one cut). By AI agents, Wed Nov 11 2026. No macro, syntax, notation, axiom, sorry.
-/
import Derived.Test.YtddmlhcjbifkoaaDoorChecked
import GoSem.PinnedTables
import GoSem.Claim
import GoSem.ClaimJoined
import GoSem.ClaimMapViews
import Derived.JoinedTies
import Derived.KernelRfl
namespace Go.Proofs.YtddmlhcjbifkoaaDoor
/- THE CELL 'sum', in the pinned program and in every row, IS THE sha256 OF THE DUMP (.gsa) THAT YtddmlhcjbifkoaaDoorProg.lean LOADS. Nothing in Lean hashes anything: it is a label: what it is worth is what the hold of that sum in a sandbox is worth. -/
noncomputable def Tryd.pinned : Pinned := { name := "ytddmlhcjbifkoaadoor", sum := "91c6c7dd9f3dc92090a57408bf6196684931390a80a749166e4acfc90b586572", checked := Tryd.checked }
namespace Rows
def none {H : Type} : Left H := { results := [], args := [] }

/- WHAT THE LISTED PACKAGE-LEVEL VARIABLES READ AS WHEN THE CALL BEGINS. Each datum BY PROGRAM (the guide's laid-datum.mjs) off the statement by which the dump's own 'gosem.cut.vars' lays the variable. In a bare row this is a premise. The card (YtddmlhcjbifkoaaDoorCards.lean) ties it to the program's text. -/
def laid_unicode_White_Space {H : Type} : DataW H := .ptr (.agg [.slice [.agg [.lit (.int .u16 9), .lit (.int .u16 13), .lit (.int .u16 1)], .agg [.lit (.int .u16 32), .lit (.int .u16 133), .lit (.int .u16 101)], .agg [.lit (.int .u16 160), .lit (.int .u16 5760), .lit (.int .u16 5600)], .agg [.lit (.int .u16 8192), .lit (.int .u16 8202), .lit (.int .u16 1)], .agg [.lit (.int .u16 8232), .lit (.int .u16 8233), .lit (.int .u16 1)], .agg [.lit (.int .u16 8239), .lit (.int .u16 8287), .lit (.int .u16 48)], .agg [.lit (.int .u16 12288), .lit (.int .u16 12288), .lit (.int .u16 1)]] [], .nil, .lit (.int .i64 2)])
def laid_strings_asciiSpace {H : Type} : DataW H := .agg [.lit (.int .u8 0), .lit (.int .u8 0), .lit (.int .u8 0), .lit (.int .u8 0), .lit (.int .u8 0), .lit (.int .u8 0), .lit (.int .u8 0), .lit (.int .u8 0), .lit (.int .u8 0), .lit (.int .u8 1), .lit (.int .u8 1), .lit (.int .u8 1), .lit (.int .u8 1), .lit (.int .u8 1), .lit (.int .u8 0), .lit (.int .u8 0), .lit (.int .u8 0), .lit (.int .u8 0), .lit (.int .u8 0), .lit (.int .u8 0), .lit (.int .u8 0), .lit (.int .u8 0), .lit (.int .u8 0), .lit (.int .u8 0), .lit (.int .u8 0), .lit (.int .u8 0), .lit (.int .u8 0), .lit (.int .u8 0), .lit (.int .u8 0), .lit (.int .u8 0), .lit (.int .u8 0), .lit (.int .u8 0), .lit (.int .u8 1), .lit (.int .u8 0), .lit (.int .u8 0), .lit (.int .u8 0), .lit (.int .u8 0), .lit (.int .u8 0), .lit (.int .u8 0), .lit (.int .u8 0), .lit (.int .u8 0), .lit (.int .u8 0), .lit (.int .u8 0), .lit (.int .u8 0), .lit (.int .u8 0), .lit (.int .u8 0), .lit (.int .u8 0), .lit (.int .u8 0), .lit (.int .u8 0), .lit (.int .u8 0), .lit (.int .u8 0), .lit (.int .u8 0), .lit (.int .u8 0), .lit (.int .u8 0), .lit (.int .u8 0), .lit (.int .u8 0), .lit (.int .u8 0), .lit (.int .u8 0), .lit (.int .u8 0), .lit (.int .u8 0), .lit (.int .u8 0), .lit (.int .u8 0), .lit (.int .u8 0), .lit (.int .u8 0), .lit (.int .u8 0), .lit (.int .u8 0), .lit (.int .u8 0), .lit (.int .u8 0), .lit (.int .u8 0), .lit (.int .u8 0), .lit (.int .u8 0), .lit (.int .u8 0), .lit (.int .u8 0), .lit (.int .u8 0), .lit (.int .u8 0), .lit (.int .u8 0), .lit (.int .u8 0), .lit (.int .u8 0), .lit (.int .u8 0), .lit (.int .u8 0), .lit (.int .u8 0), .lit (.int .u8 0), .lit (.int .u8 0), .lit (.int .u8 0), .lit (.int .u8 0), .lit (.int .u8 0), .lit (.int .u8 0), .lit (.int .u8 0), .lit (.int .u8 0), .lit (.int .u8 0), .lit (.int .u8 0), .lit (.int .u8 0), .lit (.int .u8 0), .lit (.int .u8 0), .lit (.int .u8 0), .lit (.int .u8 0), .lit (.int .u8 0), .lit (.int .u8 0), .lit (.int .u8 0), .lit (.int .u8 0), .lit (.int .u8 0), .lit (.int .u8 0), .lit (.int .u8 0), .lit (.int .u8 0), .lit (.int .u8 0), .lit (.int .u8 0), .lit (.int .u8 0), .lit (.int .u8 0), .lit (.int .u8 0), .lit (.int .u8 0), .lit (.int .u8 0), .lit (.int .u8 0), .lit (.int .u8 0), .lit (.int .u8 0), .lit (.int .u8 0), .lit (.int .u8 0), .lit (.int .u8 0), .lit (.int .u8 0), .lit (.int .u8 0), .lit (.int .u8 0), .lit (.int .u8 0), .lit (.int .u8 0), .lit (.int .u8 0), .lit (.int .u8 0), .lit (.int .u8 0), .lit (.int .u8 0), .lit (.int .u8 0), .lit (.int .u8 0), .lit (.int .u8 0), .lit (.int .u8 0), .lit (.int .u8 0), .lit (.int .u8 0), .lit (.int .u8 0), .lit (.int .u8 0), .lit (.int .u8 0), .lit (.int .u8 0), .lit (.int .u8 0), .lit (.int .u8 0), .lit (.int .u8 0), .lit (.int .u8 0), .lit (.int .u8 0), .lit (.int .u8 0), .lit (.int .u8 0), .lit (.int .u8 0), .lit (.int .u8 0), .lit (.int .u8 0), .lit (.int .u8 0), .lit (.int .u8 0), .lit (.int .u8 0), .lit (.int .u8 0), .lit (.int .u8 0), .lit (.int .u8 0), .lit (.int .u8 0), .lit (.int .u8 0), .lit (.int .u8 0), .lit (.int .u8 0), .lit (.int .u8 0), .lit (.int .u8 0), .lit (.int .u8 0), .lit (.int .u8 0), .lit (.int .u8 0), .lit (.int .u8 0), .lit (.int .u8 0), .lit (.int .u8 0), .lit (.int .u8 0), .lit (.int .u8 0), .lit (.int .u8 0), .lit (.int .u8 0), .lit (.int .u8 0), .lit (.int .u8 0), .lit (.int .u8 0), .lit (.int .u8 0), .lit (.int .u8 0), .lit (.int .u8 0), .lit (.int .u8 0), .lit (.int .u8 0), .lit (.int .u8 0), .lit (.int .u8 0), .lit (.int .u8 0), .lit (.int .u8 0), .lit (.int .u8 0), .lit (.int .u8 0), .lit (.int .u8 0), .lit (.int .u8 0), .lit (.int .u8 0), .lit (.int .u8 0), .lit (.int .u8 0), .lit (.int .u8 0), .lit (.int .u8 0), .lit (.int .u8 0), .lit (.int .u8 0), .lit (.int .u8 0), .lit (.int .u8 0), .lit (.int .u8 0), .lit (.int .u8 0), .lit (.int .u8 0), .lit (.int .u8 0), .lit (.int .u8 0), .lit (.int .u8 0), .lit (.int .u8 0), .lit (.int .u8 0), .lit (.int .u8 0), .lit (.int .u8 0), .lit (.int .u8 0), .lit (.int .u8 0), .lit (.int .u8 0), .lit (.int .u8 0), .lit (.int .u8 0), .lit (.int .u8 0), .lit (.int .u8 0), .lit (.int .u8 0), .lit (.int .u8 0), .lit (.int .u8 0), .lit (.int .u8 0), .lit (.int .u8 0), .lit (.int .u8 0), .lit (.int .u8 0), .lit (.int .u8 0), .lit (.int .u8 0), .lit (.int .u8 0), .lit (.int .u8 0), .lit (.int .u8 0), .lit (.int .u8 0), .lit (.int .u8 0), .lit (.int .u8 0), .lit (.int .u8 0), .lit (.int .u8 0), .lit (.int .u8 0), .lit (.int .u8 0), .lit (.int .u8 0), .lit (.int .u8 0), .lit (.int .u8 0), .lit (.int .u8 0), .lit (.int .u8 0), .lit (.int .u8 0), .lit (.int .u8 0), .lit (.int .u8 0), .lit (.int .u8 0), .lit (.int .u8 0), .lit (.int .u8 0), .lit (.int .u8 0), .lit (.int .u8 0), .lit (.int .u8 0), .lit (.int .u8 0), .lit (.int .u8 0), .lit (.int .u8 0), .lit (.int .u8 0), .lit (.int .u8 0), .lit (.int .u8 0), .lit (.int .u8 0), .lit (.int .u8 0), .lit (.int .u8 0), .lit (.int .u8 0), .lit (.int .u8 0), .lit (.int .u8 0), .lit (.int .u8 0)]
def laid_unicode_utf8_acceptRanges {H : Type} : DataW H := .agg [.agg [.lit (.int .u8 128), .lit (.int .u8 191)], .agg [.lit (.int .u8 160), .lit (.int .u8 191)], .agg [.lit (.int .u8 128), .lit (.int .u8 159)], .agg [.lit (.int .u8 144), .lit (.int .u8 191)], .agg [.lit (.int .u8 128), .lit (.int .u8 143)], .agg [.lit (.int .u8 0), .lit (.int .u8 0)], .agg [.lit (.int .u8 0), .lit (.int .u8 0)], .agg [.lit (.int .u8 0), .lit (.int .u8 0)], .agg [.lit (.int .u8 0), .lit (.int .u8 0)], .agg [.lit (.int .u8 0), .lit (.int .u8 0)], .agg [.lit (.int .u8 0), .lit (.int .u8 0)], .agg [.lit (.int .u8 0), .lit (.int .u8 0)], .agg [.lit (.int .u8 0), .lit (.int .u8 0)], .agg [.lit (.int .u8 0), .lit (.int .u8 0)], .agg [.lit (.int .u8 0), .lit (.int .u8 0)], .agg [.lit (.int .u8 0), .lit (.int .u8 0)]]
/-- One of Go's own tables, pinned by name: the form's constant. -/
def laid_unicode_utf8_first : DataW Unit := Go.Pinned.utf8First
def laid_math_bits_deBruijn32tab {H : Type} : DataW H := .agg [.lit (.int .u8 0), .lit (.int .u8 1), .lit (.int .u8 28), .lit (.int .u8 2), .lit (.int .u8 29), .lit (.int .u8 14), .lit (.int .u8 24), .lit (.int .u8 3), .lit (.int .u8 30), .lit (.int .u8 22), .lit (.int .u8 20), .lit (.int .u8 15), .lit (.int .u8 25), .lit (.int .u8 17), .lit (.int .u8 4), .lit (.int .u8 8), .lit (.int .u8 31), .lit (.int .u8 27), .lit (.int .u8 13), .lit (.int .u8 23), .lit (.int .u8 21), .lit (.int .u8 19), .lit (.int .u8 16), .lit (.int .u8 7), .lit (.int .u8 26), .lit (.int .u8 12), .lit (.int .u8 18), .lit (.int .u8 6), .lit (.int .u8 11), .lit (.int .u8 5), .lit (.int .u8 10), .lit (.int .u8 9)]
def laid_math_bits_deBruijn64tab {H : Type} : DataW H := .agg [.lit (.int .u8 0), .lit (.int .u8 1), .lit (.int .u8 56), .lit (.int .u8 2), .lit (.int .u8 57), .lit (.int .u8 49), .lit (.int .u8 28), .lit (.int .u8 3), .lit (.int .u8 61), .lit (.int .u8 58), .lit (.int .u8 42), .lit (.int .u8 50), .lit (.int .u8 38), .lit (.int .u8 29), .lit (.int .u8 17), .lit (.int .u8 4), .lit (.int .u8 62), .lit (.int .u8 47), .lit (.int .u8 59), .lit (.int .u8 36), .lit (.int .u8 45), .lit (.int .u8 43), .lit (.int .u8 51), .lit (.int .u8 22), .lit (.int .u8 53), .lit (.int .u8 39), .lit (.int .u8 33), .lit (.int .u8 30), .lit (.int .u8 24), .lit (.int .u8 18), .lit (.int .u8 12), .lit (.int .u8 5), .lit (.int .u8 63), .lit (.int .u8 55), .lit (.int .u8 48), .lit (.int .u8 27), .lit (.int .u8 60), .lit (.int .u8 41), .lit (.int .u8 37), .lit (.int .u8 16), .lit (.int .u8 46), .lit (.int .u8 35), .lit (.int .u8 44), .lit (.int .u8 21), .lit (.int .u8 52), .lit (.int .u8 32), .lit (.int .u8 23), .lit (.int .u8 11), .lit (.int .u8 54), .lit (.int .u8 26), .lit (.int .u8 40), .lit (.int .u8 15), .lit (.int .u8 34), .lit (.int .u8 20), .lit (.int .u8 31), .lit (.int .u8 10), .lit (.int .u8 25), .lit (.int .u8 14), .lit (.int .u8 19), .lit (.int .u8 9), .lit (.int .u8 13), .lit (.int .u8 8), .lit (.int .u8 7), .lit (.int .u8 6)]
def laid_internal_strconv_uint64pow10 {H : Type} : DataW H := .agg [.lit (.int .u64 1), .lit (.int .u64 10), .lit (.int .u64 100), .lit (.int .u64 1000), .lit (.int .u64 10000), .lit (.int .u64 100000), .lit (.int .u64 1000000), .lit (.int .u64 10000000), .lit (.int .u64 100000000), .lit (.int .u64 1000000000), .lit (.int .u64 10000000000), .lit (.int .u64 100000000000), .lit (.int .u64 1000000000000), .lit (.int .u64 10000000000000), .lit (.int .u64 100000000000000), .lit (.int .u64 1000000000000000), .lit (.int .u64 10000000000000000), .lit (.int .u64 100000000000000000), .lit (.int .u64 1000000000000000000), .lit (.int .u64 10000000000000000000)]
def laid_strconv_ErrRange {H : Type} : DataW H := .iface "*errors.errorString" (.ptr (.agg [.lit (.string [118, 97, 108, 117, 101, 32, 111, 117, 116, 32, 111, 102, 32, 114, 97, 110, 103, 101])]))
def laid_strconv_ErrSyntax {H : Type} : DataW H := .iface "*errors.errorString" (.ptr (.agg [.lit (.string [105, 110, 118, 97, 108, 105, 100, 32, 115, 121, 110, 116, 97, 120])]))
def laid_whilom_verb_commands {H : Type} : DataW H := .agg [.agg [.lit (.string []), .lit (.string [])], .agg [.lit (.string [105, 110, 115, 101, 114, 116]), .lit (.string [116, 110])], .agg [.lit (.string [100, 101, 108, 101, 116, 101]), .lit (.string [116])], .agg [.lit (.string [114, 101, 118, 111, 107, 101]), .lit (.string [104])], .agg [.lit (.string [109, 111, 118, 101]), .lit (.string [104, 116])], .agg [.lit (.string [117, 110, 100, 111]), .lit (.string [])], .agg [.lit (.string [114, 101, 100, 111]), .lit (.string [])], .agg [.lit (.string [98, 101, 103, 105, 110]), .lit (.string [])], .agg [.lit (.string [101, 110, 100]), .lit (.string [])], .agg [.lit (.string [99, 97, 110, 99, 101, 108]), .lit (.string [])], .agg [.lit (.string [109, 105, 110]), .lit (.string [116])], .agg [.lit (.string [115, 105, 122, 101]), .lit (.string [116])], .agg [.lit (.string [107, 116, 104]), .lit (.string [116, 110])], .agg [.lit (.string [104, 97, 115]), .lit (.string [116, 104])], .agg [.lit (.string [110, 111, 119]), .lit (.string [])], .agg [.lit (.string [101, 97, 116, 101, 114]), .lit (.string [104])], .agg [.lit (.string [116, 111, 111, 107]), .lit (.string [104])], .agg [.lit (.string [111, 112, 115]), .lit (.string [])]]

/-- 'whilomlaw20.WordsSplits': WHATEVER THE INPUT: true; the input reads as it did. -/
def wordsSplitsSpec : ChangeSpec := { name := "wordsSplits", fn := fun _ => fun
  | [d] => { results := [.lit (.bool true)], args := [d] }
  | _ => none }
def wordsSplitsRow : OpenClaim := { program := "ytddmlhcjbifkoaadoor", sum := "91c6c7dd9f3dc92090a57408bf6196684931390a80a749166e4acfc90b586572", func := "whilom/whilomlaw20.WordsSplits", spec := "wordsSplits", unfollowed := true, recurses := true, named := ["strings.asciiSpace", "unicode.White_Space"], apart := false, laid := [("unicode.White_Space", laid_unicode_White_Space), ("strings.asciiSpace", laid_strings_asciiSpace)] }
def WordsSplitsSaid : Prop := wordsSplitsRow.holds Tryd.pinned (OpenSpec.ofChange wordsSplitsSpec)

/-- ITS FALSE NEIGHBOUR: 'it returns false'. Refute it at one input. -/
def wordsSplitsWrong : ChangeSpec := { name := "wordsSplits", fn := fun _ => fun
  | [d] => { results := [.lit (.bool false)], args := [d] }
  | _ => none }
def WordsSplitsWrongFalsely : Prop := wordsSplitsRow.holds Tryd.pinned (OpenSpec.ofChange wordsSplitsWrong)

/-- 'whilomlaw20.WordsBlanks': WHATEVER THE INPUT: true; the input reads as it did. -/
def wordsBlanksSpec : ChangeSpec := { name := "wordsBlanks", fn := fun _ => fun
  | [d1, d2] => { results := [.lit (.bool true)], args := [d1, d2] }
  | _ => none }
def wordsBlanksRow : OpenClaim := { program := "ytddmlhcjbifkoaadoor", sum := "91c6c7dd9f3dc92090a57408bf6196684931390a80a749166e4acfc90b586572", func := "whilom/whilomlaw20.WordsBlanks", spec := "wordsBlanks", unfollowed := true, recurses := true, named := ["strings.asciiSpace", "unicode.White_Space"], apart := false, laid := [("unicode.White_Space", laid_unicode_White_Space), ("strings.asciiSpace", laid_strings_asciiSpace)] }
def WordsBlanksSaid : Prop := wordsBlanksRow.holds Tryd.pinned (OpenSpec.ofChange wordsBlanksSpec)

/-- ITS FALSE NEIGHBOUR: 'it returns false'. Refute it at one input. -/
def wordsBlanksWrong : ChangeSpec := { name := "wordsBlanks", fn := fun _ => fun
  | [d1, d2] => { results := [.lit (.bool false)], args := [d1, d2] }
  | _ => none }
def WordsBlanksWrongFalsely : Prop := wordsBlanksRow.holds Tryd.pinned (OpenSpec.ofChange wordsBlanksWrong)

/-- 'whilomlaw20.WordsJoins': WHATEVER THE INPUT: true; the input reads as it did. -/
def wordsJoinsSpec : ChangeSpec := { name := "wordsJoins", fn := fun _ => fun
  | [d] => { results := [.lit (.bool true)], args := [d] }
  | _ => none }
def wordsJoinsRow : OpenClaim := { program := "ytddmlhcjbifkoaadoor", sum := "91c6c7dd9f3dc92090a57408bf6196684931390a80a749166e4acfc90b586572", func := "whilom/whilomlaw20.WordsJoins", spec := "wordsJoins", inPlace := ["internal/abi.NoEscape", "internal/bytealg.MakeNoZero"], unfollowed := true, recurses := true, named := ["strings.asciiSpace", "unicode.White_Space"], apart := false, laid := [("unicode.White_Space", laid_unicode_White_Space), ("strings.asciiSpace", laid_strings_asciiSpace)] }
def WordsJoinsSaid : Prop := wordsJoinsRow.holds Tryd.pinned (OpenSpec.ofChange wordsJoinsSpec)

/-- ITS FALSE NEIGHBOUR: 'it returns false'. Refute it at one input. -/
def wordsJoinsWrong : ChangeSpec := { name := "wordsJoins", fn := fun _ => fun
  | [d] => { results := [.lit (.bool false)], args := [d] }
  | _ => none }
def WordsJoinsWrongFalsely : Prop := wordsJoinsRow.holds Tryd.pinned (OpenSpec.ofChange wordsJoinsWrong)

/-- 'whilomlaw20.WordsLines': WHATEVER THE INPUT: true; the input reads as it did. -/
def wordsLinesSpec : ChangeSpec := { name := "wordsLines", fn := fun _ => fun
  | [d] => { results := [.lit (.bool true)], args := [d] }
  | _ => none }
def wordsLinesRow : OpenClaim := { program := "ytddmlhcjbifkoaadoor", sum := "91c6c7dd9f3dc92090a57408bf6196684931390a80a749166e4acfc90b586572", func := "whilom/whilomlaw20.WordsLines", spec := "wordsLines", inPlace := ["internal/bytealg.CountString", "internal/bytealg.IndexByteString", "internal/bytealg.IndexString"], unfollowed := true, recurses := true, named := ["strings.asciiSpace", "unicode.White_Space", "unicode/utf8.first", "unicode/utf8.acceptRanges", "internal/bytealg.MaxLen"], apart := false, laid := [("unicode/utf8.acceptRanges", laid_unicode_utf8_acceptRanges), ("unicode.White_Space", laid_unicode_White_Space), ("strings.asciiSpace", laid_strings_asciiSpace), ("unicode/utf8.first", laid_unicode_utf8_first)] }
def WordsLinesSaid : Prop := wordsLinesRow.holds Tryd.pinned (OpenSpec.ofChange wordsLinesSpec)

/-- ITS FALSE NEIGHBOUR: 'it returns false'. Refute it at one input. -/
def wordsLinesWrong : ChangeSpec := { name := "wordsLines", fn := fun _ => fun
  | [d] => { results := [.lit (.bool false)], args := [d] }
  | _ => none }
def WordsLinesWrongFalsely : Prop := wordsLinesRow.holds Tryd.pinned (OpenSpec.ofChange wordsLinesWrong)

/-- 'whilomlaw02.ItemOrders': WHATEVER THE INPUT: true; the input reads as it did. -/
def itemOrdersSpec : ChangeSpec := { name := "itemOrders", fn := fun _ => fun
  | [d1, d2, d3] => { results := [.lit (.bool true)], args := [d1, d2, d3] }
  | _ => none }
def itemOrdersRow : OpenClaim := { program := "ytddmlhcjbifkoaadoor", sum := "91c6c7dd9f3dc92090a57408bf6196684931390a80a749166e4acfc90b586572", func := "whilom/whilomlaw02.ItemOrders", spec := "itemOrders", inPlace := ["internal/bytealg.IndexByteString", "internal/bytealg.IndexString"], named := ["internal/bytealg.MaxLen", "strconv.ErrSyntax", "strconv.ErrRange", "internal/strconv.uint64pow10", "math/bits.deBruijn32tab", "math/bits.deBruijn64tab"], apart := false, laid := [("math/bits.deBruijn32tab", laid_math_bits_deBruijn32tab), ("math/bits.deBruijn64tab", laid_math_bits_deBruijn64tab), ("internal/strconv.uint64pow10", laid_internal_strconv_uint64pow10), ("strconv.ErrRange", laid_strconv_ErrRange), ("strconv.ErrSyntax", laid_strconv_ErrSyntax)] }
def ItemOrdersSaid : Prop := itemOrdersRow.holds Tryd.pinned (OpenSpec.ofChange itemOrdersSpec)

/-- ITS FALSE NEIGHBOUR: 'it returns false'. Refute it at one input. -/
def itemOrdersWrong : ChangeSpec := { name := "itemOrders", fn := fun _ => fun
  | [d1, d2, d3] => { results := [.lit (.bool false)], args := [d1, d2, d3] }
  | _ => none }
def ItemOrdersWrongFalsely : Prop := itemOrdersRow.holds Tryd.pinned (OpenSpec.ofChange itemOrdersWrong)

/-- 'whilomlaw02.ItemTexts': WHATEVER THE INPUT: true; the input reads as it did. -/
def itemTextsSpec : ChangeSpec := { name := "itemTexts", fn := fun _ => fun
  | [d] => { results := [.lit (.bool true)], args := [d] }
  | _ => none }
def itemTextsRow : OpenClaim := { program := "ytddmlhcjbifkoaadoor", sum := "91c6c7dd9f3dc92090a57408bf6196684931390a80a749166e4acfc90b586572", func := "whilom/whilomlaw02.ItemTexts", spec := "itemTexts", inPlace := ["internal/bytealg.IndexByteString", "internal/bytealg.IndexString"], named := ["internal/bytealg.MaxLen", "strconv.ErrSyntax", "strconv.ErrRange", "internal/strconv.uint64pow10", "math/bits.deBruijn32tab", "math/bits.deBruijn64tab"], apart := false, laid := [("math/bits.deBruijn32tab", laid_math_bits_deBruijn32tab), ("math/bits.deBruijn64tab", laid_math_bits_deBruijn64tab), ("internal/strconv.uint64pow10", laid_internal_strconv_uint64pow10), ("strconv.ErrRange", laid_strconv_ErrRange), ("strconv.ErrSyntax", laid_strconv_ErrSyntax)] }
def ItemTextsSaid : Prop := itemTextsRow.holds Tryd.pinned (OpenSpec.ofChange itemTextsSpec)

/-- ITS FALSE NEIGHBOUR: 'it returns false'. Refute it at one input. -/
def itemTextsWrong : ChangeSpec := { name := "itemTexts", fn := fun _ => fun
  | [d] => { results := [.lit (.bool false)], args := [d] }
  | _ => none }
def ItemTextsWrongFalsely : Prop := itemTextsRow.holds Tryd.pinned (OpenSpec.ofChange itemTextsWrong)

/-- 'whilomlaw02.ItemReads': WHATEVER THE INPUT: true; the input reads as it did. -/
def itemReadsSpec : ChangeSpec := { name := "itemReads", fn := fun _ => fun
  | [d] => { results := [.lit (.bool true)], args := [d] }
  | _ => none }
def itemReadsRow : OpenClaim := { program := "ytddmlhcjbifkoaadoor", sum := "91c6c7dd9f3dc92090a57408bf6196684931390a80a749166e4acfc90b586572", func := "whilom/whilomlaw02.ItemReads", spec := "itemReads", inPlace := ["internal/bytealg.IndexByteString", "internal/bytealg.IndexString"], named := ["internal/bytealg.MaxLen", "strconv.ErrSyntax", "strconv.ErrRange", "internal/strconv.uint64pow10", "math/bits.deBruijn32tab", "math/bits.deBruijn64tab"], apart := false, laid := [("math/bits.deBruijn32tab", laid_math_bits_deBruijn32tab), ("math/bits.deBruijn64tab", laid_math_bits_deBruijn64tab), ("internal/strconv.uint64pow10", laid_internal_strconv_uint64pow10), ("strconv.ErrRange", laid_strconv_ErrRange), ("strconv.ErrSyntax", laid_strconv_ErrSyntax)] }
def ItemReadsSaid : Prop := itemReadsRow.holds Tryd.pinned (OpenSpec.ofChange itemReadsSpec)

/-- ITS FALSE NEIGHBOUR: 'it returns false'. Refute it at one input. -/
def itemReadsWrong : ChangeSpec := { name := "itemReads", fn := fun _ => fun
  | [d] => { results := [.lit (.bool false)], args := [d] }
  | _ => none }
def ItemReadsWrongFalsely : Prop := itemReadsRow.holds Tryd.pinned (OpenSpec.ofChange itemReadsWrong)

/-- 'whilomlaw02.ItemApart': WHATEVER THE INPUT: true; the input reads as it did. -/
def itemApartSpec : ChangeSpec := { name := "itemApart", fn := fun _ => fun
  | [d1, d2] => { results := [.lit (.bool true)], args := [d1, d2] }
  | _ => none }
def itemApartRow : OpenClaim := { program := "ytddmlhcjbifkoaadoor", sum := "91c6c7dd9f3dc92090a57408bf6196684931390a80a749166e4acfc90b586572", func := "whilom/whilomlaw02.ItemApart", spec := "itemApart", inPlace := ["internal/bytealg.IndexByteString", "internal/bytealg.IndexString"], named := ["internal/bytealg.MaxLen", "strconv.ErrSyntax", "strconv.ErrRange", "internal/strconv.uint64pow10", "math/bits.deBruijn32tab", "math/bits.deBruijn64tab"], apart := false, laid := [("math/bits.deBruijn32tab", laid_math_bits_deBruijn32tab), ("math/bits.deBruijn64tab", laid_math_bits_deBruijn64tab), ("internal/strconv.uint64pow10", laid_internal_strconv_uint64pow10), ("strconv.ErrRange", laid_strconv_ErrRange), ("strconv.ErrSyntax", laid_strconv_ErrSyntax)] }
def ItemApartSaid : Prop := itemApartRow.holds Tryd.pinned (OpenSpec.ofChange itemApartSpec)

/-- ITS FALSE NEIGHBOUR: 'it returns false'. Refute it at one input. -/
def itemApartWrong : ChangeSpec := { name := "itemApart", fn := fun _ => fun
  | [d1, d2] => { results := [.lit (.bool false)], args := [d1, d2] }
  | _ => none }
def ItemApartWrongFalsely : Prop := itemApartRow.holds Tryd.pinned (OpenSpec.ofChange itemApartWrong)

/-- 'whilomlaw21.VerbParses': WHATEVER THE INPUT: true; the input reads as it did. -/
def verbParsesSpec : ChangeSpec := { name := "verbParses", fn := fun _ => fun
  | [d] => { results := [.lit (.bool true)], args := [d] }
  | _ => none }
def verbParsesRow : OpenClaim := { program := "ytddmlhcjbifkoaadoor", sum := "91c6c7dd9f3dc92090a57408bf6196684931390a80a749166e4acfc90b586572", func := "whilom/whilomlaw21.VerbParses", spec := "verbParses", inPlace := ["internal/bytealg.IndexByteString", "internal/bytealg.IndexString"], named := ["whilom/verb.commands", "strconv.ErrSyntax", "strconv.ErrRange", "internal/strconv.uint64pow10", "math/bits.deBruijn32tab", "math/bits.deBruijn64tab", "internal/bytealg.MaxLen"], apart := false, laid := [("math/bits.deBruijn32tab", laid_math_bits_deBruijn32tab), ("math/bits.deBruijn64tab", laid_math_bits_deBruijn64tab), ("internal/strconv.uint64pow10", laid_internal_strconv_uint64pow10), ("strconv.ErrRange", laid_strconv_ErrRange), ("strconv.ErrSyntax", laid_strconv_ErrSyntax), ("whilom/verb.commands", laid_whilom_verb_commands)] }
def VerbParsesSaid : Prop := verbParsesRow.holds Tryd.pinned (OpenSpec.ofChange verbParsesSpec)

/-- ITS FALSE NEIGHBOUR: 'it returns false'. Refute it at one input. -/
def verbParsesWrong : ChangeSpec := { name := "verbParses", fn := fun _ => fun
  | [d] => { results := [.lit (.bool false)], args := [d] }
  | _ => none }
def VerbParsesWrongFalsely : Prop := verbParsesRow.holds Tryd.pinned (OpenSpec.ofChange verbParsesWrong)

/-- 'whilomlaw21.VerbTexts': WHATEVER THE INPUT: true; the input reads as it did. -/
def verbTextsSpec : ChangeSpec := { name := "verbTexts", fn := fun _ => fun
  | [d1, d2] => { results := [.lit (.bool true)], args := [d1, d2] }
  | _ => none }
def verbTextsRow : OpenClaim := { program := "ytddmlhcjbifkoaadoor", sum := "91c6c7dd9f3dc92090a57408bf6196684931390a80a749166e4acfc90b586572", func := "whilom/whilomlaw21.VerbTexts", spec := "verbTexts", inPlace := ["internal/bytealg.IndexByteString", "internal/bytealg.IndexString"], named := ["whilom/verb.commands", "strconv.ErrSyntax", "strconv.ErrRange", "internal/strconv.uint64pow10", "math/bits.deBruijn32tab", "math/bits.deBruijn64tab", "internal/bytealg.MaxLen"], apart := false, laid := [("math/bits.deBruijn32tab", laid_math_bits_deBruijn32tab), ("math/bits.deBruijn64tab", laid_math_bits_deBruijn64tab), ("internal/strconv.uint64pow10", laid_internal_strconv_uint64pow10), ("strconv.ErrRange", laid_strconv_ErrRange), ("strconv.ErrSyntax", laid_strconv_ErrSyntax), ("whilom/verb.commands", laid_whilom_verb_commands)] }
def VerbTextsSaid : Prop := verbTextsRow.holds Tryd.pinned (OpenSpec.ofChange verbTextsSpec)

/-- ITS FALSE NEIGHBOUR: 'it returns false'. Refute it at one input. -/
def verbTextsWrong : ChangeSpec := { name := "verbTexts", fn := fun _ => fun
  | [d1, d2] => { results := [.lit (.bool false)], args := [d1, d2] }
  | _ => none }
def VerbTextsWrongFalsely : Prop := verbTextsRow.holds Tryd.pinned (OpenSpec.ofChange verbTextsWrong)

/-- 'whilomlaw21.VerbShows': WHATEVER THE INPUT: true; the input reads as it did. -/
def verbShowsSpec : ChangeSpec := { name := "verbShows", fn := fun _ => fun
  | [d] => { results := [.lit (.bool true)], args := [d] }
  | _ => none }
def verbShowsRow : OpenClaim := { program := "ytddmlhcjbifkoaadoor", sum := "91c6c7dd9f3dc92090a57408bf6196684931390a80a749166e4acfc90b586572", func := "whilom/whilomlaw21.VerbShows", spec := "verbShows", inPlace := ["internal/bytealg.IndexByteString", "internal/bytealg.IndexString", "internal/abi.NoEscape", "internal/bytealg.MakeNoZero"], unfollowed := true, recurses := true, named := ["whilom/verb.commands", "strconv.ErrSyntax", "strconv.ErrRange", "internal/strconv.uint64pow10", "math/bits.deBruijn32tab", "math/bits.deBruijn64tab", "internal/bytealg.MaxLen"], apart := false, laid := [("math/bits.deBruijn32tab", laid_math_bits_deBruijn32tab), ("math/bits.deBruijn64tab", laid_math_bits_deBruijn64tab), ("internal/strconv.uint64pow10", laid_internal_strconv_uint64pow10), ("strconv.ErrRange", laid_strconv_ErrRange), ("strconv.ErrSyntax", laid_strconv_ErrSyntax), ("whilom/verb.commands", laid_whilom_verb_commands)] }
def VerbShowsSaid : Prop := verbShowsRow.holds Tryd.pinned (OpenSpec.ofChange verbShowsSpec)

/-- ITS FALSE NEIGHBOUR: 'it returns false'. Refute it at one input. -/
def verbShowsWrong : ChangeSpec := { name := "verbShows", fn := fun _ => fun
  | [d] => { results := [.lit (.bool false)], args := [d] }
  | _ => none }
def VerbShowsWrongFalsely : Prop := verbShowsRow.holds Tryd.pinned (OpenSpec.ofChange verbShowsWrong)

/-- 'whilomlaw21.VerbApart': WHATEVER THE INPUT: true; the input reads as it did. -/
def verbApartSpec : ChangeSpec := { name := "verbApart", fn := fun _ => fun
  | [d1, d2] => { results := [.lit (.bool true)], args := [d1, d2] }
  | _ => none }
def verbApartRow : OpenClaim := { program := "ytddmlhcjbifkoaadoor", sum := "91c6c7dd9f3dc92090a57408bf6196684931390a80a749166e4acfc90b586572", func := "whilom/whilomlaw21.VerbApart", spec := "verbApart", inPlace := ["internal/bytealg.IndexByteString", "internal/bytealg.IndexString", "internal/abi.NoEscape", "internal/bytealg.MakeNoZero"], unfollowed := true, recurses := true, named := ["whilom/verb.commands", "strconv.ErrSyntax", "strconv.ErrRange", "internal/strconv.uint64pow10", "math/bits.deBruijn32tab", "math/bits.deBruijn64tab", "internal/bytealg.MaxLen"], apart := false, laid := [("math/bits.deBruijn32tab", laid_math_bits_deBruijn32tab), ("math/bits.deBruijn64tab", laid_math_bits_deBruijn64tab), ("internal/strconv.uint64pow10", laid_internal_strconv_uint64pow10), ("strconv.ErrRange", laid_strconv_ErrRange), ("strconv.ErrSyntax", laid_strconv_ErrSyntax), ("whilom/verb.commands", laid_whilom_verb_commands)] }
def VerbApartSaid : Prop := verbApartRow.holds Tryd.pinned (OpenSpec.ofChange verbApartSpec)

/-- ITS FALSE NEIGHBOUR: 'it returns false'. Refute it at one input. -/
def verbApartWrong : ChangeSpec := { name := "verbApart", fn := fun _ => fun
  | [d1, d2] => { results := [.lit (.bool false)], args := [d1, d2] }
  | _ => none }
def VerbApartWrongFalsely : Prop := verbApartRow.holds Tryd.pinned (OpenSpec.ofChange verbApartWrong)

/-- 'whilomlaw02.ItemSorts': WHATEVER THE INPUT: true; the input reads as it did. -/
def itemSortsSpec : ChangeSpec := { name := "itemSorts", fn := fun _ => fun
  | [d] => { results := [.lit (.bool true)], args := [d] }
  | _ => none }
def itemSortsRow : OpenClaim := { program := "ytddmlhcjbifkoaadoor", sum := "91c6c7dd9f3dc92090a57408bf6196684931390a80a749166e4acfc90b586572", func := "whilom/whilomlaw02.ItemSorts", spec := "itemSorts", inPlace := ["internal/bytealg.IndexByteString", "internal/bytealg.IndexString"], unfollowed := true, recurses := true, named := ["internal/bytealg.MaxLen", "strconv.ErrSyntax", "strconv.ErrRange", "internal/strconv.uint64pow10", "math/bits.deBruijn32tab", "math/bits.deBruijn64tab"], apart := false, laid := [("math/bits.deBruijn32tab", laid_math_bits_deBruijn32tab), ("math/bits.deBruijn64tab", laid_math_bits_deBruijn64tab), ("internal/strconv.uint64pow10", laid_internal_strconv_uint64pow10), ("strconv.ErrRange", laid_strconv_ErrRange), ("strconv.ErrSyntax", laid_strconv_ErrSyntax)] }
def ItemSortsSaid : Prop := itemSortsRow.holds Tryd.pinned (OpenSpec.ofChange itemSortsSpec)

/-- ITS FALSE NEIGHBOUR: 'it returns false'. Refute it at one input. -/
def itemSortsWrong : ChangeSpec := { name := "itemSorts", fn := fun _ => fun
  | [d] => { results := [.lit (.bool false)], args := [d] }
  | _ => none }
def ItemSortsWrongFalsely : Prop := itemSortsRow.holds Tryd.pinned (OpenSpec.ofChange itemSortsWrong)

/- THE SECOND FORM. 'bulk': how many values and letters a reading holds, each counted each time it is reached (what is shared counts as often as it is met; a slice's spare places count too). A statement '..UptoSaid' is the law's where the arguments, and the package variables that the reading takes, are together of bulk at most 1048576: NARROWER than '..Said'. Prove '..Said' where nothing that the law and all that it calls make is longer than what came in: it says more and counts as full. Else prove '..UptoSaid'. A law counts once. -/
mutual
def uptoBulk {H : Type} : DataW H → Nat
  | .lit (.string bytes) => bytes.length + 1
  | .lit _ => 1
  | .nil => 1
  | .ptr d => uptoBulk d + 1
  | .slice elems spare => uptoBulkAll elems + uptoBulkAll spare + 1
  | .agg parts => uptoBulkAll parts + 1
  | .iface _ d => uptoBulk d + 1
  | .map entries => uptoBulkEntries entries + 1
  | .held _ => 1
def uptoBulkAll {H : Type} : List (DataW H) → Nat
  | [] => 0
  | d :: r => uptoBulk d + uptoBulkAll r
def uptoBulkEntries {H : Type} : List (Lit × DataW H) → Nat
  | [] => 0
  | x :: r => uptoBulkEntry x + uptoBulkEntries r
def uptoBulkEntry {H : Type} : Lit × DataW H → Nat
  | (.string bytes, d) => bytes.length + uptoBulk d + 1
  | (_, d) => uptoBulk d + 1
 end
def uptoSmall : (H : Type) → List (DataW H) → Bool := fun _ ds => decide (uptoBulkAll ds ≤ 1048576)
def OpenSpec.upto (s : _root_.Go.ChangeSpec) : _root_.Go.OpenSpec := { _root_.Go.OpenSpec.ofChange s with cond := some uptoSmall }

/-- 'whilomlaw20.WordsSplits', WHERE WHAT IT READS IS OF BULK AT MOST 1048576: true; the input reads as it did. -/
def wordsSplitsUptoRow : OpenClaim := { program := "ytddmlhcjbifkoaadoor", sum := "91c6c7dd9f3dc92090a57408bf6196684931390a80a749166e4acfc90b586572", func := "whilom/whilomlaw20.WordsSplits", spec := "wordsSplits", unfollowed := true, recurses := true, named := ["strings.asciiSpace", "unicode.White_Space"], apart := false, laid := [("unicode.White_Space", laid_unicode_White_Space), ("strings.asciiSpace", laid_strings_asciiSpace)], narrowed := true }
def WordsSplitsUptoSaid : Prop := wordsSplitsUptoRow.holds Tryd.pinned (OpenSpec.upto wordsSplitsSpec)

/-- 'whilomlaw20.WordsBlanks', WHERE WHAT IT READS IS OF BULK AT MOST 1048576: true; the input reads as it did. -/
def wordsBlanksUptoRow : OpenClaim := { program := "ytddmlhcjbifkoaadoor", sum := "91c6c7dd9f3dc92090a57408bf6196684931390a80a749166e4acfc90b586572", func := "whilom/whilomlaw20.WordsBlanks", spec := "wordsBlanks", unfollowed := true, recurses := true, named := ["strings.asciiSpace", "unicode.White_Space"], apart := false, laid := [("unicode.White_Space", laid_unicode_White_Space), ("strings.asciiSpace", laid_strings_asciiSpace)], narrowed := true }
def WordsBlanksUptoSaid : Prop := wordsBlanksUptoRow.holds Tryd.pinned (OpenSpec.upto wordsBlanksSpec)

/-- 'whilomlaw20.WordsJoins', WHERE WHAT IT READS IS OF BULK AT MOST 1048576: true; the input reads as it did. -/
def wordsJoinsUptoRow : OpenClaim := { program := "ytddmlhcjbifkoaadoor", sum := "91c6c7dd9f3dc92090a57408bf6196684931390a80a749166e4acfc90b586572", func := "whilom/whilomlaw20.WordsJoins", spec := "wordsJoins", inPlace := ["internal/abi.NoEscape", "internal/bytealg.MakeNoZero"], unfollowed := true, recurses := true, named := ["strings.asciiSpace", "unicode.White_Space"], apart := false, laid := [("unicode.White_Space", laid_unicode_White_Space), ("strings.asciiSpace", laid_strings_asciiSpace)], narrowed := true }
def WordsJoinsUptoSaid : Prop := wordsJoinsUptoRow.holds Tryd.pinned (OpenSpec.upto wordsJoinsSpec)

/-- 'whilomlaw20.WordsLines', WHERE WHAT IT READS IS OF BULK AT MOST 1048576: true; the input reads as it did. -/
def wordsLinesUptoRow : OpenClaim := { program := "ytddmlhcjbifkoaadoor", sum := "91c6c7dd9f3dc92090a57408bf6196684931390a80a749166e4acfc90b586572", func := "whilom/whilomlaw20.WordsLines", spec := "wordsLines", inPlace := ["internal/bytealg.CountString", "internal/bytealg.IndexByteString", "internal/bytealg.IndexString"], unfollowed := true, recurses := true, named := ["strings.asciiSpace", "unicode.White_Space", "unicode/utf8.first", "unicode/utf8.acceptRanges", "internal/bytealg.MaxLen"], apart := false, laid := [("unicode/utf8.acceptRanges", laid_unicode_utf8_acceptRanges), ("unicode.White_Space", laid_unicode_White_Space), ("strings.asciiSpace", laid_strings_asciiSpace), ("unicode/utf8.first", laid_unicode_utf8_first)], narrowed := true }
def WordsLinesUptoSaid : Prop := wordsLinesUptoRow.holds Tryd.pinned (OpenSpec.upto wordsLinesSpec)

/-- 'whilomlaw02.ItemOrders', WHERE WHAT IT READS IS OF BULK AT MOST 1048576: true; the input reads as it did. -/
def itemOrdersUptoRow : OpenClaim := { program := "ytddmlhcjbifkoaadoor", sum := "91c6c7dd9f3dc92090a57408bf6196684931390a80a749166e4acfc90b586572", func := "whilom/whilomlaw02.ItemOrders", spec := "itemOrders", inPlace := ["internal/bytealg.IndexByteString", "internal/bytealg.IndexString"], named := ["internal/bytealg.MaxLen", "strconv.ErrSyntax", "strconv.ErrRange", "internal/strconv.uint64pow10", "math/bits.deBruijn32tab", "math/bits.deBruijn64tab"], apart := false, laid := [("math/bits.deBruijn32tab", laid_math_bits_deBruijn32tab), ("math/bits.deBruijn64tab", laid_math_bits_deBruijn64tab), ("internal/strconv.uint64pow10", laid_internal_strconv_uint64pow10), ("strconv.ErrRange", laid_strconv_ErrRange), ("strconv.ErrSyntax", laid_strconv_ErrSyntax)], narrowed := true }
def ItemOrdersUptoSaid : Prop := itemOrdersUptoRow.holds Tryd.pinned (OpenSpec.upto itemOrdersSpec)

/-- 'whilomlaw02.ItemTexts', WHERE WHAT IT READS IS OF BULK AT MOST 1048576: true; the input reads as it did. -/
def itemTextsUptoRow : OpenClaim := { program := "ytddmlhcjbifkoaadoor", sum := "91c6c7dd9f3dc92090a57408bf6196684931390a80a749166e4acfc90b586572", func := "whilom/whilomlaw02.ItemTexts", spec := "itemTexts", inPlace := ["internal/bytealg.IndexByteString", "internal/bytealg.IndexString"], named := ["internal/bytealg.MaxLen", "strconv.ErrSyntax", "strconv.ErrRange", "internal/strconv.uint64pow10", "math/bits.deBruijn32tab", "math/bits.deBruijn64tab"], apart := false, laid := [("math/bits.deBruijn32tab", laid_math_bits_deBruijn32tab), ("math/bits.deBruijn64tab", laid_math_bits_deBruijn64tab), ("internal/strconv.uint64pow10", laid_internal_strconv_uint64pow10), ("strconv.ErrRange", laid_strconv_ErrRange), ("strconv.ErrSyntax", laid_strconv_ErrSyntax)], narrowed := true }
def ItemTextsUptoSaid : Prop := itemTextsUptoRow.holds Tryd.pinned (OpenSpec.upto itemTextsSpec)

/-- 'whilomlaw02.ItemReads', WHERE WHAT IT READS IS OF BULK AT MOST 1048576: true; the input reads as it did. -/
def itemReadsUptoRow : OpenClaim := { program := "ytddmlhcjbifkoaadoor", sum := "91c6c7dd9f3dc92090a57408bf6196684931390a80a749166e4acfc90b586572", func := "whilom/whilomlaw02.ItemReads", spec := "itemReads", inPlace := ["internal/bytealg.IndexByteString", "internal/bytealg.IndexString"], named := ["internal/bytealg.MaxLen", "strconv.ErrSyntax", "strconv.ErrRange", "internal/strconv.uint64pow10", "math/bits.deBruijn32tab", "math/bits.deBruijn64tab"], apart := false, laid := [("math/bits.deBruijn32tab", laid_math_bits_deBruijn32tab), ("math/bits.deBruijn64tab", laid_math_bits_deBruijn64tab), ("internal/strconv.uint64pow10", laid_internal_strconv_uint64pow10), ("strconv.ErrRange", laid_strconv_ErrRange), ("strconv.ErrSyntax", laid_strconv_ErrSyntax)], narrowed := true }
def ItemReadsUptoSaid : Prop := itemReadsUptoRow.holds Tryd.pinned (OpenSpec.upto itemReadsSpec)

/-- 'whilomlaw02.ItemApart', WHERE WHAT IT READS IS OF BULK AT MOST 1048576: true; the input reads as it did. -/
def itemApartUptoRow : OpenClaim := { program := "ytddmlhcjbifkoaadoor", sum := "91c6c7dd9f3dc92090a57408bf6196684931390a80a749166e4acfc90b586572", func := "whilom/whilomlaw02.ItemApart", spec := "itemApart", inPlace := ["internal/bytealg.IndexByteString", "internal/bytealg.IndexString"], named := ["internal/bytealg.MaxLen", "strconv.ErrSyntax", "strconv.ErrRange", "internal/strconv.uint64pow10", "math/bits.deBruijn32tab", "math/bits.deBruijn64tab"], apart := false, laid := [("math/bits.deBruijn32tab", laid_math_bits_deBruijn32tab), ("math/bits.deBruijn64tab", laid_math_bits_deBruijn64tab), ("internal/strconv.uint64pow10", laid_internal_strconv_uint64pow10), ("strconv.ErrRange", laid_strconv_ErrRange), ("strconv.ErrSyntax", laid_strconv_ErrSyntax)], narrowed := true }
def ItemApartUptoSaid : Prop := itemApartUptoRow.holds Tryd.pinned (OpenSpec.upto itemApartSpec)

/-- 'whilomlaw21.VerbParses', WHERE WHAT IT READS IS OF BULK AT MOST 1048576: true; the input reads as it did. -/
def verbParsesUptoRow : OpenClaim := { program := "ytddmlhcjbifkoaadoor", sum := "91c6c7dd9f3dc92090a57408bf6196684931390a80a749166e4acfc90b586572", func := "whilom/whilomlaw21.VerbParses", spec := "verbParses", inPlace := ["internal/bytealg.IndexByteString", "internal/bytealg.IndexString"], named := ["whilom/verb.commands", "strconv.ErrSyntax", "strconv.ErrRange", "internal/strconv.uint64pow10", "math/bits.deBruijn32tab", "math/bits.deBruijn64tab", "internal/bytealg.MaxLen"], apart := false, laid := [("math/bits.deBruijn32tab", laid_math_bits_deBruijn32tab), ("math/bits.deBruijn64tab", laid_math_bits_deBruijn64tab), ("internal/strconv.uint64pow10", laid_internal_strconv_uint64pow10), ("strconv.ErrRange", laid_strconv_ErrRange), ("strconv.ErrSyntax", laid_strconv_ErrSyntax), ("whilom/verb.commands", laid_whilom_verb_commands)], narrowed := true }
def VerbParsesUptoSaid : Prop := verbParsesUptoRow.holds Tryd.pinned (OpenSpec.upto verbParsesSpec)

/-- 'whilomlaw21.VerbTexts', WHERE WHAT IT READS IS OF BULK AT MOST 1048576: true; the input reads as it did. -/
def verbTextsUptoRow : OpenClaim := { program := "ytddmlhcjbifkoaadoor", sum := "91c6c7dd9f3dc92090a57408bf6196684931390a80a749166e4acfc90b586572", func := "whilom/whilomlaw21.VerbTexts", spec := "verbTexts", inPlace := ["internal/bytealg.IndexByteString", "internal/bytealg.IndexString"], named := ["whilom/verb.commands", "strconv.ErrSyntax", "strconv.ErrRange", "internal/strconv.uint64pow10", "math/bits.deBruijn32tab", "math/bits.deBruijn64tab", "internal/bytealg.MaxLen"], apart := false, laid := [("math/bits.deBruijn32tab", laid_math_bits_deBruijn32tab), ("math/bits.deBruijn64tab", laid_math_bits_deBruijn64tab), ("internal/strconv.uint64pow10", laid_internal_strconv_uint64pow10), ("strconv.ErrRange", laid_strconv_ErrRange), ("strconv.ErrSyntax", laid_strconv_ErrSyntax), ("whilom/verb.commands", laid_whilom_verb_commands)], narrowed := true }
def VerbTextsUptoSaid : Prop := verbTextsUptoRow.holds Tryd.pinned (OpenSpec.upto verbTextsSpec)

/-- 'whilomlaw21.VerbShows', WHERE WHAT IT READS IS OF BULK AT MOST 1048576: true; the input reads as it did. -/
def verbShowsUptoRow : OpenClaim := { program := "ytddmlhcjbifkoaadoor", sum := "91c6c7dd9f3dc92090a57408bf6196684931390a80a749166e4acfc90b586572", func := "whilom/whilomlaw21.VerbShows", spec := "verbShows", inPlace := ["internal/bytealg.IndexByteString", "internal/bytealg.IndexString", "internal/abi.NoEscape", "internal/bytealg.MakeNoZero"], unfollowed := true, recurses := true, named := ["whilom/verb.commands", "strconv.ErrSyntax", "strconv.ErrRange", "internal/strconv.uint64pow10", "math/bits.deBruijn32tab", "math/bits.deBruijn64tab", "internal/bytealg.MaxLen"], apart := false, laid := [("math/bits.deBruijn32tab", laid_math_bits_deBruijn32tab), ("math/bits.deBruijn64tab", laid_math_bits_deBruijn64tab), ("internal/strconv.uint64pow10", laid_internal_strconv_uint64pow10), ("strconv.ErrRange", laid_strconv_ErrRange), ("strconv.ErrSyntax", laid_strconv_ErrSyntax), ("whilom/verb.commands", laid_whilom_verb_commands)], narrowed := true }
def VerbShowsUptoSaid : Prop := verbShowsUptoRow.holds Tryd.pinned (OpenSpec.upto verbShowsSpec)

/-- 'whilomlaw21.VerbApart', WHERE WHAT IT READS IS OF BULK AT MOST 1048576: true; the input reads as it did. -/
def verbApartUptoRow : OpenClaim := { program := "ytddmlhcjbifkoaadoor", sum := "91c6c7dd9f3dc92090a57408bf6196684931390a80a749166e4acfc90b586572", func := "whilom/whilomlaw21.VerbApart", spec := "verbApart", inPlace := ["internal/bytealg.IndexByteString", "internal/bytealg.IndexString", "internal/abi.NoEscape", "internal/bytealg.MakeNoZero"], unfollowed := true, recurses := true, named := ["whilom/verb.commands", "strconv.ErrSyntax", "strconv.ErrRange", "internal/strconv.uint64pow10", "math/bits.deBruijn32tab", "math/bits.deBruijn64tab", "internal/bytealg.MaxLen"], apart := false, laid := [("math/bits.deBruijn32tab", laid_math_bits_deBruijn32tab), ("math/bits.deBruijn64tab", laid_math_bits_deBruijn64tab), ("internal/strconv.uint64pow10", laid_internal_strconv_uint64pow10), ("strconv.ErrRange", laid_strconv_ErrRange), ("strconv.ErrSyntax", laid_strconv_ErrSyntax), ("whilom/verb.commands", laid_whilom_verb_commands)], narrowed := true }
def VerbApartUptoSaid : Prop := verbApartUptoRow.holds Tryd.pinned (OpenSpec.upto verbApartSpec)

/-- 'whilomlaw02.ItemSorts', WHERE WHAT IT READS IS OF BULK AT MOST 1048576: true; the input reads as it did. -/
def itemSortsUptoRow : OpenClaim := { program := "ytddmlhcjbifkoaadoor", sum := "91c6c7dd9f3dc92090a57408bf6196684931390a80a749166e4acfc90b586572", func := "whilom/whilomlaw02.ItemSorts", spec := "itemSorts", inPlace := ["internal/bytealg.IndexByteString", "internal/bytealg.IndexString"], unfollowed := true, recurses := true, named := ["internal/bytealg.MaxLen", "strconv.ErrSyntax", "strconv.ErrRange", "internal/strconv.uint64pow10", "math/bits.deBruijn32tab", "math/bits.deBruijn64tab"], apart := false, laid := [("math/bits.deBruijn32tab", laid_math_bits_deBruijn32tab), ("math/bits.deBruijn64tab", laid_math_bits_deBruijn64tab), ("internal/strconv.uint64pow10", laid_internal_strconv_uint64pow10), ("strconv.ErrRange", laid_strconv_ErrRange), ("strconv.ErrSyntax", laid_strconv_ErrSyntax)], narrowed := true }
def ItemSortsUptoSaid : Prop := itemSortsUptoRow.holds Tryd.pinned (OpenSpec.upto itemSortsSpec)

end Rows
end Go.Proofs.YtddmlhcjbifkoaaDoor
