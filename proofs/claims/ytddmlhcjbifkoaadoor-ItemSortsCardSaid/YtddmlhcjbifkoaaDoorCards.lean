/-
  DERIVED. GIVEN WITH THE SEED: THE CARDS: each row of YtddmlhcjbifkoaaDoorRows.lean that lists a variable, with what it lists TIED to the program's text (the seventh form; the later family's looks); each row that meets fmt, with fmt's text TOLD by the authors' own Lean function (tested against real Go, not proved from fmt's source: count such statements apart). THE CARD IS WHAT COUNTS. Prove the row's statement (the work); the ties are given (YtddmlhcjbifkoaaDoorTie.lean); close each card by the builder's one call (the guide's Derived/Test/ToyasCard.lean, 'card_holds'). Laid BY PROGRAM, IN A SANDBOX (cutbox-door.mjs). By AI agents, Wed Nov 11 2026. No macro, syntax, notation, axiom, sorry.
-/
import Derived.Test.YtddmlhcjbifkoaaDoorRows
import GoSem.ClaimSeven
namespace Go.Proofs.YtddmlhcjbifkoaaDoor
namespace Rows

/-- THE TIED CARD OF 'whilomlaw20.WordsSplits'. -/
def wordsSplitsCard : Claim7 := { stood := { row := wordsSplitsRow, standIns := [], harness := (true, "a96a5bc2e3d0c9936ed5ed5a3bb4f1441262aefa383f8474687b1c5ff43fc212"), looks := true }, kinds := [], alts := [], laidByText := true, laidKinds := [.listed, .data], laidTests := true, laidLooks := .later }
def WordsSplitsCardSaid : Prop := Claim7.holds Tryd.pinned (.plain (OpenSpec.ofChange wordsSplitsSpec)) wordsSplitsCard

/-- THE TIED CARD OF 'whilomlaw20.WordsBlanks'. -/
def wordsBlanksCard : Claim7 := { stood := { row := wordsBlanksRow, standIns := [], harness := (true, "a96a5bc2e3d0c9936ed5ed5a3bb4f1441262aefa383f8474687b1c5ff43fc212"), looks := true }, kinds := [], alts := [], laidByText := true, laidKinds := [.listed, .data], laidTests := true, laidLooks := .later }
def WordsBlanksCardSaid : Prop := Claim7.holds Tryd.pinned (.plain (OpenSpec.ofChange wordsBlanksSpec)) wordsBlanksCard

/-- THE TIED CARD OF 'whilomlaw20.WordsJoins'. -/
def wordsJoinsCard : Claim7 := { stood := { row := wordsJoinsRow, standIns := [], harness := (true, "a96a5bc2e3d0c9936ed5ed5a3bb4f1441262aefa383f8474687b1c5ff43fc212"), looks := true }, kinds := [], alts := [], laidByText := true, laidKinds := [.listed, .data], laidTests := true, laidLooks := .later }
def WordsJoinsCardSaid : Prop := Claim7.holds Tryd.pinned (.plain (OpenSpec.ofChange wordsJoinsSpec)) wordsJoinsCard

/-- THE TIED CARD OF 'whilomlaw20.WordsLines'. -/
def wordsLinesCard : Claim7 := { stood := { row := wordsLinesRow, standIns := [], harness := (true, "a96a5bc2e3d0c9936ed5ed5a3bb4f1441262aefa383f8474687b1c5ff43fc212"), looks := true }, kinds := [], alts := [], laidByText := true, laidKinds := [.data, .listed, .data, .pinned], laidTests := true, laidLooks := .later }
def WordsLinesCardSaid : Prop := Claim7.holds Tryd.pinned (.plain (OpenSpec.ofChange wordsLinesSpec)) wordsLinesCard

/-- THE TIED CARD OF 'whilomlaw02.ItemOrders'. -/
def itemOrdersCard : Claim7 := { stood := { row := itemOrdersRow, standIns := [], harness := (true, "a96a5bc2e3d0c9936ed5ed5a3bb4f1441262aefa383f8474687b1c5ff43fc212"), looks := true }, kinds := [], alts := [], laidByText := true, laidKinds := [.data, .data, .data, .sentinel, .sentinel], laidTests := true, laidLooks := .later }
def ItemOrdersCardSaid : Prop := Claim7.holds Tryd.pinned (.plain (OpenSpec.ofChange itemOrdersSpec)) itemOrdersCard

/-- THE TIED CARD OF 'whilomlaw02.ItemTexts'. -/
def itemTextsCard : Claim7 := { stood := { row := itemTextsRow, standIns := [], harness := (true, "a96a5bc2e3d0c9936ed5ed5a3bb4f1441262aefa383f8474687b1c5ff43fc212"), looks := true }, kinds := [], alts := [], laidByText := true, laidKinds := [.data, .data, .data, .sentinel, .sentinel], laidTests := true, laidLooks := .later }
def ItemTextsCardSaid : Prop := Claim7.holds Tryd.pinned (.plain (OpenSpec.ofChange itemTextsSpec)) itemTextsCard

/-- THE TIED CARD OF 'whilomlaw02.ItemReads'. -/
def itemReadsCard : Claim7 := { stood := { row := itemReadsRow, standIns := [], harness := (true, "a96a5bc2e3d0c9936ed5ed5a3bb4f1441262aefa383f8474687b1c5ff43fc212"), looks := true }, kinds := [], alts := [], laidByText := true, laidKinds := [.data, .data, .data, .sentinel, .sentinel], laidTests := true, laidLooks := .later }
def ItemReadsCardSaid : Prop := Claim7.holds Tryd.pinned (.plain (OpenSpec.ofChange itemReadsSpec)) itemReadsCard

/-- THE TIED CARD OF 'whilomlaw02.ItemApart'. -/
def itemApartCard : Claim7 := { stood := { row := itemApartRow, standIns := [], harness := (true, "a96a5bc2e3d0c9936ed5ed5a3bb4f1441262aefa383f8474687b1c5ff43fc212"), looks := true }, kinds := [], alts := [], laidByText := true, laidKinds := [.data, .data, .data, .sentinel, .sentinel], laidTests := true, laidLooks := .later }
def ItemApartCardSaid : Prop := Claim7.holds Tryd.pinned (.plain (OpenSpec.ofChange itemApartSpec)) itemApartCard

/-- THE TIED CARD OF 'whilomlaw21.VerbParses'. -/
def verbParsesCard : Claim7 := { stood := { row := verbParsesRow, standIns := [], harness := (true, "a96a5bc2e3d0c9936ed5ed5a3bb4f1441262aefa383f8474687b1c5ff43fc212"), looks := true }, kinds := [], alts := [], laidByText := true, laidKinds := [.data, .data, .data, .sentinel, .sentinel, .data], laidTests := true, laidLooks := .later }
def VerbParsesCardSaid : Prop := Claim7.holds Tryd.pinned (.plain (OpenSpec.ofChange verbParsesSpec)) verbParsesCard

/-- THE TIED CARD OF 'whilomlaw21.VerbTexts'. -/
def verbTextsCard : Claim7 := { stood := { row := verbTextsRow, standIns := [], harness := (true, "a96a5bc2e3d0c9936ed5ed5a3bb4f1441262aefa383f8474687b1c5ff43fc212"), looks := true }, kinds := [], alts := [], laidByText := true, laidKinds := [.data, .data, .data, .sentinel, .sentinel, .data], laidTests := true, laidLooks := .later }
def VerbTextsCardSaid : Prop := Claim7.holds Tryd.pinned (.plain (OpenSpec.ofChange verbTextsSpec)) verbTextsCard

/-- THE TIED CARD OF 'whilomlaw21.VerbShows'. -/
def verbShowsCard : Claim7 := { stood := { row := verbShowsRow, standIns := [], harness := (true, "a96a5bc2e3d0c9936ed5ed5a3bb4f1441262aefa383f8474687b1c5ff43fc212"), looks := true }, kinds := [], alts := [], laidByText := true, laidKinds := [.data, .data, .data, .sentinel, .sentinel, .data], laidTests := true, laidLooks := .later }
def VerbShowsCardSaid : Prop := Claim7.holds Tryd.pinned (.plain (OpenSpec.ofChange verbShowsSpec)) verbShowsCard

/-- THE TIED CARD OF 'whilomlaw21.VerbApart'. -/
def verbApartCard : Claim7 := { stood := { row := verbApartRow, standIns := [], harness := (true, "a96a5bc2e3d0c9936ed5ed5a3bb4f1441262aefa383f8474687b1c5ff43fc212"), looks := true }, kinds := [], alts := [], laidByText := true, laidKinds := [.data, .data, .data, .sentinel, .sentinel, .data], laidTests := true, laidLooks := .later }
def VerbApartCardSaid : Prop := Claim7.holds Tryd.pinned (.plain (OpenSpec.ofChange verbApartSpec)) verbApartCard

/-- THE TIED CARD OF 'whilomlaw02.ItemSorts'. -/
def itemSortsCard : Claim7 := { stood := { row := itemSortsRow, standIns := [], harness := (true, "a96a5bc2e3d0c9936ed5ed5a3bb4f1441262aefa383f8474687b1c5ff43fc212"), looks := true }, kinds := [], alts := [], laidByText := true, laidKinds := [.data, .data, .data, .sentinel, .sentinel], laidTests := true, laidLooks := .later }
def ItemSortsCardSaid : Prop := Claim7.holds Tryd.pinned (.plain (OpenSpec.ofChange itemSortsSpec)) itemSortsCard

/-- THE SECOND FORM's CARD OF 'whilomlaw20.WordsSplits'. -/
def wordsSplitsUptoCard : Claim7 := { stood := { row := wordsSplitsUptoRow, standIns := [], harness := (true, "a96a5bc2e3d0c9936ed5ed5a3bb4f1441262aefa383f8474687b1c5ff43fc212"), looks := true }, kinds := [], alts := [], laidByText := true, laidKinds := [.listed, .data], laidTests := true, laidLooks := .later }
def WordsSplitsUptoCardSaid : Prop := Claim7.holds Tryd.pinned (.plain (OpenSpec.upto wordsSplitsSpec)) wordsSplitsUptoCard

/-- THE SECOND FORM's CARD OF 'whilomlaw20.WordsBlanks'. -/
def wordsBlanksUptoCard : Claim7 := { stood := { row := wordsBlanksUptoRow, standIns := [], harness := (true, "a96a5bc2e3d0c9936ed5ed5a3bb4f1441262aefa383f8474687b1c5ff43fc212"), looks := true }, kinds := [], alts := [], laidByText := true, laidKinds := [.listed, .data], laidTests := true, laidLooks := .later }
def WordsBlanksUptoCardSaid : Prop := Claim7.holds Tryd.pinned (.plain (OpenSpec.upto wordsBlanksSpec)) wordsBlanksUptoCard

/-- THE SECOND FORM's CARD OF 'whilomlaw20.WordsJoins'. -/
def wordsJoinsUptoCard : Claim7 := { stood := { row := wordsJoinsUptoRow, standIns := [], harness := (true, "a96a5bc2e3d0c9936ed5ed5a3bb4f1441262aefa383f8474687b1c5ff43fc212"), looks := true }, kinds := [], alts := [], laidByText := true, laidKinds := [.listed, .data], laidTests := true, laidLooks := .later }
def WordsJoinsUptoCardSaid : Prop := Claim7.holds Tryd.pinned (.plain (OpenSpec.upto wordsJoinsSpec)) wordsJoinsUptoCard

/-- THE SECOND FORM's CARD OF 'whilomlaw20.WordsLines'. -/
def wordsLinesUptoCard : Claim7 := { stood := { row := wordsLinesUptoRow, standIns := [], harness := (true, "a96a5bc2e3d0c9936ed5ed5a3bb4f1441262aefa383f8474687b1c5ff43fc212"), looks := true }, kinds := [], alts := [], laidByText := true, laidKinds := [.data, .listed, .data, .pinned], laidTests := true, laidLooks := .later }
def WordsLinesUptoCardSaid : Prop := Claim7.holds Tryd.pinned (.plain (OpenSpec.upto wordsLinesSpec)) wordsLinesUptoCard

/-- THE SECOND FORM's CARD OF 'whilomlaw02.ItemOrders'. -/
def itemOrdersUptoCard : Claim7 := { stood := { row := itemOrdersUptoRow, standIns := [], harness := (true, "a96a5bc2e3d0c9936ed5ed5a3bb4f1441262aefa383f8474687b1c5ff43fc212"), looks := true }, kinds := [], alts := [], laidByText := true, laidKinds := [.data, .data, .data, .sentinel, .sentinel], laidTests := true, laidLooks := .later }
def ItemOrdersUptoCardSaid : Prop := Claim7.holds Tryd.pinned (.plain (OpenSpec.upto itemOrdersSpec)) itemOrdersUptoCard

/-- THE SECOND FORM's CARD OF 'whilomlaw02.ItemTexts'. -/
def itemTextsUptoCard : Claim7 := { stood := { row := itemTextsUptoRow, standIns := [], harness := (true, "a96a5bc2e3d0c9936ed5ed5a3bb4f1441262aefa383f8474687b1c5ff43fc212"), looks := true }, kinds := [], alts := [], laidByText := true, laidKinds := [.data, .data, .data, .sentinel, .sentinel], laidTests := true, laidLooks := .later }
def ItemTextsUptoCardSaid : Prop := Claim7.holds Tryd.pinned (.plain (OpenSpec.upto itemTextsSpec)) itemTextsUptoCard

/-- THE SECOND FORM's CARD OF 'whilomlaw02.ItemReads'. -/
def itemReadsUptoCard : Claim7 := { stood := { row := itemReadsUptoRow, standIns := [], harness := (true, "a96a5bc2e3d0c9936ed5ed5a3bb4f1441262aefa383f8474687b1c5ff43fc212"), looks := true }, kinds := [], alts := [], laidByText := true, laidKinds := [.data, .data, .data, .sentinel, .sentinel], laidTests := true, laidLooks := .later }
def ItemReadsUptoCardSaid : Prop := Claim7.holds Tryd.pinned (.plain (OpenSpec.upto itemReadsSpec)) itemReadsUptoCard

/-- THE SECOND FORM's CARD OF 'whilomlaw02.ItemApart'. -/
def itemApartUptoCard : Claim7 := { stood := { row := itemApartUptoRow, standIns := [], harness := (true, "a96a5bc2e3d0c9936ed5ed5a3bb4f1441262aefa383f8474687b1c5ff43fc212"), looks := true }, kinds := [], alts := [], laidByText := true, laidKinds := [.data, .data, .data, .sentinel, .sentinel], laidTests := true, laidLooks := .later }
def ItemApartUptoCardSaid : Prop := Claim7.holds Tryd.pinned (.plain (OpenSpec.upto itemApartSpec)) itemApartUptoCard

/-- THE SECOND FORM's CARD OF 'whilomlaw21.VerbParses'. -/
def verbParsesUptoCard : Claim7 := { stood := { row := verbParsesUptoRow, standIns := [], harness := (true, "a96a5bc2e3d0c9936ed5ed5a3bb4f1441262aefa383f8474687b1c5ff43fc212"), looks := true }, kinds := [], alts := [], laidByText := true, laidKinds := [.data, .data, .data, .sentinel, .sentinel, .data], laidTests := true, laidLooks := .later }
def VerbParsesUptoCardSaid : Prop := Claim7.holds Tryd.pinned (.plain (OpenSpec.upto verbParsesSpec)) verbParsesUptoCard

/-- THE SECOND FORM's CARD OF 'whilomlaw21.VerbTexts'. -/
def verbTextsUptoCard : Claim7 := { stood := { row := verbTextsUptoRow, standIns := [], harness := (true, "a96a5bc2e3d0c9936ed5ed5a3bb4f1441262aefa383f8474687b1c5ff43fc212"), looks := true }, kinds := [], alts := [], laidByText := true, laidKinds := [.data, .data, .data, .sentinel, .sentinel, .data], laidTests := true, laidLooks := .later }
def VerbTextsUptoCardSaid : Prop := Claim7.holds Tryd.pinned (.plain (OpenSpec.upto verbTextsSpec)) verbTextsUptoCard

/-- THE SECOND FORM's CARD OF 'whilomlaw21.VerbShows'. -/
def verbShowsUptoCard : Claim7 := { stood := { row := verbShowsUptoRow, standIns := [], harness := (true, "a96a5bc2e3d0c9936ed5ed5a3bb4f1441262aefa383f8474687b1c5ff43fc212"), looks := true }, kinds := [], alts := [], laidByText := true, laidKinds := [.data, .data, .data, .sentinel, .sentinel, .data], laidTests := true, laidLooks := .later }
def VerbShowsUptoCardSaid : Prop := Claim7.holds Tryd.pinned (.plain (OpenSpec.upto verbShowsSpec)) verbShowsUptoCard

/-- THE SECOND FORM's CARD OF 'whilomlaw21.VerbApart'. -/
def verbApartUptoCard : Claim7 := { stood := { row := verbApartUptoRow, standIns := [], harness := (true, "a96a5bc2e3d0c9936ed5ed5a3bb4f1441262aefa383f8474687b1c5ff43fc212"), looks := true }, kinds := [], alts := [], laidByText := true, laidKinds := [.data, .data, .data, .sentinel, .sentinel, .data], laidTests := true, laidLooks := .later }
def VerbApartUptoCardSaid : Prop := Claim7.holds Tryd.pinned (.plain (OpenSpec.upto verbApartSpec)) verbApartUptoCard

/-- THE SECOND FORM's CARD OF 'whilomlaw02.ItemSorts'. -/
def itemSortsUptoCard : Claim7 := { stood := { row := itemSortsUptoRow, standIns := [], harness := (true, "a96a5bc2e3d0c9936ed5ed5a3bb4f1441262aefa383f8474687b1c5ff43fc212"), looks := true }, kinds := [], alts := [], laidByText := true, laidKinds := [.data, .data, .data, .sentinel, .sentinel], laidTests := true, laidLooks := .later }
def ItemSortsUptoCardSaid : Prop := Claim7.holds Tryd.pinned (.plain (OpenSpec.upto itemSortsSpec)) itemSortsUptoCard
end Rows
end Go.Proofs.YtddmlhcjbifkoaaDoor
