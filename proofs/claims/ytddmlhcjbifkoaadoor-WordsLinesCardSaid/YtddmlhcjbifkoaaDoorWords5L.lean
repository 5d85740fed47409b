/- What the laid variables and the shape of the world give the row WordsLines. No conditions. -/
import Derived.Test.YtddmlhcjbifkoaaDoorRows
import Derived.Test.YtddmlhcjbifkoaaDoorWords5
import Derived.Stop.LaidErr
import Derived.MakeChecks
import Derived.Shelf.Vars
import Derived.Test.YtddmlhcjbifkoaaDoorLaidW
namespace Go.Proofs.YtddmlhcjbifkoaaDoor.Words5L
open Go
theorem some3 {W : World} (h : W.ShapedOpen Tryd.prog) : Words.Some3 W :=
  Go.Proofs.cell_of_shapedOpen_int (zero := #[.int .i64 0]) (t := 3) h (of_decide_eq_true (by kernel_rfl)) (by kernel_rfl) rfl (by kernel_rfl) (by kernel_rfl) Tryd.underlying3
theorem of_laid {W : World} (h : laidMetH Tryd.prog [("unicode/utf8.acceptRanges", Rows.laid_unicode_utf8_acceptRanges), ("unicode.White_Space", Rows.laid_unicode_White_Space), ("strings.asciiSpace", Rows.laid_strings_asciiSpace), ("unicode/utf8.first", Rows.laid_unicode_utf8_first)] W) (hs : W.ShapedOpen Tryd.prog) : Words.Tab W ∧ Words.Some3 W := by
  rw [MakeChecks.laidMetH_plain _ _ _ (by kernel_rfl)] at h
  have h2 := laidMet.tail (laidMet.tail h)
  rw [LaidW.tab_is] at h2
  exact ⟨Lib.tabIs_of_head (g := 1) (by kernel_rfl) (by kernel_rfl) Tryd.underlying100 Tryd.underlying5 (by kernel_rfl) (by kernel_rfl) h2, some3 hs⟩
end Go.Proofs.YtddmlhcjbifkoaaDoor.Words5L
