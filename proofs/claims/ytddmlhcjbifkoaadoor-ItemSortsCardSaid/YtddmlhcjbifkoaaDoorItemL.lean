/- What the laid variables and the shape of the world give the rows of items; the walks in the rows' form. No conditions. -/
import Derived.Test.YtddmlhcjbifkoaaDoorRows
import Derived.Test.YtddmlhcjbifkoaaDoorItem5
import Derived.Stop.LaidErr
import Derived.LaidLaws
import Derived.MakeChecks
import Derived.Shelf.Vars
import Derived.DataShut
namespace Go.Proofs.YtddmlhcjbifkoaaDoor.Item
open Go Go.RowKit Go.Proofs.YtddmlhcjbifkoaaDoor.Mem Go.Proofs.YtddmlhcjbifkoaaDoorW.PrintWords
theorem some3 {W : World} (h : W.ShapedOpen Tryd.prog) : ∃ m : Int, W.cell? ⟨3, 0, none⟩ = some (.int .i64 m) :=
  Go.Proofs.cell_of_shapedOpen_int (zero := #[.int .i64 0]) (t := 3) h (of_decide_eq_true (by kernel_rfl)) (by kernel_rfl) rfl (by kernel_rfl) (by kernel_rfl) Tryd.underlying3
theorem star : "*" ++ "errors.errorString" = "*errors.errorString" := by decide
theorem rowE (u : TypeId) (h : Tryd.prog.typeName? 3 u = some "*errors.errorString") : u = 181 :=
  typeName_ptr_named (nm := "errors.errorString") (by rw [star]; kernel_rfl) (by kernel_rfl) (by decide) u (by rw [star]; exact h)
theorem pow_is : (Rows.laid_internal_strconv_uint64pow10 : DataW Unit) = Lib.tabData .u64 Lib.pow10Tab := by kernel_rfl
theorem rng_is : (Rows.laid_strconv_ErrRange : DataW Unit) = .iface "*errors.errorString" (.ptr (.agg [.lit (.string [118, 97, 108, 117, 101, 32, 111, 117, 116, 32, 111, 102, 32, 114, 97, 110, 103, 101])])) := rfl
theorem syn_is : ∃ t, (Rows.laid_strconv_ErrSyntax : DataW Unit) = .iface "*errors.errorString" (.ptr (.agg [.lit (.string t)])) := ⟨_, rfl⟩
theorem of_laid {W : World} (h : laidMetH Tryd.prog [("math/bits.deBruijn32tab", Rows.laid_math_bits_deBruijn32tab), ("math/bits.deBruijn64tab", Rows.laid_math_bits_deBruijn64tab), ("internal/strconv.uint64pow10", Rows.laid_internal_strconv_uint64pow10), ("strconv.ErrRange", Rows.laid_strconv_ErrRange), ("strconv.ErrSyntax", Rows.laid_strconv_ErrSyntax)] W) (hs : W.ShapedOpen Tryd.prog) : Env W := by
  rw [MakeChecks.laidMetH_plain _ _ _ (by kernel_rfl)] at h
  have h3 := laidMet.tail (laidMet.tail h)
  have h4 := laidMet.tail h3
  have h5 := laidMet.tail h4
  obtain ⟨ts, es⟩ := syn_is
  rw [pow_is] at h3
  rw [rng_is] at h4
  rw [es] at h5
  obtain ⟨a4, s4, hv4, _, _, _⟩ := laid_sentinel (g := 5) h4 (by kernel_rfl) (by kernel_rfl) Tryd.underlying77 rowE Tryd.underlying181 Tryd.underlying183 rfl rfl Tryd.underlying9 (by kernel_rfl) (by kernel_rfl)
  obtain ⟨a5, s5, hv5, _, _, _⟩ := laid_sentinel (g := 4) h5 (by kernel_rfl) (by kernel_rfl) Tryd.underlying77 rowE Tryd.underlying181 Tryd.underlying183 rfl rfl Tryd.underlying9 (by kernel_rfl) (by kernel_rfl)
  exact ⟨Lib.tabIs_of_head (g := 6) (by kernel_rfl) (by kernel_rfl) Tryd.underlying176 Tryd.underlying153 (by kernel_rfl) (by kernel_rfl) h3, some3 hs, ⟨_, _, hv5⟩, ⟨_, _, hv4⟩⟩

theorem in64 {n : Int} (h : (Lit.int .i64 n).wf = true) : In64 n := (Lit.wf_int_iff .i64 n).1 h
theorem cells (z : Int × Int) {w : World} {cs : List Value} (h : (Kd.pair (Kd.int .i64) (Kd.int .i64)).K w z cs) : True ∧ cs = [.int .i64 z.1, .int .i64 z.2] := by
  obtain ⟨c0, c1, rfl, h0, h1⟩ := h
  have h0 : c0 = [.int .i64 z.1] := h0
  have h1 : c1 = [.int .i64 z.2] := h1
  subst h0; subst h1
  exact ⟨trivial, rfl⟩
theorem row_texts (z : Int × Int) (w : World) (_ : True) (hz : (Lit.int .i64 z.1).wf = true ∧ (Lit.int .i64 z.2).wf = true) (he : Env w) :
    Calls Tryd.prog 8 #[.agg #[.int .i64 z.1, .int .i64 z.2]] w fun e w' => e = .returned (.bool true) ∧ Below w.heap.size w w' := law_texts z.1 z.2 w (in64 hz.1) (in64 hz.2) he
theorem row_reads (s : ByteArray) (w : World) (_ : s.size ≤ 140737488351232) (he : Env w) :
    Calls Tryd.prog 9 #[.string s] w fun e w' => e = .returned (.bool true) ∧ Below w.heap.size w w' := law_reads s w he
end Go.Proofs.YtddmlhcjbifkoaaDoor.Item
