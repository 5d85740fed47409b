/- Items and commands, part Vl of this seat's texts: plain facts and walks. No conditions. -/
import Derived.Test.YtddmlhcjbifkoaaDoorRows
import Derived.Test.YtddmlhcjbifkoaaDoorVi
import Derived.Stop.LaidErr
import Derived.LaidLaws
import Derived.MakeChecks
import Derived.Shelf.Vars
import Derived.DataShut
import Derived.Test.YtddmlhcjbifkoaaDoorVw
import Derived.OpenShut
import Derived.ChangeSame
import Derived.ChangeArms
/- What the laid variables and the shape of the world give the rows of items; the walks in the rows' form. No conditions. -/
namespace Go.Proofs.YtddmlhcjbifkoaaDoor.Item
open Go Go.RowKit Go.Proofs.YtddmlhcjbifkoaaDoor.Mem Go.Proofs.YtddmlhcjbifkoaaDoorW.PrintWords
theorem some3 {W : World} (h : W.ShapedOpen Tryd.prog) : ∃ m : Int, W.cell? ⟨3, 0, none⟩ = some (.int .i64 m) :=
  Go.Proofs.cell_of_shapedOpen_int (zero := #[.int .i64 0]) (t := 3) h (of_decide_eq_true (by kernel_rfl)) (by kernel_rfl) rfl (by kernel_rfl) (by kernel_rfl) Tryd.underlying3
theorem star : "*" ++ "errors.errorString" = "*errors.errorString" := by decide
theorem rowE (u : TypeId) (h : Tryd.prog.typeName? 3 u = some "*errors.errorString") : u = 181 :=
  typeName_ptr_named (nm := "errors.errorString") (by rw [star]; kernel_rfl) (by kernel_rfl) (by decide) u (by rw [star]; exact h)
theorem pow_is : (Rows.laid_internal_strconv_uint64pow10 : DataW Unit) = Lib.tabData .u64 Lib.pow10Tab := by kernel_rfl
theorem rng_is : (Rows.laid_strconv_ErrRange : DataW Unit) = .iface "*errors.errorString" (.ptr (.agg [.lit (.string [118, 97, 108, 117, 101, 32, 111, 117, 116, 32, 111, 102, 32, 114, 97, 110, 103, 101])])) := rfl
theorem syn_is : ∃ t, (Rows.laid_strconv_ErrSyntax : DataW Unit) = .iface "*errors.errorString" (.ptr (.agg [.lit (.string t)])) := ⟨_, rfl⟩
theorem of_laid {W : World} (h : laidMetH Tryd.prog [("math/bits.deBruijn32tab", Rows.laid_math_bits_deBruijn32tab), ("math/bits.deBruijn64tab", Rows.laid_math_bits_deBruijn64tab), ("internal/strconv.uint64pow10", Rows.laid_internal_strconv_uint64pow10), ("strconv.ErrRange", Rows.laid_strconv_ErrRange), ("strconv.ErrSyntax", Rows.laid_strconv_ErrSyntax)] W) (hs : W.ShapedOpen Tryd.prog) : Env W := by
  rw [MakeChecks.laidMetH_plain _ _ _ (by kernel_rfl)] at h
  have h3 := laidMet.tail (laidMet.tail h)
  have h4 := laidMet.tail h3
  have h5 := laidMet.tail h4
  obtain ⟨ts, es⟩ := syn_is
  rw [pow_is] at h3
  rw [rng_is] at h4
  rw [es] at h5
  obtain ⟨a4, s4, hv4, _, _, _⟩ := laid_sentinel (g := 5) h4 (by kernel_rfl) (by kernel_rfl) Tryd.underlying77 rowE Tryd.underlying181 Tryd.underlying183 rfl rfl Tryd.underlying9 (by kernel_rfl) (by kernel_rfl)
  obtain ⟨a5, s5, hv5, _, _, _⟩ := laid_sentinel (g := 4) h5 (by kernel_rfl) (by kernel_rfl) Tryd.underlying77 rowE Tryd.underlying181 Tryd.underlying183 rfl rfl Tryd.underlying9 (by kernel_rfl) (by kernel_rfl)
  exact ⟨Lib.tabIs_of_head (g := 6) (by kernel_rfl) (by kernel_rfl) Tryd.underlying176 Tryd.underlying153 (by kernel_rfl) (by kernel_rfl) h3, some3 hs, ⟨_, _, hv5⟩, ⟨_, _, hv4⟩⟩

theorem in64 {n : Int} (h : (Lit.int .i64 n).wf = true) : In64 n := (Lit.wf_int_iff .i64 n).1 h
theorem cells (z : Int × Int) {w : World} {cs : List Value} (h : (Kd.pair (Kd.int .i64) (Kd.int .i64)).K w z cs) : True ∧ cs = [.int .i64 z.1, .int .i64 z.2] := by
  obtain ⟨c0, c1, rfl, h0, h1⟩ := h
  have h0 : c0 = [.int .i64 z.1] := h0
  have h1 : c1 = [.int .i64 z.2] := h1
  subst h0; subst h1
  exact ⟨trivial, rfl⟩
theorem row_texts (z : Int × Int) (w : World) (_ : True) (hz : (Lit.int .i64 z.1).wf = true ∧ (Lit.int .i64 z.2).wf = true) (he : Env w) :
    Calls Tryd.prog 8 #[.agg #[.int .i64 z.1, .int .i64 z.2]] w fun e w' => e = .returned (.bool true) ∧ Below w.heap.size w w' := law_texts z.1 z.2 w (in64 hz.1) (in64 hz.2) he
theorem row_reads (s : ByteArray) (w : World) (_ : s.size ≤ 140737488351232) (he : Env w) :
    Calls Tryd.prog 9 #[.string s] w fun e w' => e = .returned (.bool true) ∧ Below w.heap.size w w' := law_reads s w he
end Go.Proofs.YtddmlhcjbifkoaaDoor.Item
/- What the laid variables give the rows of verbs; the walks in the rows' form. No conditions. -/
namespace Go.Proofs.YtddmlhcjbifkoaaDoor.Verb
open Go Go.Lib Go.RowKit Go.ChangeShapes Go.WideShapes Go.Proofs.YtddmlhcjbifkoaaDoor.Mem Go.Proofs.YtddmlhcjbifkoaaDoorW.PrintWords Go.Proofs.YtddmlhcjbifkoaaDoor.Item
def datC (i : Nat) : DataW Unit := .agg [.lit (.string (nameAt i).data.toList), .lit (.string (lowAt i).data.toList)]
theorem dat_is : (Rows.laid_whilom_verb_commands : DataW Unit) = .agg ((List.range 18).map datC) := by kernel_rfl
set_option maxRecDepth 100000 in
theorem tab_of {w : World} {sp : Nat → Bool} {held : Bool} {fuel : Nat} {cs : List Value} {p : List MemPlace} (h : DataW.trod (fun _ => ()) Tryd.prog w 0 sp held fuel 85 cs = some (Rows.laid_whilom_verb_commands, p)) : cs = tabC.toList := by
  obtain ⟨xs, m, _, hx, hl, hn, hi⟩ := DataW.trod_array Tryd.underlying85 h
  have c85 : Tryd.prog.cellsOf 85 = 36 := by kernel_rfl
  have c84 : Tryd.prog.cellsOf 84 = 2 := by kernel_rfl
  have c9 : Tryd.prog.cellsOf 9 = 1 := by kernel_rfl
  rw [c85] at hl
  rw [c84] at hi
  have hd : (DataW.agg ((List.range 18).map datC) : DataW Unit) = .agg (xs.map (·.1)) := by
    rw [← dat_is]
    exact congrArg Prod.fst hx
  have hd := DataW.agg.inj hd
  clear hx
  have two : ∀ i, i < 18 → (cs.drop (i * 2)).take 2 = [.string (nameAt i), .string (lowAt i)] := by
    intro i hi'
    have h1 := hi i hi'
    have hxi : i < xs.length := by omega
    rw [List.getElem?_eq_getElem hxi] at h1
    have hdi : xs[i].1 = datC i := by
      have := congrArg (fun l => l[i]?) hd
      simp only [List.getElem?_map, List.getElem?_range hi', List.getElem?_eq_getElem hxi, Option.map_some] at this
      injection this with this
      exact this.symm
    obtain ⟨y0, y1, n, e, hle, t0, t1⟩ := trod_struct2 Tryd.underlying84 h1
    obtain ⟨s0, e0, x0, _⟩ := DataW.trod_string Tryd.underlying9 t0
    obtain ⟨s1, e1, x1, _⟩ := DataW.trod_string Tryd.underlying9 t1
    rw [e] at hdi
    subst x0 x1
    unfold datC at hdi
    injection hdi with hdi
    simp only [List.cons.injEq, and_true, DataW.lit.injEq, Lit.string.injEq] at hdi
    have q0 := Go.WideShapes.bytes_inj hdi.1
    have q1 := Go.WideShapes.bytes_inj hdi.2
    subst q0 q1
    rw [c84] at hle
    have e0' : ((cs.drop (i * 2)).take 2).take 1 = [Value.string (nameAt i)] := by
      have := e0
      rw [c9] at this
      exact this
    have e1' : (((cs.drop (i * 2)).take 2).drop 1).take 1 = [Value.string (lowAt i)] := by
      have := e1
      rw [c9] at this
      exact this
    generalize (cs.drop (i * 2)).take 2 = l at hle e0' e1'
    match l, hle with
    | [a, b], _ =>
      simp at e0' e1'
      rw [e0', e1']
  apply List.ext_getElem?
  intro q
  by_cases hq : q < 36
  · have h2 := two (q / 2) (by omega)
    have h3 := tabC_at (q / 2) (by omega)
    have h30 : tabC.toList[2 * (q / 2)]? = some (.string (nameAt (q / 2))) := by rw [Array.getElem?_toList]; exact h3.1
    have h31 : tabC.toList[2 * (q / 2) + 1]? = some (.string (lowAt (q / 2))) := by rw [Array.getElem?_toList]; exact h3.2
    rcases Nat.mod_two_eq_zero_or_one q with hm | hm
    · have hq2 : q = 2 * (q / 2) := by omega
      have := congrArg (fun l => l[0]?) h2
      simp only [List.getElem?_take, List.getElem?_drop] at this
      rw [hq2, h30]
      simpa [Nat.mul_comm] using this
    · have hq2 : q = 2 * (q / 2) + 1 := by omega
      have := congrArg (fun l => l[1]?) h2
      simp only [List.getElem?_take, List.getElem?_drop] at this
      rw [hq2, h31]
      simpa [Nat.mul_comm] using this
  · rw [List.getElem?_eq_none (by omega), List.getElem?_eq_none (by show 36 ≤ _; omega)]
theorem of_laidV {W : World} (h : laidMetH Tryd.prog [("math/bits.deBruijn32tab", Rows.laid_math_bits_deBruijn32tab), ("math/bits.deBruijn64tab", Rows.laid_math_bits_deBruijn64tab), ("internal/strconv.uint64pow10", Rows.laid_internal_strconv_uint64pow10), ("strconv.ErrRange", Rows.laid_strconv_ErrRange), ("strconv.ErrSyntax", Rows.laid_strconv_ErrSyntax), ("whilom/verb.commands", Rows.laid_whilom_verb_commands)] W) (hs : W.ShapedOpen Tryd.prog) : Env W ∧ Tbl W := by
  rw [MakeChecks.laidMetH_plain _ _ _ (by kernel_rfl)] at h
  have h3 := laidMet.tail (laidMet.tail h)
  have h4 := laidMet.tail h3
  have h5 := laidMet.tail h4
  have h6 := laidMet.tail h5
  obtain ⟨ts, es⟩ := syn_is
  rw [pow_is] at h3
  rw [rng_is] at h4
  rw [es] at h5
  obtain ⟨a4, s4, hv4, _, _, _⟩ := laid_sentinel (g := 5) h4 (by kernel_rfl) (by kernel_rfl) Tryd.underlying77 rowE Tryd.underlying181 Tryd.underlying183 rfl rfl Tryd.underlying9 (by kernel_rfl) (by kernel_rfl)
  obtain ⟨a5, s5, hv5, _, _, _⟩ := laid_sentinel (g := 4) h5 (by kernel_rfl) (by kernel_rfl) Tryd.underlying77 rowE Tryd.underlying181 Tryd.underlying183 rfl rfl Tryd.underlying9 (by kernel_rfl) (by kernel_rfl)
  refine ⟨⟨Lib.tabIs_of_head (g := 6) (by kernel_rfl) (by kernel_rfl) Tryd.underlying176 Tryd.underlying153 (by kernel_rfl) (by kernel_rfl) h3, some3 hs, ⟨_, _, hv5⟩, ⟨_, _, hv4⟩⟩, ?_⟩
  obtain ⟨ps, ⟨g, t, cs, fuel, p, q, hg, ht, hvar, hd, _, _⟩, _⟩ := h6
  have hg0 : Tryd.prog.globalNamed "whilom/verb.commands" = some 0 := by kernel_rfl
  have ht0 : (Tryd.prog.globals[0]?).map (·.type) = some 85 := by kernel_rfl
  obtain rfl := Option.some.inj (hg0.symm.trans hg)
  obtain rfl := Option.some.inj (ht0.symm.trans ht)
  have hcs := tab_of hd
  have hcs' : cs = tabC := by
    apply Array.ext'
    exact hcs
  subst hcs'
  unfold World.var? at hvar
  rw [hg] at hvar
  simp only [Option.bind_some] at hvar
  split at hvar
  · rename_i cs' t' fr' hh
    injection hvar with hvar
    subst hvar
    exact ⟨t', fr', hh⟩
  · cases hvar
theorem row_verbTexts (n : Int) (z : Int × Int) (w : World) (hn : (Lit.int .i64 n).wf = true) (_ : True) (hz : (Lit.int .i64 z.1).wf = true ∧ (Lit.int .i64 z.2).wf = true) (he : Env w ∧ Tbl w) :
    Calls Tryd.prog 12 #[.int .i64 n, .agg #[.int .i64 z.1, .int .i64 z.2]] w fun e w' => e = .returned (.bool true) ∧ Below w.heap.size w w' := law_texts n z.1 z.2 w (in64 hn) (in64 hz.1) (in64 hz.2) he.2 he.1
theorem row_verbParses (A : Option Addr) (n c : Nat) (xs : List ByteArray) (w : World) (hC : Kd.C Kd.string w A n xs) (hc : n ≤ c) (_ : ∀ z ∈ xs, z.size ≤ maxLen) (he : Env w ∧ Tbl w) :
    Calls Tryd.prog 11 #[.slice A n c] w fun e w' => e = .returned (.bool true) ∧ Below w.heap.size w w' := by
  have e0 := Kd.C_len hC
  subst e0
  by_cases hbig : 20 < xs.length
  · exact parses_long A _ c w he.2 he.1 hbig
  · exact parses_short A c xs w hC hc he.2 he.1 (by omega)
end Go.Proofs.YtddmlhcjbifkoaaDoor.Verb
/- The walks of what is shown, in the rows' form. No conditions. -/
namespace Go.Proofs.YtddmlhcjbifkoaaDoor.Verb
open Go Go.Lib Go.RowKit Go.Proofs.YtddmlhcjbifkoaaDoor.Mem Go.Proofs.YtddmlhcjbifkoaaDoorW.PrintWords Go.Proofs.YtddmlhcjbifkoaaDoor.Item
abbrev SaidZ : Type := Int × ((Int × Int) × (Int × Int))
abbrev SaidK : Kd SaidZ := Kd.pair (Kd.int .i64) (Kd.pair (Kd.pair (Kd.int .i64) (Kd.int .i64)) (Kd.pair (Kd.int .i64) (Kd.int .i64)))
def ofZ (z : SaidZ) : SaidV := ⟨z.1, z.2.1.1, z.2.1.2, z.2.2.1, z.2.2.2⟩
def OkZ (z : SaidZ) : Prop := (Lit.int .i64 z.1).wf = true ∧ (((Lit.int .i64 z.2.1.1).wf = true ∧ (Lit.int .i64 z.2.1.2).wf = true) ∧ (Lit.int .i64 z.2.2.1).wf = true ∧ (Lit.int .i64 z.2.2.2).wf = true)
theorem in64Z {z : SaidZ} (h : OkZ z) : In64S (ofZ z) := ⟨in64 h.1, in64 h.2.1.1, in64 h.2.1.2, in64 h.2.2.1, in64 h.2.2.2⟩
theorem cellsZ (z : SaidZ) {w : World} {cs : List Value} (h : SaidK.K w z cs) : True ∧ cs = [.int .i64 z.1, .int .i64 z.2.1.1, .int .i64 z.2.1.2, .int .i64 z.2.2.1, .int .i64 z.2.2.2] := by
  obtain ⟨c0, c1, rfl, h0, c2, c3, rfl, ⟨c4, c5, rfl, h4, h5⟩, c6, c7, rfl, h6, h7⟩ := h
  have h0 : c0 = [.int .i64 z.1] := h0
  have h4 : c4 = [.int .i64 z.2.1.1] := h4
  have h5 : c5 = [.int .i64 z.2.1.2] := h5
  have h6 : c6 = [.int .i64 z.2.2.1] := h6
  have h7 : c7 = [.int .i64 z.2.2.2] := h7
  subst h0 h4 h5 h6 h7
  exact ⟨trivial, rfl⟩
theorem row_verbShows (z : SaidZ) (w : World) (_ : True) (hz : OkZ z) (he : Env w ∧ Tbl w) :
    Calls Tryd.prog 13 #[.agg #[.int .i64 z.1, .int .i64 z.2.1.1, .int .i64 z.2.1.2, .int .i64 z.2.2.1, .int .i64 z.2.2.2]] w fun e w' => e = .returned (.bool true) ∧ Below w.heap.size w w' := law_shows (ofZ z) w (in64Z hz) he.2 he.1
theorem row_verbApart (z : SaidZ) (y : SaidZ) (w : World) (_ : True) (hz : OkZ z) (_ : True) (hy : OkZ y) (he : Env w ∧ Tbl w) :
    Calls Tryd.prog 14 #[.agg #[.int .i64 z.1, .int .i64 z.2.1.1, .int .i64 z.2.1.2, .int .i64 z.2.2.1, .int .i64 z.2.2.2], .agg #[.int .i64 y.1, .int .i64 y.2.1.1, .int .i64 y.2.1.2, .int .i64 y.2.2.1, .int .i64 y.2.2.2]] w fun e w' => e = .returned (.bool true) ∧ Below w.heap.size w w' := law_apart (ofZ z) (ofZ y) w (in64Z hz) (in64Z hy) he.2 he.1
end Go.Proofs.YtddmlhcjbifkoaaDoor.Verb
