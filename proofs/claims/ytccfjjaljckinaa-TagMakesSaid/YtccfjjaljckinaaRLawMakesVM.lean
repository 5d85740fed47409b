/- Any table: the law over its arguments' memory. No conditions. -/
import Derived.Test.YtccfjjaljckinaaRLawMakesM
import Derived.Test.YtccfjjaljckinaaRRawM
namespace Go.Proofs.Ytccfjjaljckinaa.Tag
open Go.RowKit Go.Lib Go.Shelf Go.Deep Go.ChangeShapes Go.WideShapes Go.Proofs.Ytccfjjaljckinaa.Mem Go.Proofs.Ytccfjjaljckinaa.IMap Go.Proofs.YtccfjjaljckinaaW.PrintWords Go.Proofs.Ytccfjjaljckinaa.Open Go.Proofs.Ytccfjjaljckinaa.PTagActs

abbrev RawT := Int × (Int × (List Int × List RawL))
abbrev kdT : Kd RawT := Kd.pair (Kd.int .i64) (Kd.pair (Kd.int .i64) (Kd.pair (Kd.slice 3 (Kd.int .i64)) (Kd.slice 34 kdL)))
abbrev wfT (x : RawT) : Prop := wfI x.1 ∧ wfI x.2.1 ∧ (∀ y ∈ x.2.2.1, wfI y) ∧ ∀ y ∈ x.2.2.2, wfL y
theorem fits49 {H : Type} {enc : TypeId × Value → H} {w : World} {base : Nat} {spare : Nat → Bool} {held : Bool} : Open.Fits enc Try.prog w base spare held 49 kdT wfT :=
  fits_struct4 Try.underlying49 (by kernel_rfl) rfl (by kernel_rfl) (by kernel_rfl) (by kernel_rfl) fits3 fits3 (fits_slice Try.underlying47 (by kernel_rfl) fits3) (fits_slice Try.underlying26 (by kernel_rfl) fits34)
theorem kdL_cells {w : World} {x : RawL} {cs : List Value} (h : kdL.K w x cs) : cs = [.int .i64 x.1.1, .int .i64 x.1.2, .int .i64 x.2.1, .bool x.2.2.1, .int .i64 x.2.2.2.1, .int .i64 x.2.2.2.2] := by
  obtain ⟨_, _, rfl, ⟨c3, c4, rfl, k3, k4⟩, c5, _, rfl, k5, c6, _, rfl, k6, c7, c8, rfl, k7, k8⟩ := h
  have e3 : c3 = [.int .i64 x.1.1] := k3
  have e4 : c4 = [.int .i64 x.1.2] := k4
  have e5 : c5 = [.int .i64 x.2.1] := k5
  have e6 : c6 = [.bool x.2.2.1] := k6
  have e7 : c7 = [.int .i64 x.2.2.2.1] := k7
  have e8 : c8 = [.int .i64 x.2.2.2.2] := k8
  subst e3 e4 e5 e6 e7 e8
  rfl
theorem rows_of {w : World} {A : Option Addr} {xs : List RawL} (h : kdL.C w A xs.length xs) : Kd.C k34 w A (xs.map listedOf).length (sL (xs.map listedOf)) := by
  refine ⟨by simp, by rw [List.length_map]; exact h.2.1, fun hn => ?_⟩
  obtain ⟨ad, e, hc⟩ := h.2.2 (by rw [List.length_map] at hn; exact hn)
  refine ⟨ad, e, fun j p hj => ?_⟩
  obtain ⟨x, hx, rfl⟩ : ∃ x, xs[j]? = some x ∧ toS (listedOf x) = p := by simpa [sL] using hj
  obtain ⟨cs, h1, h2, h3⟩ := hc j x hx
  obtain rfl := kdL_cells h2
  exact ⟨_, h1, k34_mk _ _, h3⟩
theorem kdT_cells {w : World} {x : RawT} {cs : List Value} (h : kdT.K w x cs) : ∃ A1 c1 A2 c2, cs = [.int .i64 x.1, .int .i64 x.2.1, .slice A1 x.2.2.1.length c1, .slice A2 x.2.2.2.length c2] ∧ x.2.2.1.length ≤ c1 ∧ x.2.2.2.length ≤ c2 ∧
    Kd.C (Kd.int .i64) w A1 x.2.2.1.length x.2.2.1 ∧ kdL.C w A2 x.2.2.2.length x.2.2.2 := by
  obtain ⟨c0, _, rfl, k0, c1, _, rfl, k1, c2, c3, rfl, ⟨A1, d1, rfl, hl1, hr1⟩, ⟨A2, d2, rfl, hl2, hr2⟩⟩ := h
  have e0 : c0 = [.int .i64 x.1] := k0
  have e1 : c1 = [.int .i64 x.2.1] := k1
  subst e0 e1
  exact ⟨A1, d1, A2, d2, rfl, hl1, hl2, hr1, hr2⟩
theorem row_makes (n : Int) (z : RawT) (b : Array Value) (w : World) (_ : wfI n) (hk : kdT.K w z b.toList) (hw : wfT z) :
    Calls Try.prog 4 #[.int .i64 n, .agg b] w fun e w' => e = .returned (.bool true) ∧ Below w.heap.size w w' := by
  obtain ⟨A1, c1, A2, c2, e, g1, g2, h1, h2⟩ := kdT_cells hk
  obtain rfl : b = #[.int .i64 z.1, .int .i64 z.2.1, .slice A1 z.2.2.1.length c1, .slice A2 z.2.2.2.length c2] := by
    apply Array.ext'
    exact e
  obtain ⟨_, hs, _, hf⟩ := hw
  by_cases hbig : 40 < z.2.2.2.length ∨ 60 < z.2.2.1.length
  · exact makes_long w hbig
  · have := makes_short (cap := n) (cap0 := z.1) (serial := z.2.1) w h1 g1 (rows_of h2) (by rw [List.length_map]; exact g2) (by omega) (by rw [List.length_map]; omega) (in64_of hs) (fun x hx => by
      obtain ⟨y, hy, rfl⟩ := List.mem_map.1 hx
      obtain ⟨_, c0, _, d0, d1⟩ := hf y hy
      exact ⟨in64_of c0, in64_of d0, in64_of d1⟩)
    rw [List.length_map] at this
    exact this
end Go.Proofs.Ytccfjjaljckinaa.Tag
