/- Acts as they come in, over an argument's memory. No conditions. -/
import Derived.Test.YtccfjjaljckinaaQMc
import Derived.Test.YtccfjjaljckinaaQOpen3
namespace Go.Proofs.Ytccfjjaljckinaa.Tag
open Go.RowKit Go.Lib Go.Shelf Go.Deep Go.ChangeShapes Go.WideShapes Go.Proofs.Ytccfjjaljckinaa.Mem Go.Proofs.Ytccfjjaljckinaa.IMap Go.Proofs.YtccfjjaljckinaaW.PrintWords Go.Proofs.Ytccfjjaljckinaa.Open

abbrev RawO := Int × (Bool × (Int × Int))
abbrev RawL := (Int × Int) × RawO
abbrev RawA := Int × (Int × (Bool × RawL))
abbrev kdR : Kd (Int × Int) := Kd.pair (Kd.int .i64) (Kd.int .i64)
abbrev kdO : Kd RawO := Kd.pair (Kd.int .i64) (Kd.pair Kd.bool kdR)
abbrev kdL : Kd RawL := Kd.pair kdR kdO
abbrev kdA : Kd RawA := Kd.pair (Kd.int .i64) (Kd.pair (Kd.int .i64) (Kd.pair Kd.bool kdL))
def listedOf (x : RawL) : Listed := ⟨⟨x.1.1, x.1.2⟩, ⟨x.2.1, x.2.2.1, x.2.2.2.1, x.2.2.2.2⟩⟩
def actOf (x : RawA) : Act := ⟨x.1, x.2.1, x.2.2.1, listedOf x.2.2.2⟩
abbrev wfI (z : Int) : Prop := (Lit.int .i64 z).wf = true
abbrev wfR (x : Int × Int) : Prop := wfI x.1 ∧ wfI x.2
abbrev wfO (x : RawO) : Prop := wfI x.1 ∧ True ∧ wfR x.2.2
abbrev wfL (x : RawL) : Prop := wfR x.1 ∧ wfO x.2
abbrev wfA (x : RawA) : Prop := wfI x.1 ∧ wfI x.2.1 ∧ True ∧ wfL x.2.2.2
section
variable {H : Type} {enc : TypeId × Value → H} {w : World} {base : Nat} {spare : Nat → Bool} {held : Bool}
theorem fits3 : Fits enc Try.prog w base spare held 3 (Kd.int .i64) wfI := fits_int Try.underlying3 (by kernel_rfl)
theorem fits4 : Fits enc Try.prog w base spare held 4 Kd.bool (fun _ => True) := fits_bool Try.underlying4 (by kernel_rfl)
theorem fits28 : Fits enc Try.prog w base spare held 28 kdR wfR := fits_struct2 Try.underlying28 (by kernel_rfl) rfl (by kernel_rfl) fits3 fits3
theorem fits30 : Fits enc Try.prog w base spare held 30 kdR wfR := fits_struct2 Try.underlying30 (by kernel_rfl) rfl (by kernel_rfl) fits3 fits3
theorem fits32 : Fits enc Try.prog w base spare held 32 kdO wfO := fits_struct3 Try.underlying32 (by kernel_rfl) rfl (by kernel_rfl) (by kernel_rfl) fits3 fits4 fits30
theorem fits34 : Fits enc Try.prog w base spare held 34 kdL wfL := fits_struct2 Try.underlying34 (by kernel_rfl) rfl (by kernel_rfl) fits28 fits32
theorem fits36 : Fits enc Try.prog w base spare held 36 kdA wfA := fits_struct4 Try.underlying36 (by kernel_rfl) rfl (by kernel_rfl) (by kernel_rfl) (by kernel_rfl) fits3 fits3 fits4 fits34
end

theorem cell_plain {w : World} {p : Addr} {v : Value} (h : w.cell? p = some v) : w.cell? ⟨p.block, p.off, none⟩ = some v := by
  unfold World.cell? at h ⊢
  dsimp only at h ⊢
  split at h
  · split at h
    · cases h
    · simpa using h
  · cases h
theorem kdA_cells {w : World} {x : RawA} {cs : List Value} (h : kdA.K w x cs) : cs = encA (actOf x) := by
  obtain ⟨c0, _, rfl, k0, c1, _, rfl, k1, c2, _, rfl, k2, _, _, rfl, ⟨c3, c4, rfl, k3, k4⟩, c5, _, rfl, k5, c6, _, rfl, k6, c7, c8, rfl, k7, k8⟩ := h
  have e0 : c0 = [.int .i64 x.1] := k0
  have e1 : c1 = [.int .i64 x.2.1] := k1
  have e2 : c2 = [.bool x.2.2.1] := k2
  have e3 : c3 = [.int .i64 x.2.2.2.1.1] := k3
  have e4 : c4 = [.int .i64 x.2.2.2.1.2] := k4
  have e5 : c5 = [.int .i64 x.2.2.2.2.1] := k5
  have e6 : c6 = [.bool x.2.2.2.2.2.1] := k6
  have e7 : c7 = [.int .i64 x.2.2.2.2.2.2.1] := k7
  have e8 : c8 = [.int .i64 x.2.2.2.2.2.2.2] := k8
  subst e0 e1 e2 e3 e4 e5 e6 e7 e8
  rfl

theorem acts_of {w : World} {A : Option Addr} {n : Nat} {xs : List RawA} (h : kdA.C w A n xs) : Acts w A (xs.map actOf) := by
  intro i a ha
  have hl := Kd.C_len h
  obtain ⟨x, hx, rfl⟩ : ∃ x, xs[i]? = some x ∧ actOf x = a := by simpa using ha
  have hi := (List.getElem?_eq_some_iff.1 hx).1
  obtain ⟨ad, c, e, _, hK, hc⟩ := Kd.C_get h (0, 0, false, (0, 0), 0, false, 0, 0) i (by omega) (by omega)
  rw [Int.toNat_natCast] at hK hc
  have hg : xs.getD i (0, 0, false, (0, 0), 0, false, 0, 0) = x := by simp [List.getD, hx]
  rw [hg] at hK
  obtain rfl := kdA_cells hK
  have hc' : ∀ (j : Nat) (u : Value), (encA (actOf x))[j]? = some u → w.cell? (ad.add (i * 9 + j)) = some u := hc
  have h0 : w.cell? (ad.add (i * 9)) = some (.int .i64 (actOf x).kind) := hc' 0 _ rfl
  refine ⟨ad, e, h0, fun j u hu => ?_, World.block_lt_of_cell? w _ h0⟩
  by_cases hj : j = 0
  · subst hj
    have e1 : (encA (actOf x))[0]? = some (.int .i64 (actOf x).kind) := rfl
    rw [e1] at hu; injection hu with hu; subst hu
    rw [show (⟨(ad.add (i * 9)).block, (ad.add (i * 9)).off + 0, none⟩ : Addr) = ⟨(ad.add (i * 9)).block, (ad.add (i * 9)).off, none⟩ from rfl]
    have := cell_plain h0
    exact this
  · have := hc' j u hu
    rw [← Go.Proofs.YtccfjjaljckinaaW.PrintWords.add_field _ _ j (by omega)]
    exact this

theorem fits_acts {xs : List RawA} (h : ∀ y ∈ xs, wfA y) : FitsA (xs.map actOf) := by
  intro a ha
  obtain ⟨x, hx, rfl⟩ := List.mem_map.1 ha
  obtain ⟨a0, a1, _, ⟨b0, b1⟩, c0, _, d0, d1⟩ := h x hx
  exact ⟨in64_of a0, in64_of a1, in64_of b0, in64_of b1, in64_of c0, in64_of d0, in64_of d1⟩
end Go.Proofs.Ytccfjjaljckinaa.Tag
