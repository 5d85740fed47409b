/- Acts as they come in, over an argument's memory. No conditions. -/
import Derived.Test.YtccfjjaljckinaaRMc
import Derived.Test.YtccfjjaljckinaaROpen3
namespace Go.Proofs.Ytccfjjaljckinaa.Tag
open Go.RowKit Go.Lib Go.Shelf Go.Deep Go.ChangeShapes Go.WideShapes Go.Proofs.Ytccfjjaljckinaa.Mem Go.Proofs.Ytccfjjaljckinaa.IMap Go.Proofs.YtccfjjaljckinaaW.PrintWords Go.Proofs.Ytccfjjaljckinaa.Open

abbrev RawO := Int × (Bool × (Int × Int))
abbrev RawL := (Int × Int) × RawO
abbrev kdR : Kd (Int × Int) := Kd.pair (Kd.int .i64) (Kd.int .i64)
abbrev kdO : Kd RawO := Kd.pair (Kd.int .i64) (Kd.pair Kd.bool kdR)
abbrev kdL : Kd RawL := Kd.pair kdR kdO
def listedOf (x : RawL) : Listed := ⟨⟨x.1.1, x.1.2⟩, ⟨x.2.1, x.2.2.1, x.2.2.2.1, x.2.2.2.2⟩⟩
abbrev wfI (z : Int) : Prop := (Lit.int .i64 z).wf = true
abbrev wfR (x : Int × Int) : Prop := wfI x.1 ∧ wfI x.2
abbrev wfO (x : RawO) : Prop := wfI x.1 ∧ True ∧ wfR x.2.2
abbrev wfL (x : RawL) : Prop := wfR x.1 ∧ wfO x.2
section
variable {H : Type} {enc : TypeId × Value → H} {w : World} {base : Nat} {spare : Nat → Bool} {held : Bool}
theorem fits3 : Fits enc Try.prog w base spare held 3 (Kd.int .i64) wfI := fits_int Try.underlying3 (by kernel_rfl)
theorem fits4 : Fits enc Try.prog w base spare held 4 Kd.bool (fun _ => True) := fits_bool Try.underlying4 (by kernel_rfl)
theorem fits28 : Fits enc Try.prog w base spare held 28 kdR wfR := fits_struct2 Try.underlying28 (by kernel_rfl) rfl (by kernel_rfl) fits3 fits3
theorem fits30 : Fits enc Try.prog w base spare held 30 kdR wfR := fits_struct2 Try.underlying30 (by kernel_rfl) rfl (by kernel_rfl) fits3 fits3
theorem fits32 : Fits enc Try.prog w base spare held 32 kdO wfO := fits_struct3 Try.underlying32 (by kernel_rfl) rfl (by kernel_rfl) (by kernel_rfl) fits3 fits4 fits30
theorem fits34 : Fits enc Try.prog w base spare held 34 kdL wfL := fits_struct2 Try.underlying34 (by kernel_rfl) rfl (by kernel_rfl) fits28 fits32
end

end Go.Proofs.Ytccfjjaljckinaa.Tag
