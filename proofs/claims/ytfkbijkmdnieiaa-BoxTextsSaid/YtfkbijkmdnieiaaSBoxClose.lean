/- A box of strings: Close. No conditions. -/
import Derived.Test.YtfkbijkmdnieiaaSBoxTake
import Derived.Conc.EventLaws
namespace Go.Proofs.Ytfkbijkmdnieiaa.BoxStr
open Go.RowKit Go.Conc Go.Proofs.Ytfkbijkmdnieiaa.Mem Go.Proofs.YtfkbijkmdnieiaaW.PrintWords

theorem IsBox.keep {B C D cap : Nat} {vs : List ByteArray} {cl : Bool} {w w' : World} {S : Nat → Prop} (h : IsBox w B C D cap vs cl) (hc : Chg S w w') (hB : ¬ S B) (hC : ¬ S C) (hD : ¬ S D) : IsBox w' B C D cap vs cl :=
  ⟨h.head.keep hc hB, h.vals.keep hc hC, h.done.keep hc hD, h.apart, h.le, h.room, h.most⟩

set_option maxRecDepth 100000 in
set_option maxHeartbeats 400000 in
theorem close_no (B C D cap : Nat) (vs : List ByteArray) (w : World) (h : IsBox w B C D cap vs true) :
    Calls Try.prog 57 #[.pointer (some ⟨B, 0, none⟩)] w fun e w' => e = .returned (.bool false) ∧ w = w' := by
  go_enter Try.func57, Try.ntmps57
  go_wp2_with fail
  refine (closed_yes B C D cap vs w h).mono ?_
  rintro e w' ⟨rfl, hw⟩
  subst hw
  clear h
  go_wp2
  go_ret
  exact ⟨rfl, rfl⟩

/-- What a close of D leaves. -/
theorem shut {B C D cap s r : Nat} {vs : List ByteArray} {w : World} (h : IsBox w B C D cap vs false) (hd : w.heap[D]? = some (.chan 0 #[] false s r false)) :
    IsBox { w with heap := w.heap.setIfInBounds D (.chan 0 #[] true s r false) } B C D cap vs true ∧ Chg (fun k => k = D) w { w with heap := w.heap.setIfInBounds D (.chan 0 #[] true s r false) } := by
  have hc : Chg (fun k => k = D) w { w with heap := w.heap.setIfInBounds D (.chan 0 #[] true s r false) } := by
    refine ⟨rfl, rfl, rfl, by simp, fun k _ hn => ?_⟩
    simp only []; rw [Array.getElem?_setIfInBounds_ne (fun e => hn e.symm)]
  refine ⟨⟨h.head.keep hc h.apart.2.1, h.vals.keep hc h.apart.2.2, ⟨s, r, ?_⟩, h.apart, h.le, h.room, h.most⟩, hc⟩
  simp [lt_of_block hd]

set_option maxRecDepth 100000 in
set_option maxHeartbeats 400000 in
theorem close_yes (B C D cap : Nat) (vs : List ByteArray) (w : World) (h : IsBox w B C D cap vs false) :
    Calls Try.prog 57 #[.pointer (some ⟨B, 0, none⟩)] w fun e w' => e = .returned (.bool true) ∧ IsBox w' B C D cap vs true ∧ Chg (fun k => k = D) w w' := by
  have c0 := h.head.cell (j := 0) rfl
  have c1 := h.head.cell (j := 1) rfl
  obtain ⟨s, r, hd⟩ := h.done
  have hcl := fun ats ty => run_close_open (P := Try.prog) ats ty hd
  have HF := Lib.hid (shut h hd)
  have HC := Lib.hid (closed_no B C D cap vs w h)
  clear h hd
  go_enter Try.func57, Try.ntmps57
  go_wp2_with fail
  refine (HC.out).mono ?_
  rintro e w' ⟨rfl, hw⟩
  subst hw
  clear HC
  go_wp2
  go_ret
  exact ⟨rfl, HF.out⟩
end Go.Proofs.Ytfkbijkmdnieiaa.BoxStr
