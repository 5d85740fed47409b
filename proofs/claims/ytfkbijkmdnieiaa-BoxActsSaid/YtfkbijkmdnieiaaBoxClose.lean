/- A box of ints: Close. No conditions. -/
import Derived.Test.YtfkbijkmdnieiaaBoxPour
import Derived.Conc.EventLaws
namespace Go.Proofs.Ytfkbijkmdnieiaa.BoxInt
open Go.RowKit Go.Conc Go.Proofs.Ytfkbijkmdnieiaa.Mem Go.Proofs.YtfkbijkmdnieiaaW.PrintWords

set_option maxRecDepth 100000 in
set_option maxHeartbeats 400000 in
theorem close_no (B C D cap : Nat) (vs : List Int) (w : World) (h : IsBox w B C D cap vs true) :
    Calls Try.prog 67 #[.pointer (some ⟨B, 0, none⟩)] w fun e w' => e = .returned (.bool false) ∧ w = w' := by
  go_enter Try.func67, Try.ntmps67
  go_wp2_with fail
  refine (closed_yes B C D cap vs w h).mono ?_
  rintro e w' ⟨rfl, hw⟩
  subst hw
  clear h
  go_wp2
  go_ret
  exact ⟨rfl, rfl⟩

/-- What a close of D leaves. -/
theorem shut {B C D cap s r : Nat} {vs : List Int} {w : World} (h : IsBox w B C D cap vs false) (hd : w.heap[D]? = some (.chan 0 #[] false s r false)) :
    IsBox { w with heap := w.heap.setIfInBounds D (.chan 0 #[] true s r false) } B C D cap vs true ∧ Chg (fun k => k = D) w { w with heap := w.heap.setIfInBounds D (.chan 0 #[] true s r false) } := by
  have hc : Chg (fun k => k = D) w { w with heap := w.heap.setIfInBounds D (.chan 0 #[] true s r false) } := by
    refine ⟨rfl, rfl, rfl, by simp, fun k _ hn => ?_⟩
    simp only []; rw [Array.getElem?_setIfInBounds_ne (fun e => hn e.symm)]
  refine ⟨⟨h.head.keep hc h.apart.2.1, h.vals.keep hc h.apart.2.2, ⟨s, r, ?_⟩, h.apart, h.le, h.room, h.most⟩, hc⟩
  simp [lt_of_block hd]

set_option maxRecDepth 100000 in
set_option maxHeartbeats 400000 in
theorem close_yes (B C D cap : Nat) (vs : List Int) (w : World) (h : IsBox w B C D cap vs false) :
    Calls Try.prog 67 #[.pointer (some ⟨B, 0, none⟩)] w fun e w' => e = .returned (.bool true) ∧ IsBox w' B C D cap vs true ∧ Chg (fun k => k = D) w w' := by
  have c0 := h.head.cell (j := 0) rfl
  have c1 := h.head.cell (j := 1) rfl
  obtain ⟨s, r, hd⟩ := h.done
  have hcl := fun ats ty => run_close_open (P := Try.prog) ats ty hd
  have HF := Lib.hid (shut h hd)
  have HC := Lib.hid (closed_no B C D cap vs w h)
  clear h hd
  go_enter Try.func67, Try.ntmps67
  go_wp2_with fail
  refine (HC.out).mono ?_
  rintro e w' ⟨rfl, hw⟩
  subst hw
  clear HC
  go_wp2
  go_ret
  exact ⟨rfl, HF.out⟩

/-- Closed, whichever. -/
theorem closed (B C D cap : Nat) (vs : List Int) (cl : Bool) (w : World) (h : IsBox w B C D cap vs cl) :
    Calls Try.prog 70 #[.pointer (some ⟨B, 0, none⟩)] w fun e w' => e = .returned (.bool cl) ∧ w' = w := by
  cases cl
  · exact closed_no B C D cap vs w h
  · exact closed_yes B C D cap vs w h
/-- Close, whichever. -/
theorem close (B C D cap : Nat) (vs : List Int) (cl : Bool) (w : World) (h : IsBox w B C D cap vs cl) :
    Calls Try.prog 67 #[.pointer (some ⟨B, 0, none⟩)] w fun e w' => e = .returned (.bool (!cl)) ∧ IsBox w' B C D cap vs true ∧ Chg (fun k => k = D) w w' := by
  cases cl
  · exact close_yes B C D cap vs w h
  · refine (close_no B C D cap vs w h).mono ?_
    rintro e w' ⟨rfl, rfl⟩
    exact ⟨rfl, h, Chg.refl _ _⟩
/-- Offer, whichever. -/
theorem offer (B C D cap : Nat) (vs : List Int) (cl : Bool) (v : Int) (w : World) (h : IsBox w B C D cap vs cl) :
    Calls Try.prog 46 #[.pointer (some ⟨B, 0, none⟩), .int .i64 v] w fun e w' => e = .returned (.bool (!cl && decide (vs.length < cap))) ∧ IsBox w' B C D cap (if !cl && decide (vs.length < cap) then vs ++ [v] else vs) cl ∧ Chg (fun k => k = C) w w' := by
  cases cl
  · simpa using offer_open B C D cap vs v w h
  · refine (offer_shut B C D cap vs v w h).mono ?_
    rintro e w' ⟨rfl, rfl⟩
    exact ⟨rfl, by simpa using h, Chg.refl _ _⟩
/-- Take, whichever. -/
theorem take (B C D cap : Nat) (vs : List Int) (cl : Bool) (w : World) (h : IsBox w B C D cap vs cl) :
    Calls Try.prog 48 #[.pointer (some ⟨B, 0, none⟩)] w fun e w' => e = .returned (.tuple #[.int .i64 (vs.headD 0), .bool (!vs.isEmpty)]) ∧ IsBox w' B C D cap vs.tail cl ∧ Chg (fun k => k = C) w w' := by
  cases vs with
  | nil =>
    refine (take_none B C D cap cl w h).mono ?_
    rintro e w' ⟨rfl, rfl⟩
    exact ⟨rfl, h, Chg.refl _ _⟩
  | cons v vs => exact take_some B C D cap v vs cl w h

/-- How many Pour moves. -/
def pours (vs us : List Int) (cap' : Nat) (shut : Bool) : Nat := if shut then 0 else min vs.length (cap' - us.length)

set_option maxRecDepth 100000 in
set_option maxHeartbeats 1000000 in
theorem pour_shut (B C D cap : Nat) (vs : List Int) (cl : Bool) (B' C' D' cap' : Nat) (us : List Int) (w : World) (h : IsBox w B C D cap vs cl) (h' : IsBox w B' C' D' cap' us true) (hf : Far B C D B' C' D') :
    Calls Try.prog 47 #[.pointer (some ⟨B, 0, none⟩), .pointer (some ⟨B', 0, none⟩)] w fun e w' => e = .returned (.int .i64 0) ∧ w = w' := by
  obtain ⟨j, hj, hs⟩ := info99
  have hne : B ≠ B' := hf.b.1
  have hq := run_eql_ptr_other (P := Try.prog) w (a := ⟨B, 0, none⟩) (b := ⟨B', 0, none⟩) Try.underlying55 hj hs (by simp) h.head h'.head
  have HA := Lib.hid h; have HB := Lib.hid h'
  clear h h' hf hj hs
  go_enter Try.func47, Try.ntmps47
  go_wp2_with fail
  clear hq
  go_loopw [5] (fun v wr => v = .int .i64 0 ∧ w = wr) (fun _ _ => 0)
  case atStart => exact ⟨rfl, rfl⟩
  case round =>
    obtain ⟨rfl, rfl⟩ := hrel
    go_wp2_with fail
    refine (len B C D cap _ cl _ HA.out).mono ?_
    rintro e w3 ⟨rfl, rfl⟩
    by_cases hd : 0 < (vs.length : Int)
    · go_wp2_with fail
      refine (closed_yes B' C' D' cap' _ _ HB.out).mono ?_
      rintro e w3 ⟨rfl, hw⟩
      subst hw
      go_wp2
      go_ret
      exact ⟨rfl, rfl⟩
    · go_wp2
      go_ret
      exact ⟨rfl, rfl⟩

/-- Pour, whichever. -/
theorem pour_any (B C D cap : Nat) (vs : List Int) (cl : Bool) (B' C' D' cap' : Nat) (us : List Int) (cl' : Bool) (w : World) (h : IsBox w B C D cap vs cl) (h' : IsBox w B' C' D' cap' us cl') (hf : Far B C D B' C' D') :
    Calls Try.prog 47 #[.pointer (some ⟨B, 0, none⟩), .pointer (some ⟨B', 0, none⟩)] w fun e w' => e = .returned (.int .i64 (pours vs us cap' cl' : Nat)) ∧ IsBox w' B C D cap (vs.drop (pours vs us cap' cl')) cl ∧ IsBox w' B' C' D' cap' (us ++ vs.take (pours vs us cap' cl')) cl' ∧ Chg (fun k => k = C ∨ k = C') w w' := by
  cases cl'
  · refine (pour B C D cap vs cl B' C' D' cap' us w h h' hf).mono ?_
    rintro e w' ⟨i, h1, h2, h3, he, hp, hq, hc⟩
    have : pours vs us cap' false = i := by unfold pours; rw [if_neg (by simp)]; omega
    rw [this]
    exact ⟨he, hp, hq, hc⟩
  · refine (pour_shut B C D cap vs cl B' C' D' cap' us w h h' hf).mono ?_
    rintro e w' ⟨rfl, rfl⟩
    have : pours vs us cap' true = 0 := rfl
    rw [this]
    exact ⟨rfl, by simpa using h, by simpa using h', Chg.refl _ _⟩
end Go.Proofs.Ytfkbijkmdnieiaa.BoxInt
