/- A box of ints: Pour from one box to another one that is open. No conditions. -/
import Derived.Test.YtfkbijkmdnieiaaBoxAwake
import Derived.LaidEqlPtr
namespace Go.Proofs.Ytfkbijkmdnieiaa.BoxInt
open Go.RowKit Go.Conc Go.Proofs.Ytfkbijkmdnieiaa.Mem Go.Proofs.YtfkbijkmdnieiaaW.PrintWords

theorem IsBox.keep {B C D cap : Nat} {vs : List Int} {cl : Bool} {w w' : World} {S : Nat → Prop} (h : IsBox w B C D cap vs cl) (hc : Chg S w w') (hB : ¬ S B) (hC : ¬ S C) (hD : ¬ S D) : IsBox w' B C D cap vs cl :=
  ⟨h.head.keep hc hB, h.vals.keep hc hC, h.done.keep hc hD, h.apart, h.le, h.room, h.most⟩

/-- Offer to an open box, whatever it holds. -/
theorem offer_open (B C D cap : Nat) (vs : List Int) (v : Int) (w : World) (h : IsBox w B C D cap vs false) :
    Calls Try.prog 46 #[.pointer (some ⟨B, 0, none⟩), .int .i64 v] w fun e w' => e = .returned (.bool (decide (vs.length < cap))) ∧ IsBox w' B C D cap (if vs.length < cap then vs ++ [v] else vs) false ∧ Chg (fun k => k = C) w w' := by
  by_cases hn : vs.length < cap
  · rw [if_pos hn, decide_eq_true hn]; exact offer_room B C D cap vs v w h hn
  · rw [if_neg hn, decide_eq_false hn]
    refine (offer_full B C D cap vs v w h (by have := h.le; omega)).mono ?_
    rintro e w' ⟨rfl, rfl⟩
    exact ⟨rfl, h, Chg.refl _ _⟩

theorem info99 : ∃ j, Try.prog.info? 99 = some j ∧ j.size ≠ 0 := by
  have h : (Try.prog.info? 99).map (·.size) = some 2 := by kernel_rfl
  obtain ⟨j, hj, hs⟩ := Option.map_eq_some_iff.1 h
  exact ⟨j, hj, by rw [hs]; decide⟩

theorem part_at {vs : List Int} {i : Nat} (h : i < vs.length) : ∃ v, vs.drop i = v :: vs.drop (i + 1) ∧ vs.take (i + 1) = vs.take i ++ [v] :=
  ⟨vs[i]'h, List.drop_eq_getElem_cons h, (List.take_append_getElem h).symm⟩

/-- Two boxes that share nothing. -/
structure Far (B C D B' C' D' : Nat) : Prop where
  b : B ≠ B' ∧ B ≠ C' ∧ B ≠ D'
  c : C ≠ B' ∧ C ≠ C' ∧ C ≠ D'
  d : D ≠ B' ∧ D ≠ C' ∧ D ≠ D'

set_option maxRecDepth 100000 in
set_option maxHeartbeats 1000000 in
theorem pour (B C D cap : Nat) (vs : List Int) (cl : Bool) (B' C' D' cap' : Nat) (us : List Int) (w : World) (h : IsBox w B C D cap vs cl) (h' : IsBox w B' C' D' cap' us false) (hf : Far B C D B' C' D') :
    Calls Try.prog 47 #[.pointer (some ⟨B, 0, none⟩), .pointer (some ⟨B', 0, none⟩)] w fun e w' => ∃ i, i ≤ vs.length ∧ us.length + i ≤ cap' ∧ (i = vs.length ∨ us.length + i = cap') ∧ e = .returned (.int .i64 i) ∧ IsBox w' B C D cap (vs.drop i) cl ∧ IsBox w' B' C' D' cap' (us ++ vs.take i) false ∧ Chg (fun k => k = C ∨ k = C') w w' := by
  obtain ⟨j, hj, hs⟩ := info99
  have hne : B ≠ B' := hf.b.1
  have hq := run_eql_ptr_other (P := Try.prog) w (a := ⟨B, 0, none⟩) (b := ⟨B', 0, none⟩) Try.underlying55 hj hs (by simp) h.head h'.head
  have HA := Lib.hid h; have HB := Lib.hid h'; have HF := Lib.hid hf
  clear h h' hf hj hs
  go_enter Try.func47, Try.ntmps47
  go_wp2_with fail
  clear hq
  go_loopw [5] (fun v wr => ∃ i : Nat, i ≤ vs.length ∧ us.length + i ≤ cap' ∧ v = .int .i64 i ∧ IsBox wr B C D cap (vs.drop i) cl ∧ IsBox wr B' C' D' cap' (us ++ vs.take i) false ∧ Chg (fun k => k = C ∨ k = C') w wr) (fun v _ => vs.length - (intOf v).toNat)
  case atStart => exact ⟨0, by omega, by have := HB.out.le; omega, rfl, HA.out, by simpa using HB.out, Chg.refl _ _⟩
  case round =>
    clear HA HB
    obtain ⟨i, hi, hu, rfl, ha, hb, hc⟩ := hrel
    have HA := Lib.hid ha; have HB := Lib.hid hb; have HC := Lib.hid hc
    have hi2 : i ≤ 1000 := by have := hb.most; omega
    clear ha hb hc
    go_wp2_with fail
    refine (len B C D cap _ cl _ HA.out).mono ?_
    rintro e w3 ⟨rfl, rfl⟩
    by_cases hlt : i < vs.length
    · have HLT := Lib.hid hlt
      have hd : 0 < ((vs.drop i).length : Int) := by rw [List.length_drop]; omega
      go_wp2_with fail
      refine (closed_no B' C' D' cap' _ _ HB.out).mono ?_
      rintro e w3 ⟨rfl, rfl⟩
      go_wp2_with fail
      have hl : (us ++ vs.take i).length = us.length + i := by rw [List.length_append, List.length_take]; omega
      have hlen := len B' C' D' cap' _ false _ HB.out
      rw [hl] at hlen
      refine hlen.mono ?_
      clear hlen
      rintro e w3 ⟨rfl, rfl⟩
      go_wp2_with fail
      refine (BoxInt.cap B' C' D' cap' _ false _ HB.out).mono ?_
      rintro e w3 ⟨rfl, rfl⟩
      by_cases hr : us.length + i < cap'
      · have hr' : ((us.length + i : Nat) : Int) < (cap' : Int) := by omega
        go_wp2_with fail
        have HR := Lib.hid hr
        obtain ⟨v, hdr, htk⟩ := part_at hlt
        have HA2 := HA.out
        rw [hdr] at HA2
        refine (take_some B C D cap v _ cl _ HA2).mono ?_
        rintro e w4 ⟨rfl, ha, hc⟩
        have HA4 := Lib.hid ha
        have HB4 : Hid (IsBox w4 B' C' D' cap' (us ++ vs.take i) false) := HB.out.keep hc (fun e => HF.out.c.1 e.symm) (fun e => HF.out.c.2.1 e.symm) (fun e => HF.out.c.2.2 e.symm)
        have HC4 : Hid (Chg (fun k => k = C ∨ k = C') w w4) := HC.out.trans hc (fun k _ h => Or.inl h)
        clear ha hc HA2 hdr
        go_wp2_with fail
        refine (offer_room B' C' D' cap' _ v _ HB4.out (by rw [hl]; exact hr)).mono ?_
        rintro e w5 ⟨rfl, hb, hc⟩
        have HA5 : Hid (IsBox w5 B C D cap (vs.drop (i + 1)) cl) := HA4.out.keep hc (fun e => HF.out.b.2.1 e) (fun e => HF.out.c.2.1 e) (fun e => HF.out.d.2.1 e)
        have HC5 : Hid (Chg (fun k => k = C ∨ k = C') w w5) := HC4.out.trans hc (fun k _ h => Or.inr h)
        rw [List.append_assoc, ← htk] at hb
        have HB5 := Lib.hid hb
        clear hb hc HA4 HB4 HC4 HA HB HC
        go_wp2
        go_roundw
        case rel => exact ⟨i + 1, HLT.out, by have := HR.out; omega, by have := HLT.out; go_num, HA5.out, HB5.out, HC5.out⟩
        case measure => have h1 := HLT.out; simp [intOf]; omega
      · have hr' : ¬ ((us.length + i : Nat) : Int) < (cap' : Int) := by omega
        go_wp2
        go_ret
        exact ⟨i, hi, hu, Or.inr (by omega), rfl, HA.out, HB.out, HC.out⟩
    · have hd : ¬ 0 < ((vs.drop i).length : Int) := by rw [List.length_drop]; omega
      go_wp2
      go_ret
      exact ⟨i, hi, hu, Or.inl (by omega), rfl, HA.out, HB.out, HC.out⟩
end Go.Proofs.Ytfkbijkmdnieiaa.BoxInt
