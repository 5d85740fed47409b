/- The law on boxes of strings answers true, at any strings. No conditions. -/
import Derived.Test.YtfkbijkmdnieiaaSBoxClose
import Derived.Test.YtfkbijkmdnieiaaBoxAwake
namespace Go.Proofs.Ytfkbijkmdnieiaa.BoxTexts
open Go.RowKit Go.Conc Go.Proofs.Ytfkbijkmdnieiaa.Mem Go.Proofs.Ytfkbijkmdnieiaa.BoxStr Go.Proofs.YtfkbijkmdnieiaaW.PrintWords

set_option maxRecDepth 100000 in
set_option maxHeartbeats 400000 in
theorem pick_one (g B C D cap : Nat) (v : ByteArray) (vs : List ByteArray) (cl : Bool) (w : World) (h : IsBox w B C D cap (v :: vs) cl) (h0 : w.cell? ⟨g, 0, none⟩ = some (.pointer (some ⟨B, 0, none⟩))) :
    Calls Try.prog 60 #[.slice (some ⟨g, 0, none⟩) 1 1] w fun e w' => e = .returned (.tuple #[.string v, .int .i64 0, .bool true]) ∧ IsBox w' B C D cap vs cl ∧ Chg (fun k => k = C) w w' := by
  have HB := Lib.hid h; clear h
  go_enter Try.func60, Try.ntmps60
  go_wp2
  go_loopw [12] (fun v wr => v = .int .i64 0 ∧ w = wr) (fun _ _ => 0)
  case atStart => exact ⟨rfl, rfl⟩
  case round =>
    obtain ⟨rfl, rfl⟩ := hrel
    go_wp2_with fail
    refine (take_some B C D cap v vs cl _ HB.out).mono ?_
    rintro e w2 ⟨rfl, hp, hc⟩
    have HP := Lib.hid hp; have HC := Lib.hid hc
    clear hp hc
    go_wp2_with fail
    refine bodyPost_ret (v := .tuple #[.string v, .int .i64 0, .bool true]) (by simp [results, Try.results60, go_sem]) rfl ⟨rfl, HP.out, HC.out⟩

theorem cell_str {A : Option Addr} {xs : List ByteArray} {w : World} {i : Nat} (h : Kd.C Kd.string w A xs.length xs) (hi : i < xs.length) : ∃ ad, A = some ad ∧ ∀ wy, Below w.heap.size w wy → wy.cell? (ad.add i) = some (.string xs[i]) := by
  obtain ⟨ad, hA, _⟩ := h.2.2 (by omega)
  refine ⟨ad, hA, fun wy hb => ?_⟩
  obtain ⟨ad', hA', hc⟩ := (Kd.C_below h hb).2.2 (by omega)
  rw [hA] at hA'
  cases hA'
  obtain ⟨cs, _, hk, hcell⟩ := hc i xs[i] (by simp [hi])
  have hk : cs = [.string xs[i]] := hk
  subst hk
  have := hcell 0 (.string xs[i]) rfl
  simpa [Kd.string, Kd.scalar] using this

set_option maxRecDepth 100000 in
set_option maxHeartbeats 2000000 in
theorem walk_long (A0 : Option Addr) (len0 cap0 : Nat) (w : World) (hbig : 60 < len0) :
    Calls Try.prog 14 #[.slice A0 len0 cap0] w fun e w' => e = .returned (.bool true) ∧ Below w.heap.size w w' := by
  go_enter Try.func14, Try.ntmps14
  go_wp2_with fail
  refine (BoxInt.awake _).mono ?_
  rintro e w1 ⟨rfl, hb1⟩
  have HB1 := Lib.hid hb1; clear hb1
  go_wp2_with fail
  refine (BoxInt.awake _).mono ?_
  rintro e w2 ⟨rfl, hb2⟩
  have HB2 := Lib.hid hb2; clear hb2
  go_wp2_with fail
  go_ret
  exact ⟨rfl, HB1.out.trans (HB2.out.mono HB1.out.size)⟩

set_option maxRecDepth 100000 in
set_option maxHeartbeats 4000000 in
theorem walk_short (A0 : Option Addr) (cap0 : Nat) (xs : List ByteArray) (w : World) (hr0 : Kd.C Kd.string w A0 xs.length xs) (hl0 : xs.length ≤ 60) :
    Calls Try.prog 14 #[.slice A0 xs.length cap0] w fun e w' => e = .returned (.bool true) ∧ Below w.heap.size w w' := by
  have HC0 := Lib.hid hr0; clear hr0
  go_enter Try.func14, Try.ntmps14
  go_wp2_with fail
  refine (BoxInt.awake _).mono ?_
  rintro e w1 ⟨rfl, hb1⟩
  have HB1 := Lib.hid hb1; clear hb1
  go_wp2_with fail
  refine (new 60 _).mono ?_
  rintro e w2 ⟨B, C, D, rfl, hp, hc, hB, hC, hD⟩
  have hp : IsBox w2 B C D 60 [] false := hp
  have hs := HB1.out.size
  have HB2 : Hid (Below w.heap.size w w2) := hc.onto HB1.out (Nat.le_refl _) (by simp)
  have HP2 := Lib.hid hp
  have HN : Hid (∀ k, k < w.heap.size → ¬ k = C) := by intro k hk; omega
  have HM : Hid (∀ k, k < w.heap.size → ¬ k = D) := by intro k hk; omega
  clear hp hc hB hC hD HB1 hs
  go_wp2_with fail
  go_loopw [4] (fun v wr => ∃ i : Nat, i ≤ xs.length ∧ v = .int .i64 i ∧ IsBox wr B C D 60 (xs.take i) false ∧ Below w.heap.size w wr) (fun v _ => xs.length - (intOf v).toNat)
  case atStart => exact ⟨0, by omega, rfl, HP2.out, HB2.out⟩
  case round =>
    clear HP2 HB2
    obtain ⟨i, hi, rfl, hp, hb⟩ := hrel
    have HP := Lib.hid hp; have HB := Lib.hid hb
    clear hp hb
    by_cases hlt : i < xs.length
    · obtain ⟨ad, rfl, hca⟩ := cell_str HC0.out hlt
      have hcell := hca _ HB.out
      have htk : Hid (xs.take i ++ [xs[i]] = xs.take (i + 1)) := Lib.hid (List.take_append_getElem hlt)
      clear hca
      generalize xs[i] = x at hcell htk
      go_wp2_with fail
      refine (offer_room B C D 60 _ x _ HP.out (by simp; omega)).mono ?_
      rintro e w4 ⟨rfl, hp, hc⟩
      rw [htk.out] at hp
      have HP4 := Lib.hid hp
      have HB4 : Hid (Below w.heap.size w w4) := hc.onto HB.out (Nat.le_refl _) HN.out
      clear hp hc HP HB
      go_wp2
      go_roundw
      case rel => exact ⟨i + 1, by omega, by go_num, HP4.out, HB4.out⟩
      case measure => simp [intOf]; omega
    · have e : i = xs.length := by omega
      subst e
      rw [List.take_length] at HP
      clear hlt hi
      go_wp2_with fail
      refine (close_yes B C D 60 xs _ HP.out).mono ?_
      rintro e w4 ⟨rfl, hp, hc⟩
      have HP4 := Lib.hid hp
      have HB4 : Hid (Below w.heap.size w w4) := hc.onto HB.out (Nat.le_refl _) HM.out
      clear hp hc HP HB
      go_wp2_with fail
      refine (close_no B C D 60 xs _ HP4.out).mono ?_
      rintro e w5 ⟨rfl, rfl⟩
      go_wp2_with fail
      refine (closed_yes B C D 60 xs _ HP4.out).mono ?_
      rintro e w5 ⟨rfl, hw⟩
      subst hw
      go_wp2_with fail
      refine (offer_shut B C D 60 xs _ _ HP4.out).mono ?_
      rintro e w6 ⟨rfl, hw⟩
      subst hw
      go_wp2_with fail
      refine (len B C D 60 xs true _ HP4.out).mono ?_
      rintro e w7 ⟨rfl, rfl⟩
      go_wp2_with fail
      go_loopw [5] (fun v wr => ∃ i : Nat, i ≤ xs.length ∧ v = .int .i64 i ∧ IsBox wr B C D 60 (xs.drop i) true ∧ Below w.heap.size w wr) (fun v _ => xs.length - (intOf v).toNat)
      case atStart => exact ⟨0, by omega, rfl, HP4.out, HB4.out⟩
      case round =>
        clear HP4 HB4
        obtain ⟨i, hi, rfl, hp, hb⟩ := hrel
        have HP := Lib.hid hp; have HB := Lib.hid hb
        clear hp hb
        by_cases hlt : i < xs.length
        · obtain ⟨ad, rfl, hca⟩ := cell_str HC0.out hlt
          have HCA := Lib.hid hca
          have hdr : xs.drop i = xs[i] :: xs.drop (i + 1) := List.drop_eq_getElem_cons hlt
          rw [hdr] at HP
          clear hca hdr
          generalize xs[i] = x at HCA HP
          go_wp2_with fail
          obtain ⟨wb, hwb⟩ : ∃ wb, wb = wr.alloc (Obj.cells #[Value.pointer (some ⟨B, 0, none⟩)] 65) := ⟨_, rfl⟩
          have HCB : Hid (Chg (fun _ => False) wr wb) := by subst hwb; exact Lib.hid ((Chg.refl _ _).alloc _)
          have HQB : Hid (Blk wb wr.heap.size #[.pointer (some ⟨B, 0, none⟩)] 65) := by subst hwb; exact Lib.hid (Blk.new _ _ _)
          rw [← hwb]
          clear hwb
          refine (pick_one _ B C D 60 x _ true _ (HP.out.keep HCB.out (by simp) (by simp) (by simp)) (HQB.out.cell (j := 0) rfl)).mono ?_
          rintro e w5 ⟨rfl, hp, hc⟩
          have HP5 := Lib.hid hp
          have HB5 : Hid (Below w.heap.size w w5) := hc.onto (HCB.out.onto HB.out (Nat.le_refl _) (by simp)) (Nat.le_refl _) HN.out
          clear hp hc HP HB HQB HCB
          have hcell := HCA.out _ HB5.out
          go_wp2
          go_roundw
          case rel => exact ⟨i + 1, by omega, by go_num, HP5.out, HB5.out⟩
          case measure => simp [intOf]; omega
        · have e : i = xs.length := by omega
          subst e
          rw [List.drop_length] at HP
          go_wp2_with fail
          refine (take_none B C D 60 true _ HP.out).mono ?_
          rintro e w5 ⟨rfl, hw⟩
          subst hw
          go_wp2
          go_ret
          exact ⟨rfl, HB.out⟩

theorem walk (A0 : Option Addr) (len0 cap0 : Nat) (xs : List ByteArray) (w : World) (hr0 : Kd.C Kd.string w A0 len0 xs) (_ : len0 ≤ cap0) (_ : ∀ z ∈ xs, z.size ≤ maxLen) :
    Calls Try.prog 14 #[.slice A0 len0 cap0] w fun e w' => e = .returned (.bool true) ∧ Below w.heap.size w w' := by
  by_cases hbig : 60 < len0
  · exact walk_long A0 len0 cap0 w hbig
  · have e0 := Kd.C_len hr0
    subst e0
    exact walk_short A0 cap0 xs w hr0 (by omega)
end Go.Proofs.Ytfkbijkmdnieiaa.BoxTexts
