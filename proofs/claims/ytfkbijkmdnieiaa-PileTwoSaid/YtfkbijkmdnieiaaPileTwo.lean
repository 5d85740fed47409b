/- The law on two piles with room answers true, at any list. No conditions. -/
import Derived.Test.YtfkbijkmdnieiaaPileAwake
namespace Go.Proofs.Ytfkbijkmdnieiaa.PileTwo
open Go.RowKit Go.Proofs.Ytfkbijkmdnieiaa.Mem Go.Proofs.Ytfkbijkmdnieiaa.Ring Go.Proofs.Ytfkbijkmdnieiaa.PileInt Go.Proofs.YtfkbijkmdnieiaaW.PrintWords

theorem rd_eq {xs : List Int} {i : Nat} (h : i < xs.length) : rd xs (i : Int) = xs[i] := by simp [rd, List.getD, h]

theorem drop_last {xs : List Int} {i : Nat} (_h : i < xs.length) : (xs.take (xs.length - i)).dropLast = xs.take (xs.length - (i + 1)) := by
  rw [List.dropLast_eq_take, List.take_take]
  congr 1
  simp; omega

theorem rev_last {xs : List Int} {i : Nat} (h : i < xs.length) : (xs.take (xs.length - i)).getLast? = some (xs[xs.length - 1 - i]'(by omega)) := by
  rw [List.getLast?_eq_getElem?]
  simp
  rw [List.getElem?_take_of_lt (by omega), List.getElem?_eq_getElem (by omega)]
  congr 2; omega

theorem rev_snoc {xs : List Int} {i : Nat} (h : i < xs.length) : xs.reverse.take i ++ [xs[xs.length - 1 - i]'(by omega)] = xs.reverse.take (i + 1) := by
  rw [List.take_succ_eq_append_getElem (by simpa using h)]
  simp

theorem rev_last2 {xs : List Int} {i : Nat} (h : i < xs.length) : (xs.reverse.take (xs.length - i)).getLast? = some xs[i] := by
  rw [List.getLast?_eq_getElem?]
  simp
  rw [List.getElem?_take_of_lt (by omega), List.getElem?_reverse (by omega), List.getElem?_eq_getElem (by omega)]
  congr 2; omega

theorem drop_last2 {xs : List Int} {i : Nat} (h : i < xs.length) : (xs.reverse.take (xs.length - i)).dropLast = xs.reverse.take (xs.length - (i + 1)) := by
  have := drop_last (xs := xs.reverse) (i := i) (by simpa using h)
  simpa using this

set_option maxRecDepth 100000 in
set_option maxHeartbeats 2000000 in
theorem walk (A : Option Addr) (len cap : Nat) (xs : List Int) (w : World) (hr : Kd.C (Kd.int .i64) w A len xs) (hl : len ≤ cap) (_ : ∀ z ∈ xs, (Lit.int .i64 z).wf = true) :
    Calls Try.prog 9 #[.slice A len cap] w fun e w' => e = .returned (.bool true) ∧ Below w.heap.size w w' := by
  have e := Kd.C_len hr
  subst e
  have HC := Lib.hid hr; clear hr
  by_cases hbig : 60 < xs.length
  · have HL := Lib.hid hbig
    go_enter Try.func9, Try.ntmps9
    go_wp2_with fail
    refine (awake _).mono ?_
    rintro e w1 ⟨rfl, hb1⟩
    have HB1 := Lib.hid hb1; clear hb1
    go_wp2_with fail
    refine (awake _).mono ?_
    rintro e w2 ⟨rfl, hb2⟩
    have HB2 := Lib.hid hb2; clear hb2
    go_wp2_with fail
    go_ret
    exact ⟨rfl, HB1.out.trans (HB2.out.mono HB1.out.size)⟩
  · go_enter Try.func9, Try.ntmps9
    go_wp2_with fail
    refine (awake _).mono ?_
    rintro e w1 ⟨rfl, hb1⟩
    have HB1 := Lib.hid hb1; clear hb1
    go_wp2_with fail
    refine (new 60 _).mono ?_
    rintro e w2 ⟨Bp, Rp, rfl, hp, hc, hB, hR⟩
    have HBp : Hid (Below w.heap.size w w2) := hc.onto HB1.out (Nat.le_refl _) (by simp)
    have hs1 := HB1.out.size
    have HPp := Lib.hid hp
    have hltB := hp.ltB
    have hltR := hp.ltR
    clear hp hc
    go_wp2_with fail
    refine (new 60 _).mono ?_
    rintro e w3 ⟨Bq, Rq, rfl, hp, hc, hB', hR'⟩
    have HBq : Hid (Below w.heap.size w w3) := hc.onto HBp.out (Nat.le_refl _) (by simp)
    have HPp3 : Hid (P w3 Bp Rp 60 0 []) := HPp.out.keep hc (by simp) (by simp)
    have HPq := Lib.hid hp
    have HNp : Hid (∀ k, k < w.heap.size → ¬ (k = Bp ∨ k = Rp)) := by intro k hk; omega
    have HNq : Hid (∀ k, k < w.heap.size → ¬ (k = Bq ∨ k = Rq)) := by intro k hk; omega
    have HX1 : Hid (¬ (Bq = Bp ∨ Bq = Rp) ∧ ¬ (Rq = Bp ∨ Rq = Rp)) := by constructor <;> omega
    have HX2 : Hid (¬ (Bp = Bq ∨ Bp = Rq) ∧ ¬ (Rp = Bq ∨ Rp = Rq)) := by constructor <;> omega
    clear hp hc HPp hs1 hltB hltR hB hR hB' hR'
    have hlen : xs.length ≤ 60 := by omega
    clear hbig
    go_wp2_with fail
    go_loopw [5] (fun k wr => ∃ (i f : Nat), i ≤ xs.length ∧ k = .int .i64 i ∧ P wr Bp Rp 60 f (xs.take i) ∧ P wr Bq Rq 60 0 [] ∧ Below w.heap.size w wr) (fun k _ => xs.length - (intOf k).toNat)
    case atStart => exact ⟨0, 0, by omega, rfl, HPp3.out, HPq.out, HBq.out⟩
    case round =>
      obtain ⟨i, f, hi, rfl, hp, hq, hb⟩ := hrel
      have HP := Lib.hid hp; have HQ := Lib.hid hq; have HB := Lib.hid hb
      clear hp hq hb
      by_cases hlt : i < xs.length
      · obtain ⟨ad, rfl, hcell⟩ := Kd.at_int (Kd.C_below HC.out HB.out) i (by omega) (by omega)
        rw [Int.toNat_natCast] at hcell
        go_wp2_with fail
        refine (push_room Bp Rp 60 f (xs.take i) _ _ HP.out (by simp; omega)).mono ?_
        rintro e w4 ⟨rfl, hp, hc⟩
        have HQ4 : Hid (P w4 Bq Rq 60 0 []) := HQ.out.keep hc HX1.out.1 HX1.out.2
        have HB4 : Hid (Below w.heap.size w w4) := hc.onto HB.out (Nat.le_refl _) HNp.out
        have HP4 : Hid (P w4 Bp Rp 60 f (xs.take (i + 1))) := by
          rw [rd_eq hlt, List.take_append_getElem] at hp; exact hp
        clear hp hc HP HQ HB
        go_wp2
        go_roundw
        case rel => exact ⟨i + 1, f, by omega, by go_num, HP4.out, HQ4.out, HB4.out⟩
        case measure => simp [intOf]; omega
      · have e : i = xs.length := by omega
        subst e
        rw [List.take_length] at HP
        go_wp2_with fail
        go_loopw [8] (fun k wr => ∃ (i f g : Nat), i ≤ xs.length ∧ k = .int .i64 i ∧ P wr Bp Rp 60 f (xs.take (xs.length - i)) ∧ P wr Bq Rq 60 g (xs.reverse.take i) ∧ Below w.heap.size w wr) (fun k _ => xs.length - (intOf k).toNat)
        case atStart => exact ⟨0, f, 0, by omega, rfl, by rw [Nat.sub_zero, List.take_length]; exact HP.out, HQ.out, HB.out⟩
        case round =>
          clear HP HQ HB
          obtain ⟨i, f, g, hi, rfl, hp, hq, hb⟩ := hrel
          have HP := Lib.hid hp; have HQ := Lib.hid hq; have HB := Lib.hid hb
          clear hp hq hb
          by_cases hlt : i < xs.length
          · go_wp2_with fail
            refine (pop_some Bp Rp 60 f _ _ _ HP.out (rev_last hlt)).mono ?_
            rintro e w4 ⟨rfl, hp, hc⟩
            have HQ4 : Hid (P w4 Bq Rq 60 g (xs.reverse.take i)) := HQ.out.keep hc HX1.out.1 HX1.out.2
            have HB4 : Hid (Below w.heap.size w w4) := hc.onto HB.out (Nat.le_refl _) HNp.out
            have HP4 : Hid (P w4 Bp Rp 60 f (xs.take (xs.length - (i + 1)))) := by
              rw [drop_last hlt] at hp; exact hp
            clear hp hc HP HQ HB
            go_wp2_with fail
            refine (push_room Bq Rq 60 g (xs.reverse.take i) _ _ HQ4.out (by simp; omega)).mono ?_
            rintro e w5 ⟨rfl, hq, hc⟩
            have HP5 : Hid (P w5 Bp Rp 60 f (xs.take (xs.length - (i + 1)))) := HP4.out.keep hc HX2.out.1 HX2.out.2
            have HB5 : Hid (Below w.heap.size w w5) := hc.onto HB4.out (Nat.le_refl _) HNq.out
            have HQ5 : Hid (P w5 Bq Rq 60 g (xs.reverse.take (i + 1))) := by
              rw [rev_snoc hlt] at hq; exact hq
            clear hq hc HP4 HQ4 HB4
            go_wp2
            go_roundw
            case rel => exact ⟨i + 1, f, g, by omega, by go_num, HP5.out, HQ5.out, HB5.out⟩
            case measure => simp [intOf]; omega
          · have e : i = xs.length := by omega
            subst e
            rw [Nat.sub_self, List.take_zero] at HP
            have erev : xs.reverse.take xs.length = xs.reverse.take (xs.length - 0) := rfl
            rw [erev] at HQ
            clear erev
            go_wp2_with fail
            go_loopw [11] (fun k wr => ∃ (i g : Nat), i ≤ xs.length ∧ k = .int .i64 i ∧ P wr Bp Rp 60 f [] ∧ P wr Bq Rq 60 g (xs.reverse.take (xs.length - i)) ∧ Below w.heap.size w wr) (fun k _ => xs.length - (intOf k).toNat)
            case atStart => exact ⟨0, g, by omega, rfl, HP.out, HQ.out, HB.out⟩
            case round =>
              clear HP HQ HB
              obtain ⟨i, g, hi, rfl, hp, hq, hb⟩ := hrel
              have HP := Lib.hid hp; have HQ := Lib.hid hq; have HB := Lib.hid hb
              clear hp hq hb
              by_cases hlt : i < xs.length
              · have HV := Lib.hid (rev_last2 hlt)
                have HD := Lib.hid (drop_last2 hlt)
                obtain ⟨ad, rfl, _⟩ := Kd.at_int (Kd.C_below HC.out HB.out) i (by omega) (by omega)
                go_wp2_with fail
                refine (pop_some Bq Rq 60 g _ _ _ HQ.out HV.out).mono ?_
                rintro e w4 ⟨rfl, hq, hc⟩
                have HP4 : Hid (P w4 Bp Rp 60 f []) := HP.out.keep hc HX2.out.1 HX2.out.2
                have HB4 : Hid (Below w.heap.size w w4) := hc.onto HB.out (Nat.le_refl _) HNq.out
                have HQ4 : Hid (P w4 Bq Rq 60 g (xs.reverse.take (xs.length - (i + 1)))) := by
                  rw [HD.out] at hq; exact hq
                have hcell : w4.cell? (ad.add i) = some (.int .i64 xs[i]) := by
                  obtain ⟨ad', h, hcell⟩ := Kd.at_int (Kd.C_below HC.out HB4.out) i (by omega) (by omega)
                  cases h
                  rw [Int.toNat_natCast, rd_eq hlt] at hcell; exact hcell
                clear hq hc HP HQ HB
                go_wp2
                go_roundw
                case rel => exact ⟨i + 1, g, by omega, by go_num, HP4.out, HQ4.out, HB4.out⟩
                case measure => simp [intOf]; omega
              · have e : i = xs.length := by omega
                subst e
                rw [Nat.sub_self, List.take_zero] at HQ
                go_wp2_with fail
                refine (PileInt.len Bp Rp 60 f [] _ HP.out).mono ?_
                rintro e w4 ⟨rfl, rfl⟩
                go_wp2_with fail
                refine (PileInt.len Bq Rq 60 g [] _ HQ.out).mono ?_
                rintro e w4 ⟨rfl, rfl⟩
                go_wp2
                go_ret
                exact ⟨rfl, HB.out⟩
end Go.Proofs.Ytfkbijkmdnieiaa.PileTwo
