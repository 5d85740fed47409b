/- What a table tells, made again: the law, walked. No conditions. -/
import Derived.Test.YtccfjjaljckinaaQMakeCM
import Derived.LoopTactic
import Derived.IntWalk
namespace Go.Proofs.Ytccfjjaljckinaa.Tag
open Go.RowKit Go.Lib Go.Shelf Go.Proofs.Ytccfjjaljckinaa.Mem Go.Proofs.Ytccfjjaljckinaa.IMap Go.Proofs.YtccfjjaljckinaaW.PrintWords Go.Proofs.YtccfjjaljckinaaW.PrintLast Go.Proofs.YtccfjjaljckinaaW.PrintMore Go.Proofs.Ytccfjjaljckinaa.PTagActs
set_option linter.unusedVariables false

set_option maxRecDepth 100000 in
set_option maxHeartbeats 1000000 in
theorem again_long (A A' : Option Addr) (len cap len' cap' : Nat) (w : World) (hbig : 30 < len) :
    Calls Try.prog 7 #[.slice A len cap, .slice A' len' cap'] w fun e w' => e = .returned (.bool true) ∧ Below w.heap.size w w' := by
  have t1 : decide ((len : Int) > 30) = true := decide_eq_true (by omega)
  go_enter Try.func7, Try.ntmps7
  go_wp2_with fail
  refine (awake _).mono ?_
  rintro e w1 ⟨rfl, hb1⟩
  have HB1 := Lib.hid hb1; clear hb1
  go_wp2_with fail
  refine (awake _).mono ?_
  rintro e w2 ⟨rfl, hb2⟩
  have HB2 := Lib.hid hb2; clear hb2
  go_wp2_with fail
  go_ret
  exact ⟨rfl, HB1.out.trans (HB2.out.mono HB1.out.size)⟩

set_option maxRecDepth 100000 in
set_option maxHeartbeats 1000000 in
theorem again_long_more (A A' : Option Addr) (len cap len' cap' : Nat) (w : World) (hlow : ¬ 30 < len) (hbig : 20 < len') :
    Calls Try.prog 7 #[.slice A len cap, .slice A' len' cap'] w fun e w' => e = .returned (.bool true) ∧ Below w.heap.size w w' := by
  have t1 : decide ((len : Int) > 30) = false := decide_eq_false (by omega)
  have t2 : decide ((len' : Int) > 20) = true := decide_eq_true (by omega)
  go_enter Try.func7, Try.ntmps7
  go_wp2_with fail
  refine (awake _).mono ?_
  rintro e w1 ⟨rfl, hb1⟩
  have HB1 := Lib.hid hb1; clear hb1
  go_wp2_with fail
  refine (awake _).mono ?_
  rintro e w2 ⟨rfl, hb2⟩
  have HB2 := Lib.hid hb2; clear hb2
  go_wp2_with fail
  go_ret
  exact ⟨rfl, HB1.out.trans (HB2.out.mono HB1.out.size)⟩

set_option maxRecDepth 100000 in
set_option maxHeartbeats 40000000 in
theorem again_short (A A1 : Option Addr) (cap cap1 : Nat) (acts more : List Act) (w : World) (hc : Acts w A acts) (hf : FitsA acts) (hl : acts.length ≤ 30) (hc' : Acts w A1 more) (hf' : FitsA more) (hl' : more.length ≤ 20) :
    Calls Try.prog 7 #[.slice A acts.length cap, .slice A1 more.length cap1] w fun e w' => e = .returned (.bool true) ∧ Below w.heap.size w w' := by
  have HAc := Lib.hid hc
  have HMc := Lib.hid hc'
  have HFi := Lib.hid hf
  have HFm := Lib.hid hf'
  have hu36 := Try.underlying36
  have hu34 := Try.underlying34
  have hu32 := Try.underlying32
  have hu30 := Try.underlying30
  have hu28 := Try.underlying28
  have hu49 := Try.underlying49
  clear hc hf hc' hf'
  have t1 : decide ((acts.length : Int) > 30) = false := decide_eq_false (by omega)
  have t2 : decide ((more.length : Int) > 20) = false := decide_eq_false (by omega)
  go_enter Try.func7, Try.ntmps7
  go_wp2_with fail
  refine (awake _).mono ?_
  rintro e w1 ⟨rfl, hb1⟩
  have HB1 := Lib.hid hb1
  have z1 := hb1.size
  clear hb1
  go_wp2_with fail
  refine (newAt 20 w1).mono ?_
  rintro e w2 ⟨rfl, ht, hb⟩
  have HT2 := Lib.hid ht
  have HB2 : Hid (Below w.heap.size w w2) := Lib.hid (HB1.out.trans (hb.mono z1))
  have z2 := hb.size
  have HBl := Lib.hid ht.ltB
  clear ht hb HB1
  go_wp2_with fail
  generalize hm : more.length = m at *
  have HM := Lib.hid hm
  clear hm
  generalize hn : acts.length = n at *
  have HN := Lib.hid hn
  clear hn
  refine gwP (fun w4 hw4 => ?_)
  have HB4 : Hid (Below w2.heap.size w2 w4) := Lib.hid (by rw [← hw4]; exact (Below.refl _ _).alloc (Nat.le_refl _) _)
  have HD4 : Hid (Blk w4 w2.heap.size #[.int .i64 20, .int .i64 0, .slice none 0 0, .slice none 0 0] 49) := Lib.hid (by rw [← hw4]; exact Blk.at_ rfl _ _)
  have HB : Hid (Below w.heap.size w w4) := Lib.hid (HB2.out.trans (HB4.out.mono HB2.out.size))
  have HDu : Hid (Duo w.heap.size 0 w4 (fun k => w1.heap.size ≤ k ∧ k < w2.heap.size) (fun _ => False) (fun _ => False) (w1.heap.size + 1) w2.heap.size (newT 20) (newR 20) none 0 []) := Lib.hid ⟨HT2.out.below HB4.out, newRef HD4.out, newRel 20, Kd.F_nil _ _ _, Nat.le_refl _, fun k hk => ⟨by omega, by have := HB4.out.size; omega, by omega, fun h => h, fun h => h⟩, fun k hk => hk.elim, HB2.out.size, HB.out.size, Nat.le_refl _, ⟨Int.le_refl _, Int.le_refl _⟩, Nat.le_refl _, fun l hl => (by cases hl)⟩
  clear hw4 HB4 HD4 HB2 HT2
  go_loopw [7, 8] (fun v i wr => ∃ (k : Nat) (O S U : Nat → Prop) (t : Tab) (r : RTab) (A' : Option Addr) (c' : Nat) (told : List Listed), k ≤ n ∧ i = .int .i64 k ∧ v = .slice A' told.length c' ∧ Duo w.heap.size k wr O S U (w1.heap.size + 1) w2.heap.size t r A' c' told ∧ Inv t ∧ Fits t ∧ Below w.heap.size w wr) (fun _ i _ => n - (intOf i).toNat)
  case atStart => exact ⟨0, _, _, _, _, _, none, 0, [], Nat.zero_le _, rfl, rfl, HDu.out, Inv.new 20, fits_new 20, HB.out⟩
  case round =>
    clear HDu HB
    obtain ⟨k, O, S, U, t, r, A', c', told, hk, rfl, rfl, hdu, hiv, hft, hb⟩ := hrel
    have HDu := Lib.hid hdu
    have HIv := Lib.hid hiv
    have HFt := Lib.hid hft
    have HB := Lib.hid hb
    clear hdu hb hiv hft
    generalize hBB : w1.heap.size + 1 = B at *
    generalize hDD : w2.heap.size = D at *
    clear hBB hDD
    by_cases hlt : k < n
    · obtain ⟨a, ha⟩ : ∃ a, acts[k]? = some a := ⟨_, List.getElem?_eq_getElem (by rw [HN.out]; exact hlt)⟩
      have HA := Lib.hid ha
      obtain ⟨ad, rfl, h0, hcc, hadl⟩ := (HAc.out.below HB.out) k a ha
      have hfit := HFi.out a (List.mem_of_getElem? ha)
      have HDo := Lib.hid (doAt HDu.out a hfit.2.2.2.2 (by omega))
      replace HIv := Lib.hid (HIv.out.doT HDu.out.tab.good HDu.out.ser.1 told a.kind (pickX told a.kind a.place a.told a.x))
      replace HFt := Lib.hid (HFt.out.doT HDu.out.tab.good told a.kind (pickX told a.kind a.place a.told a.x))
      generalize hcx : doT t told a.kind (pickX told a.kind a.place a.told a.x) = dx at HDo HIv HFt
      obtain ⟨t', told'⟩ := dx
      simp only at HDo HIv HFt
      clear hcx
      obtain ⟨kind, place, tld, ⟨⟨xi, xg⟩, ⟨xt, xn, xk, xd⟩⟩⟩ := a
      have m0 : wr.cell? (ad.add (k * 9)) = some (.int .i64 kind) := h0
      have m1 := hcc 1 _ rfl
      have m2 := hcc 2 _ rfl
      have m3 := hcc 3 _ rfl
      have m4 := hcc 4 _ rfl
      have m5 := hcc 5 _ rfl
      have m6 := hcc 6 _ rfl
      have m7 := hcc 7 _ rfl
      have m8 := hcc 8 _ rfl
      clear h0 hcc hfit ha
      simp only [] at m1 m2 m3 m4 m5 m6 m7 m8
      have hk0 : (0 : Int) ≤ k := by omega
      have hkn : (k : Int) < n := by omega
      have hkt : ((k : Int)).toNat = k := by omega
      go_wp2_with fail
      refine HDo.out.mono ?_
      rintro e w5 ⟨O', S', U', r', A'', c'', rfl, hdu5, hb5⟩
      have HD5 := Lib.hid hdu5
      have HB5 : Hid (Below w.heap.size w w5) := Lib.hid (HB.out.trans (hb5.mono (Nat.le_refl _)))
      clear hdu5 hb5 HDo HDu HB m0 m1 m2 m3 m4 m5 m6 m7 m8
      go_wp2_with fail
      go_roundw
      case rel => exact ⟨k + 1, O', S', U', t', r', A'', c'', told', by omega, by go_num, rfl, HD5.out, HIv.out, HFt.out, HB5.out⟩
      case measure => simp [intOf]; omega
    · obtain rfl : n = k := by omega
      go_wp2_with fail
      refine (capAt HDu.out.tab).mono ?_
      rintro e wa ⟨rfl, rfl⟩
      go_wp2_with fail
      refine (serAt HDu.out.tab).mono ?_
      rintro e wa ⟨rfl, rfl⟩
      go_wp2_with fail
      refine (lastsAt HDu.out.tab).mono ?_
      rintro e w5 ⟨A5, c5, rfl, g5, hC5, hb⟩
      have HC5 := Lib.hid hC5
      have G5 := Lib.hid g5
      have HD5 := Lib.hid (HDu.out.below hb)
      have HB5 := Lib.hid (HB.out.trans (hb.mono HB.out.size))
      clear hC5 g5 hb HDu HB
      go_wp2_with fail
      refine (listAt HD5.out.tab).mono ?_
      rintro e w6 ⟨A6, c6, L, rfl, g6, hC6, hs6, hm6, hb⟩
      have HD6 := Lib.hid (HD5.out.below hb)
      have HB6 := Lib.hid (HB5.out.trans (hb.mono HB5.out.size))
      replace HC5 := Lib.hid (Kd.C_below HC5.out hb)
      have HMk := Lib.hid (remake HD6.out HIv.out HFt.out (by omega) HB6.out HC5.out G5.out hC6 g6 hs6 hm6)
      clear hC6 g6 hs6 hm6 hb HC5 G5 HD6 HB6 HD5 HB5 HIv HFt
      go_wp2_with fail
      refine HMk.out.mono ?_
      rintro e w7 ⟨T, O7, u, rfl, hd7, hb7⟩
      have HD7 := Lib.hid hd7
      have HB7 := Lib.hid hb7
      clear hd7 hb7 HMk
      go_wp2_with fail
      go_loopw [7, 12] (fun v i wr => ∃ (k' : Nat) (O S U : Nat → Prop) (t : Tab) (r : RTab) (A' : Option Addr) (c' : Nat) (told : List Listed), k' ≤ m ∧ i = .int .i64 k' ∧ v = .slice A' told.length c' ∧ Duo w.heap.size (n + k') wr O S U T D t r A' c' told ∧ Below w.heap.size w wr) (fun _ i _ => m - (intOf i).toNat)
      case atStart => exact ⟨0, _, _, _, _, _, _, _, _, Nat.zero_le _, rfl, rfl, HD7.out, HB7.out⟩
      case round =>
        clear HD7 HB7
        obtain ⟨k, O, S, U, t, r, A', c', told, hk, rfl, rfl, hdu, hb⟩ := hrel
        have HDu := Lib.hid hdu
        have HB := Lib.hid hb
        clear hdu hb
        by_cases hlt : k < m
        · obtain ⟨a, ha⟩ : ∃ a, more[k]? = some a := ⟨_, List.getElem?_eq_getElem (by rw [HM.out]; exact hlt)⟩
          have HA := Lib.hid ha
          obtain ⟨ad, rfl, h0, hcc, hadl⟩ := (HMc.out.below HB.out) k a ha
          have hfit := HFm.out a (List.mem_of_getElem? ha)
          have HDo := Lib.hid (doAt HDu.out a hfit.2.2.2.2 (by omega))
          generalize hcx : doT t told a.kind (pickX told a.kind a.place a.told a.x) = dx at HDo
          obtain ⟨t', told'⟩ := dx
          simp only at HDo
          clear hcx
          obtain ⟨kind, place, tld, ⟨⟨xi, xg⟩, ⟨xt, xn, xk, xd⟩⟩⟩ := a
          have m0 : wr.cell? (ad.add (k * 9)) = some (.int .i64 kind) := h0
          have m1 := hcc 1 _ rfl
          have m2 := hcc 2 _ rfl
          have m3 := hcc 3 _ rfl
          have m4 := hcc 4 _ rfl
          have m5 := hcc 5 _ rfl
          have m6 := hcc 6 _ rfl
          have m7 := hcc 7 _ rfl
          have m8 := hcc 8 _ rfl
          clear h0 hcc hfit ha
          simp only [] at m1 m2 m3 m4 m5 m6 m7 m8
          have hk0 : (0 : Int) ≤ k := by omega
          have hkn : (k : Int) < m := by omega
          have hkt : ((k : Int)).toNat = k := by omega
          go_wp2_with fail
          refine HDo.out.mono ?_
          rintro e w5 ⟨O', S', U', r', A'', c'', rfl, hdu5, hb5⟩
          have HD5 := Lib.hid hdu5
          have HB5 : Hid (Below w.heap.size w w5) := Lib.hid (HB.out.trans (hb5.mono (Nat.le_refl _)))
          clear hdu5 hb5 HDo HDu HB m0 m1 m2 m3 m4 m5 m6 m7 m8
          go_wp2_with fail
          refine (alikeAt HD5.out.tab HD5.out.ref HD5.out.rel).mono ?_
          rintro e w6 ⟨rfl, hb⟩
          replace HD5 := Lib.hid (HD5.out.below hb)
          replace HB5 := Lib.hid (HB5.out.trans (hb.mono HB5.out.size))
          clear hb
          go_wp2_with fail
          go_roundw
          case rel => exact ⟨k + 1, O', S', U', t', r', A'', c'', told', by omega, by go_num, rfl, HD5.out, HB5.out⟩
          case measure => simp [intOf]; omega
        · go_wp2_with fail
          go_ret
          exact ⟨rfl, HB.out⟩
end Go.Proofs.Ytccfjjaljckinaa.Tag
