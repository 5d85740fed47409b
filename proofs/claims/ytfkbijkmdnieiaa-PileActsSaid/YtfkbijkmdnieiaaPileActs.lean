/- The law on whatever is done to a pile answers true, at any limit and any acts. No conditions. -/
import Derived.Test.YtfkbijkmdnieiaaPileRef
import Derived.Test.YtfkbijkmdnieiaaPPileActsx1
namespace Go.Proofs.Ytfkbijkmdnieiaa.PileActs
open Go.RowKit Go.Proofs.Ytfkbijkmdnieiaa.Mem Go.Proofs.Ytfkbijkmdnieiaa.Ring Go.Proofs.Ytfkbijkmdnieiaa.PileInt Go.Proofs.Ytfkbijkmdnieiaa.PileRef Go.Proofs.YtfkbijkmdnieiaaW.PrintWords
open Go.Proofs.Ytfkbijkmdnieiaa.PPileActs

theorem same_ints (l : List Int) (hl : l.length ≤ 1000000) : ∃ K, whilomref01_Ints.f K l l = some true := by
  have up : ∀ i : Nat, i ≤ 1000000 → wrap64 ((i : Int) + 1) = ((i + 1 : Nat) : Int) := fun i h => by unfold wrap64; omega
  have go : ∀ (d i : Nat), i + d = l.length → whilomref01_Ints.l0 (d + 1) l l (i : Int) = some true := by
    intro d
    induction d with
    | zero =>
      intro i hi
      simp only [whilomref01_Ints.l0]
      rw [if_neg (by omega)]
    | succ d ih =>
      intro i hi
      rw [whilomref01_Ints.l0, if_pos (by omega), if_pos (by omega), if_pos (by omega), if_pos rfl, up i (by omega)]
      exact ih (i + 1) (by omega)
  refine ⟨l.length + 1, ?_⟩
  unfold whilomref01_Ints.f
  rw [if_pos rfl]
  exact go l.length 0 (by omega)

theorem rest_four (a : Int) : ∃ r : Int, (r = 0 ∨ r = 1 ∨ r = 2 ∨ r = 3) ∧ whilomref01_Rest.f a 4 = some r := by
  have h1 := Int.tmod_lt_of_pos a (show (0 : Int) < 4 by decide)
  have h2 : -4 < Int.tmod a 4 := by
    have := Int.lt_tmod_of_pos a (show (0 : Int) < 4 by decide)
    omega
  have h3 : wrap64 (Int.tmod a 4 + 4) = Int.tmod a 4 + 4 := by unfold wrap64; omega
  have h4 : Int.tmod (Int.tmod a 4 + 4) 4 = (Int.tmod a 4 + 4) % 4 := Int.tmod_eq_emod_of_nonneg (by omega)
  refine ⟨(Int.tmod a 4 + 4) % 4, by omega, ?_⟩
  unfold whilomref01_Rest.f
  rw [if_neg (by decide), h3, h4]

theorem limit_is (l : Int) : whilomref04_Limit.f l = some ((limit l : Nat) : Int) := by
  unfold whilomref04_Limit.f limit
  by_cases h1 : l < 0
  · rw [if_pos h1, if_pos h1]; rfl
  · rw [if_neg h1, if_neg h1]
    by_cases h2 : 10000 < l
    · rw [if_pos h2, if_pos h2]; rfl
    · rw [if_neg h2, if_neg h2]; congr 1; omega

theorem limit_le (l : Int) : limit l ≤ 10000 := by unfold limit; split; omega; split <;> omega

abbrev two : Kd (Int × Int) := Kd.pair (Kd.int .i64) (Kd.int .i64)

theorem act_cells {w : World} {A : Option Addr} {xs : List (Int × Int)} (h : two.C w A xs.length xs) {i : Nat} (hi : i < xs.length) :
    ∃ ad, A = some ad ∧ w.cell? (ad.add (i * 2)) = some (.int .i64 xs[i].1) ∧ w.cell? ⟨(ad.add (i * 2)).block, (ad.add (i * 2)).off + 1, none⟩ = some (.int .i64 xs[i].2) := by
  obtain ⟨ad, c, e, hl, hK, hc⟩ := Kd.C_get h (0, 0) i (by omega) (by omega)
  rw [Int.toNat_natCast] at hK hc
  have hx : xs.getD i (0, 0) = xs[i] := by simp [List.getD, hi]
  rw [hx] at hK
  obtain ⟨c1, c2, rfl, h1, h2⟩ := hK
  have h1' : c1 = [.int .i64 xs[i].1] := h1
  have h2' : c2 = [.int .i64 xs[i].2] := h2
  subst h1'; subst h2'
  refine ⟨ad, e, hc 0 _ rfl, ?_⟩
  have := hc 1 _ rfl
  rw [← Go.Proofs.YtfkbijkmdnieiaaW.PrintWords.add_add] at this
  exact this

theorem act_fst {w : World} {ad : Addr} {xs : List (Int × Int)} (h : two.C w (some ad) xs.length xs) {i : Nat} (hi : i < xs.length) : w.cell? (ad.add (i * 2)) = some (.int .i64 xs[i].1) := by
  obtain ⟨ad', he, h1, _⟩ := act_cells h hi
  cases he; exact h1

theorem lower {w : World} {lo lo' : Nat} {A : Option Addr} {xs : List Int} (h : Seg w lo' A xs) (hl : lo ≤ lo') : Seg w lo A xs := by
  refine ⟨h.1, fun hp => ?_⟩
  obtain ⟨g, o, rfl, hg, hc⟩ := h.2 hp
  exact ⟨g, o, rfl, Nat.le_trans hl hg, hc⟩

theorem push_none {B R L f : Nat} {vs ns : List Int} {v : Int} {w : World} (h : P w B R L f vs) (hq : pushed L vs v = (ns, none)) :
    Calls Try.prog 34 #[.pointer (some ⟨B, 0, none⟩), .int .i64 v] w fun e w' => e = .returned (.tuple #[.int .i64 0, .bool false]) ∧ (∃ f', P w' B R L f' ns) ∧ Chg (fun k => k = B ∨ k = R) w w' := by
  have := PileInt.push B R L f vs v w h
  rw [hq] at this; exact this
theorem push_some {B R L f : Nat} {vs ns : List Int} {v g : Int} {w : World} (h : P w B R L f vs) (hq : pushed L vs v = (ns, some g)) :
    Calls Try.prog 34 #[.pointer (some ⟨B, 0, none⟩), .int .i64 v] w fun e w' => e = .returned (.tuple #[.int .i64 g, .bool true]) ∧ (∃ f', P w' B R L f' ns) ∧ Chg (fun k => k = B ∨ k = R) w w' := by
  have := PileInt.push B R L f vs v w h
  rw [hq] at this; exact this

theorem ref_none {L c lo : Nat} {v : Int} {A : Option Addr} {vs ns : List Int} {w : World} (hs : Seg w lo A vs) (hle : vs.length ≤ L) (hL : L ≤ 10000) (hlo : lo ≤ w.heap.size) (hq : pushed L vs v = (ns, none)) :
    Calls Try.prog 52 #[.slice A vs.length c, .int .i64 L, .int .i64 v] w fun e w' => ∃ A1 c1 A2 c2, e = .returned (.tuple #[.slice A1 ns.length c1, .slice A2 0 c2]) ∧ ns.length ≤ c1 ∧ Seg w' lo A1 ns ∧ Below w.heap.size w w' := by
  have := PileRef.push L v A c vs w lo hs hle hL
  refine this.mono fun e w' ht => ?_
  unfold PileRef.Told at ht
  rw [hq] at ht
  obtain ⟨A1, c1, A2, c2, he, h1, _, h3, _, h5⟩ := ht
  exact ⟨A1, c1, A2, c2, he, h1, lower h3 hlo, h5⟩
theorem ref_some {L c lo : Nat} {v g : Int} {A : Option Addr} {vs ns : List Int} {w : World} (hs : Seg w lo A vs) (hle : vs.length ≤ L) (hL : L ≤ 10000) (hlo : lo ≤ w.heap.size) (hq : pushed L vs v = (ns, some g)) :
    Calls Try.prog 52 #[.slice A vs.length c, .int .i64 L, .int .i64 v] w fun e w' => ∃ A1 c1 b o c2, e = .returned (.tuple #[.slice A1 ns.length c1, .slice (some ⟨b, o, none⟩) 1 c2]) ∧ ns.length ≤ c1 ∧ Seg w' lo A1 ns ∧ w'.cell? ⟨b, o, none⟩ = some (.int .i64 g) ∧ Below w.heap.size w w' := by
  have := PileRef.push L v A c vs w lo hs hle hL
  refine this.mono fun e w' ht => ?_
  unfold PileRef.Told at ht
  rw [hq] at ht
  obtain ⟨A1, c1, A2, c2, he, h1, _, h3, h4, h5⟩ := ht
  obtain ⟨b, o, rfl, _, hc⟩ := h4.2 (by simp)
  exact ⟨A1, c1, b, o, c2, he, h1, lower h3 hlo, hc 0 g rfl, h5⟩

set_option maxRecDepth 100000 in
set_option maxHeartbeats 2000000 in
theorem walk_long (l : Int) (A : Option Addr) (len cap : Nat) (w : World) (hbig : 80 < len) :
    Calls Try.prog 13 #[.int .i64 l, .slice A len cap] w fun e w' => e = .returned (.bool true) ∧ Below w.heap.size w w' := by
  go_enter Try.func13, Try.ntmps13
  go_wp2_with fail
  refine (awake _).mono ?_
  rintro e w1 ⟨rfl, hb1⟩
  have HB1 := Lib.hid hb1; clear hb1
  go_wp2_with fail
  refine (awake _).mono ?_
  rintro e w2 ⟨rfl, hb2⟩
  have HB2 := Lib.hid hb2; clear hb2
  go_wp2_with fail
  go_ret
  exact ⟨rfl, HB1.out.trans (HB2.out.mono HB1.out.size)⟩

set_option maxRecDepth 100000 in
set_option maxHeartbeats 40000000 in
theorem walk_short (l : Int) (A : Option Addr) (cap : Nat) (xs : List (Int × Int)) (w : World) (hr : two.C w A xs.length xs) (hl : xs.length ≤ 80) :
    Calls Try.prog 13 #[.int .i64 l, .slice A xs.length cap] w fun e w' => e = .returned (.bool true) ∧ Below w.heap.size w w' := by
  have HC := Lib.hid hr; clear hr
  go_enter Try.func13, Try.ntmps13
  go_wp2_with fail
  refine (awake _).mono ?_
  rintro e w1 ⟨rfl, hb1⟩
  have HB1 := Lib.hid hb1; clear hb1
  go_wp2_with fail
  refine (new l _).mono ?_
  rintro e w2 ⟨B, R, rfl, hp, hc, hB, hR⟩
  have HBp : Hid (Below w.heap.size w w2) := hc.onto HB1.out (Nat.le_refl _) (by simp)
  have hs1 := HB1.out.size
  have HP2 := Lib.hid hp
  have HN : Hid (∀ k, k < w.heap.size → ¬ (k = B ∨ k = R)) := by intro k hk; omega
  obtain ⟨lo, hlo⟩ : ∃ lo, w2.heap.size = lo := ⟨_, rfl⟩
  have hBlo := hp.ltB
  have hRlo := hp.ltR
  rw [hlo] at hBlo hRlo
  have hwlo : w.heap.size ≤ lo := by rw [← hlo]; exact HBp.out.size
  have HLO : Hid (lo ≤ w2.heap.size) := by rw [hlo]; exact Nat.le_refl _
  clear hp hc hs1 hB hR hlo
  go_wp2_with fail
  refine (whilomref04_Limit.calls l _ _ (limit_is l)).mono ?_
  rintro e w3 ⟨rfl, hd⟩
  have hb := hd.below
  have HP3 : Hid (P w3 B R (limit l) 0 []) := HP2.out.keep (Chg.of_below (S := fun _ => False) hb) (by simp) (by simp)
  have HB3 : Hid (Below w.heap.size w w3) := HBp.out.trans (hb.mono HBp.out.size)
  have HL3 : Hid (lo ≤ w3.heap.size) := Nat.le_trans HLO.out hb.size
  clear hb hd HP2 HBp HLO
  have hLe := limit_le l
  generalize limit l = L at *
  go_wp2_with fail
  go_loopw [7, 8] (fun s k wr => ∃ (i f : Nat) (vs : List Int) (A' : Option Addr) (c' : Nat), i ≤ xs.length ∧ k = .int .i64 i ∧ s = .slice A' vs.length c' ∧ vs.length ≤ c' ∧ P wr B R L f vs ∧ Seg wr lo A' vs ∧ lo ≤ wr.heap.size ∧ Below w.heap.size w wr) (fun _ k _ => xs.length - (intOf k).toNat)
  case atStart => exact ⟨0, 0, [], none, 0, by omega, rfl, rfl, by simp, HP3.out, Seg.nil _ _ _, HL3.out, HB3.out⟩
  case round =>
    clear HP3 HB3 HL3
    obtain ⟨i, f, vs, A', c', hi, rfl, rfl, hvc, hp, hs, hsz, hb⟩ := hrel
    have HP := Lib.hid hp; have HS := Lib.hid hs; have HB := Lib.hid hb
    have hvl := hp.le
    clear hp hs hb
    by_cases hlt : i < xs.length
    · obtain ⟨ad, rfl, hx1, hx2⟩ := act_cells (Kd.C_below HC.out HB.out) hlt
      obtain ⟨r, hr, hrest⟩ := rest_four xs[i].1
      have HR := Lib.hid hrest; clear hrest
      go_wp2_with fail
      refine (whilomref01_Rest.calls xs[i].1 4 r _ HR.out).mono ?_
      rintro e w4 ⟨rfl, hd⟩
      have hb := hd.below
      have HP4 : Hid (P w4 B R L f vs) := HP.out.keep (Chg.of_below (S := fun _ => False) hb) (by simp) (by simp)
      have HS4 : Hid (Seg w4 lo A' vs) := HS.out.below hb
      have HB4 : Hid (Below w.heap.size w w4) := HB.out.trans (hb.mono HB.out.size)
      have hsz4 : lo ≤ w4.heap.size := Nat.le_trans hsz hb.size
      have hy1 := act_fst (Kd.C_below HC.out HB4.out) hlt
      clear hb hd HP HS HB hx1 hx2
      rcases hr with rfl | rfl | rfl | rfl
      · rcases hq : pushed L vs xs[i].2 with ⟨ns, _ | g⟩
        · have HQ := Lib.hid hq; clear hq
          go_wp2_with fail
          refine (push_none HP4.out HQ.out).mono ?_
          rintro e w5 ⟨rfl, ⟨f', hp⟩, hc⟩
          have HP5 := Lib.hid hp
          have HS5 : Hid (Seg w5 lo A' vs) := HS4.out.chg hc (by intro k hk; omega)
          have HB5 : Hid (Below w.heap.size w w5) := hc.onto HB4.out (Nat.le_refl _) HN.out
          have hsz5 : lo ≤ w5.heap.size := Nat.le_trans hsz4 hc.size
          clear hp hc HP4 HS4 HB4 hsz4 hy1
          go_wp2_with fail
          refine (ref_none HS5.out hvl hLe hsz5 HQ.out).mono ?_
          rintro e w6 ⟨A1, c1, A2, c2, rfl, hc1, hs1, hb⟩
          have HPn : Hid (P w6 B R L f' ns) := HP5.out.keep (Chg.of_below (S := fun _ => False) hb) (by simp) (by simp)
          have HSn := Lib.hid hs1
          have HBn : Hid (Below w.heap.size w w6) := HB5.out.trans (hb.mono HB5.out.size)
          have HZn : Hid (lo ≤ w6.heap.size) := Nat.le_trans hsz5 hb.size
          clear hs1 hb HP5 HS5 HB5 hsz5
          have hnl := HPn.out.le
          go_wp2_with fail
          refine (PileInt.len B R L _ ns _ HPn.out).mono ?_
          rintro e w8 ⟨rfl, rfl⟩
          go_wp2_with fail
          refine (list B R L _ _ _ HPn.out).mono ?_
          rintro e w9 ⟨v9, rfl, hown, hb⟩
          have HP9 : Hid (P _ B R L _ ns) := HPn.out.keep (Chg.of_below (S := fun _ => False) hb) (by simp) (by simp)
          have HS9 : Hid (Seg w9 lo A1 ns) := HSn.out.below hb
          have HB9 : Hid (Below w.heap.size w w9) := HBn.out.trans (hb.mono HBn.out.size)
          have HZ9 : Hid (lo ≤ w9.heap.size) := Nat.le_trans HZn.out hb.size
          obtain ⟨A4, c4, rfl, hcl4, hC4⟩ := Kd.R_reads hown
          have HC4 := Lib.hid hC4
          have HC5 := Lib.hid HS9.out.toC
          obtain ⟨K1, hK1⟩ := same_ints ns (by omega)
          have HK1 := Lib.hid hK1
          clear hown hb hC4 hK1 HPn HSn HBn HZn
          go_wp2_with fail
          refine (whilomref01_Ints.calls K1 A4 c4 ns A1 c1 ns true _ HC4.out hcl4 HC5.out hc1 HK1.out).mono ?_
          rintro e w10 ⟨rfl, hd⟩
          have hb := hd.below
          have HP10 : Hid (P w10 B R L _ ns) := HP9.out.keep (Chg.of_below (S := fun _ => False) hb) (by simp) (by simp)
          have HS10 : Hid (Seg w10 lo A1 ns) := HS9.out.below hb
          have HB10 : Hid (Below w.heap.size w w10) := HB9.out.trans (hb.mono HB9.out.size)
          have HZ10 : Hid (lo ≤ w10.heap.size) := Nat.le_trans HZ9.out hb.size
          clear hd hb HC4 HC5 HK1 HP9 HS9 HB9 HZ9
          go_wp2
          go_roundw
          case rel => exact ⟨i + 1, _, ns, A1, c1, by omega, by go_num, rfl, hc1, HP10.out, HS10.out, HZ10.out, HB10.out⟩
          case measure => simp [intOf]; omega
        · have HQ := Lib.hid hq; clear hq
          go_wp2_with fail
          refine (push_some HP4.out HQ.out).mono ?_
          rintro e w5 ⟨rfl, ⟨f', hp⟩, hc⟩
          have HP5 := Lib.hid hp
          have HS5 : Hid (Seg w5 lo A' vs) := HS4.out.chg hc (by intro k hk; omega)
          have HB5 : Hid (Below w.heap.size w w5) := hc.onto HB4.out (Nat.le_refl _) HN.out
          have hsz5 : lo ≤ w5.heap.size := Nat.le_trans hsz4 hc.size
          clear hp hc HP4 HS4 HB4 hsz4 hy1
          go_wp2_with fail
          refine (ref_some HS5.out hvl hLe hsz5 HQ.out).mono ?_
          rintro e w6 ⟨A1, c1, b2, o2, c2, rfl, hc1, hs1, hcell, hb⟩
          have HPn : Hid (P w6 B R L f' ns) := HP5.out.keep (Chg.of_below (S := fun _ => False) hb) (by simp) (by simp)
          have HSn := Lib.hid hs1
          have HBn : Hid (Below w.heap.size w w6) := HB5.out.trans (hb.mono HB5.out.size)
          have HZn : Hid (lo ≤ w6.heap.size) := Nat.le_trans hsz5 hb.size
          clear hs1 hb HP5 HS5 HB5 hsz5
          have hnl := HPn.out.le
          go_wp2_with fail
          refine (PileInt.len B R L _ ns _ HPn.out).mono ?_
          rintro e w8 ⟨rfl, rfl⟩
          go_wp2_with fail
          refine (list B R L _ _ _ HPn.out).mono ?_
          rintro e w9 ⟨v9, rfl, hown, hb⟩
          have HP9 : Hid (P _ B R L _ ns) := HPn.out.keep (Chg.of_below (S := fun _ => False) hb) (by simp) (by simp)
          have HS9 : Hid (Seg w9 lo A1 ns) := HSn.out.below hb
          have HB9 : Hid (Below w.heap.size w w9) := HBn.out.trans (hb.mono HBn.out.size)
          have HZ9 : Hid (lo ≤ w9.heap.size) := Nat.le_trans HZn.out hb.size
          obtain ⟨A4, c4, rfl, hcl4, hC4⟩ := Kd.R_reads hown
          have HC4 := Lib.hid hC4
          have HC5 := Lib.hid HS9.out.toC
          obtain ⟨K1, hK1⟩ := same_ints ns (by omega)
          have HK1 := Lib.hid hK1
          clear hown hb hC4 hK1 HPn HSn HBn HZn
          go_wp2_with fail
          refine (whilomref01_Ints.calls K1 A4 c4 ns A1 c1 ns true _ HC4.out hcl4 HC5.out hc1 HK1.out).mono ?_
          rintro e w10 ⟨rfl, hd⟩
          have hb := hd.below
          have HP10 : Hid (P w10 B R L _ ns) := HP9.out.keep (Chg.of_below (S := fun _ => False) hb) (by simp) (by simp)
          have HS10 : Hid (Seg w10 lo A1 ns) := HS9.out.below hb
          have HB10 : Hid (Below w.heap.size w w10) := HB9.out.trans (hb.mono HB9.out.size)
          have HZ10 : Hid (lo ≤ w10.heap.size) := Nat.le_trans HZ9.out hb.size
          clear hd hb HC4 HC5 HK1 HP9 HS9 HB9 HZ9
          go_wp2
          go_roundw
          case rel => exact ⟨i + 1, _, ns, A1, c1, by omega, by go_num, rfl, hc1, HP10.out, HS10.out, HZ10.out, HB10.out⟩
          case measure => simp [intOf]; omega
      · by_cases h0 : vs.length = 0
        · obtain rfl : vs = [] := List.eq_nil_of_length_eq_zero h0
          clear h0
          go_wp2_with fail
          refine (top_none B R L f _ HP4.out).mono ?_
          rintro e w5 ⟨rfl, m5, rfl⟩
          have HP5 : Hid (P (w4.drewN m5) B R L f []) := HP4.out.drewN m5
          have HS5 : Hid (Seg (w4.drewN m5) lo A' []) := HS4.out.chg ((Chg.refl (fun _ => False) w4).drewN m5) (by simp)
          have HB5 : Hid (Below w.heap.size w (w4.drewN m5)) := ((Chg.refl (fun _ => False) w4).drewN m5).onto HB4.out (Nat.le_refl _) (by simp)
          have hsz5 : lo ≤ (w4.drewN m5).heap.size := hsz4
          have hy2 := act_fst (Kd.C_below HC.out HB5.out) hlt
          clear HP4 HS4 HB4 hsz4 hy1
          generalize w4.drewN m5 = w5 at *
          go_wp2_with fail
          refine (whilomref01_Rest.calls xs[i].1 4 1 _ HR.out).mono ?_
          rintro e w6 ⟨rfl, hd⟩
          have hb := hd.below
          have HP6 : Hid (P w6 B R L f []) := HP5.out.keep (Chg.of_below (S := fun _ => False) hb) (by simp) (by simp)
          have HS6 : Hid (Seg w6 lo A' []) := HS5.out.below hb
          have HB6 : Hid (Below w.heap.size w w6) := HB5.out.trans (hb.mono HB5.out.size)
          have hsz6 : lo ≤ w6.heap.size := Nat.le_trans hsz5 hb.size
          have hy3 := act_fst (Kd.C_below HC.out HB6.out) hlt
          clear hd hb HP5 HS5 HB5 hsz5 hy2
          go_wp2_with fail
          refine (pop_none B R L f _ HP6.out).mono ?_
          rintro e w7 ⟨rfl, hp, hc⟩
          have HP7 : Hid (P w7 B R L f []) := by exact hp
          have HS7 : Hid (Seg w7 lo A' []) := HS6.out.chg hc (by intro k hk; omega)
          have HB7 : Hid (Below w.heap.size w w7) := hc.onto HB6.out (Nat.le_refl _) HN.out
          have hsz7 : lo ≤ w7.heap.size := Nat.le_trans hsz6 hc.size
          have hy4 := act_fst (Kd.C_below HC.out HB7.out) hlt
          clear hp hc HP6 HS6 HB6 hsz6 hy3
          have HPn := HP7
          have HSn := HS7
          have HBn := HB7
          have HZn := Lib.hid hsz7
          clear HP7 HS7 HB7 hsz7
          have hnl := HPn.out.le
          go_wp2_with fail
          refine (PileInt.len B R L _ [] _ HPn.out).mono ?_
          rintro e w8 ⟨rfl, rfl⟩
          go_wp2_with fail
          refine (list B R L _ _ _ HPn.out).mono ?_
          rintro e w9 ⟨v9, rfl, hown, hb⟩
          have HP9 : Hid (P _ B R L _ []) := HPn.out.keep (Chg.of_below (S := fun _ => False) hb) (by simp) (by simp)
          have HS9 : Hid (Seg w9 lo A' []) := HSn.out.below hb
          have HB9 : Hid (Below w.heap.size w w9) := HBn.out.trans (hb.mono HBn.out.size)
          have HZ9 : Hid (lo ≤ w9.heap.size) := Nat.le_trans HZn.out hb.size
          obtain ⟨A4, c4, rfl, hcl4, hC4⟩ := Kd.R_reads hown
          have HC4 := Lib.hid hC4
          have HC5 := Lib.hid HS9.out.toC
          obtain ⟨K1, hK1⟩ := same_ints [] (Nat.le_trans hnl (by omega))
          have HK1 := Lib.hid hK1
          clear hown hb hC4 hK1 HPn HSn HBn HZn
          go_wp2_with fail
          refine (whilomref01_Ints.calls K1 A4 c4 [] A' c' [] true _ HC4.out hcl4 HC5.out (Nat.zero_le _) HK1.out).mono ?_
          rintro e w10 ⟨rfl, hd⟩
          have hb := hd.below
          have HP10 : Hid (P w10 B R L _ []) := HP9.out.keep (Chg.of_below (S := fun _ => False) hb) (by simp) (by simp)
          have HS10 : Hid (Seg w10 lo A' []) := HS9.out.below hb
          have HB10 : Hid (Below w.heap.size w w10) := HB9.out.trans (hb.mono HB9.out.size)
          have HZ10 : Hid (lo ≤ w10.heap.size) := Nat.le_trans HZ9.out hb.size
          clear hd hb HC4 HC5 HK1 HP9 HS9 HB9 HZ9
          go_wp2
          go_roundw
          case rel => exact ⟨i + 1, _, [], A', c', by omega, by go_num, (by first | rfl | simp), (Nat.zero_le _), HP10.out, HS10.out, HZ10.out, HB10.out⟩
          case measure => simp [intOf]; omega
        · obtain ⟨ns, u, rfl⟩ : ∃ ns u, vs = ns ++ [u] := ⟨vs.dropLast, vs.getLast (by rintro rfl; simp at h0), (List.dropLast_concat_getLast (by rintro rfl; simp at h0)).symm⟩
          have hu : (ns ++ [u]).getLast? = some u := by simp
          have HU := Lib.hid hu; clear hu h0
          have hlen : (ns ++ [u]).length = ns.length + 1 := by simp
          rw [hlen] at hvl hvc
          rw [hlen]
          have HLEN := Lib.hid hlen; clear hlen
          go_wp2_with fail
          refine (top_some B R L f (ns ++ [u]) u _ HP4.out HU.out).mono ?_
          rintro e w5 ⟨rfl, m5, rfl⟩
          have HP5 : Hid (P (w4.drewN m5) B R L f (ns ++ [u])) := HP4.out.drewN m5
          have HS5 : Hid (Seg (w4.drewN m5) lo A' (ns ++ [u])) := HS4.out.chg ((Chg.refl (fun _ => False) w4).drewN m5) (by simp)
          have HB5 : Hid (Below w.heap.size w (w4.drewN m5)) := ((Chg.refl (fun _ => False) w4).drewN m5).onto HB4.out (Nat.le_refl _) (by simp)
          have hsz5 : lo ≤ (w4.drewN m5).heap.size := hsz4
          have hy2 := act_fst (Kd.C_below HC.out HB5.out) hlt
          clear HP4 HS4 HB4 hsz4 hy1
          generalize w4.drewN m5 = w5 at *
          go_wp2_with fail
          refine (whilomref01_Rest.calls xs[i].1 4 1 _ HR.out).mono ?_
          rintro e w6 ⟨rfl, hd⟩
          have hb := hd.below
          have HP6 : Hid (P w6 B R L f (ns ++ [u])) := HP5.out.keep (Chg.of_below (S := fun _ => False) hb) (by simp) (by simp)
          have HS6 : Hid (Seg w6 lo A' (ns ++ [u])) := HS5.out.below hb
          have HB6 : Hid (Below w.heap.size w w6) := HB5.out.trans (hb.mono HB5.out.size)
          have hsz6 : lo ≤ w6.heap.size := Nat.le_trans hsz5 hb.size
          have hy3 := act_fst (Kd.C_below HC.out HB6.out) hlt
          clear hd hb HP5 HS5 HB5 hsz5 hy2
          go_wp2_with fail
          refine (pop_some B R L f (ns ++ [u]) u _ HP6.out HU.out).mono ?_
          rintro e w7 ⟨rfl, hp, hc⟩
          have HP7 : Hid (P w7 B R L f ns) := by rw [List.dropLast_concat] at hp; exact hp
          have HS7 : Hid (Seg w7 lo A' (ns ++ [u])) := HS6.out.chg hc (by intro k hk; omega)
          have HB7 : Hid (Below w.heap.size w w7) := hc.onto HB6.out (Nat.le_refl _) HN.out
          have hsz7 : lo ≤ w7.heap.size := Nat.le_trans hsz6 hc.size
          have hy4 := act_fst (Kd.C_below HC.out HB7.out) hlt
          clear hp hc HP6 HS6 HB6 hsz6 hy3
          obtain ⟨g, o, rfl, _, hcl⟩ := HS7.out.2 (by simp)
          have hlast : w7.cell? ⟨g, o + ns.length, none⟩ = some (.int .i64 u) := hcl ns.length u (by simp)
          clear hcl
          go_wp2_with fail
          refine (whilomref01_Rest.calls xs[i].1 4 1 _ HR.out).mono ?_
          rintro e w71 ⟨rfl, hd⟩
          have hb := hd.below
          have HPn : Hid (P w71 B R L f ns) := HP7.out.keep (Chg.of_below (S := fun _ => False) hb) (by simp) (by simp)
          have HSn : Hid (Seg w71 lo (some ⟨g, o, none⟩) ns) := by
            have := HS7.out.below hb
            have := Seg.take this ns.length; rwa [List.take_left] at this
          have HBn : Hid (Below w.heap.size w w71) := HB7.out.trans (hb.mono HB7.out.size)
          have HZn : Hid (lo ≤ w71.heap.size) := Nat.le_trans hsz7 hb.size
          clear hd hb HP7 HS7 HB7 hsz7 hlast
          have hnl := HPn.out.le
          go_wp2_with fail
          refine (PileInt.len B R L _ ns _ HPn.out).mono ?_
          rintro e w8 ⟨rfl, rfl⟩
          go_wp2_with fail
          refine (list B R L _ _ _ HPn.out).mono ?_
          rintro e w9 ⟨v9, rfl, hown, hb⟩
          have HP9 : Hid (P _ B R L _ ns) := HPn.out.keep (Chg.of_below (S := fun _ => False) hb) (by simp) (by simp)
          have HS9 : Hid (Seg w9 lo (some ⟨g, o, none⟩) ns) := HSn.out.below hb
          have HB9 : Hid (Below w.heap.size w w9) := HBn.out.trans (hb.mono HBn.out.size)
          have HZ9 : Hid (lo ≤ w9.heap.size) := Nat.le_trans HZn.out hb.size
          obtain ⟨A4, c4, rfl, hcl4, hC4⟩ := Kd.R_reads hown
          have HC4 := Lib.hid hC4
          have HC5 := Lib.hid HS9.out.toC
          obtain ⟨K1, hK1⟩ := same_ints ns (Nat.le_trans hnl (by omega))
          have HK1 := Lib.hid hK1
          clear hown hb hC4 hK1 HPn HSn HBn HZn
          go_wp2_with fail
          refine (whilomref01_Ints.calls K1 A4 c4 ns (some ⟨g, o, none⟩) c' ns true _ HC4.out hcl4 HC5.out (by omega) HK1.out).mono ?_
          rintro e w10 ⟨rfl, hd⟩
          have hb := hd.below
          have HP10 : Hid (P w10 B R L _ ns) := HP9.out.keep (Chg.of_below (S := fun _ => False) hb) (by simp) (by simp)
          have HS10 : Hid (Seg w10 lo (some ⟨g, o, none⟩) ns) := HS9.out.below hb
          have HB10 : Hid (Below w.heap.size w w10) := HB9.out.trans (hb.mono HB9.out.size)
          have HZ10 : Hid (lo ≤ w10.heap.size) := Nat.le_trans HZ9.out hb.size
          clear hd hb HC4 HC5 HK1 HP9 HS9 HB9 HZ9
          go_wp2
          go_roundw
          case rel => exact ⟨i + 1, _, ns, (some ⟨g, o, none⟩), c', by omega, by go_num, (by first | rfl | simp), (by omega), HP10.out, HS10.out, HZ10.out, HB10.out⟩
          case measure => simp [intOf]; omega
      · by_cases h0 : vs.length = 0
        · obtain rfl : vs = [] := List.eq_nil_of_length_eq_zero h0
          clear h0
          go_wp2_with fail
          refine (top_none B R L f _ HP4.out).mono ?_
          rintro e w5 ⟨rfl, m5, rfl⟩
          have HP5 : Hid (P (w4.drewN m5) B R L f []) := HP4.out.drewN m5
          have HS5 : Hid (Seg (w4.drewN m5) lo A' []) := HS4.out.chg ((Chg.refl (fun _ => False) w4).drewN m5) (by simp)
          have HB5 : Hid (Below w.heap.size w (w4.drewN m5)) := ((Chg.refl (fun _ => False) w4).drewN m5).onto HB4.out (Nat.le_refl _) (by simp)
          have hsz5 : lo ≤ (w4.drewN m5).heap.size := hsz4
          have hy2 := act_fst (Kd.C_below HC.out HB5.out) hlt
          clear HP4 HS4 HB4 hsz4 hy1
          generalize w4.drewN m5 = w5 at *
          go_wp2_with fail
          refine (whilomref01_Rest.calls xs[i].1 4 2 _ HR.out).mono ?_
          rintro e w6 ⟨rfl, hd⟩
          have hb := hd.below
          have HP6 : Hid (P w6 B R L f []) := HP5.out.keep (Chg.of_below (S := fun _ => False) hb) (by simp) (by simp)
          have HS6 : Hid (Seg w6 lo A' []) := HS5.out.below hb
          have HB6 : Hid (Below w.heap.size w w6) := HB5.out.trans (hb.mono HB5.out.size)
          have hsz6 : lo ≤ w6.heap.size := Nat.le_trans hsz5 hb.size
          have hy3 := act_fst (Kd.C_below HC.out HB6.out) hlt
          clear hd hb HP5 HS5 HB5 hsz5 hy2
          have HP7 := HP6
          have HS7 := HS6
          have HB7 := HB6
          have hsz7 := hsz6
          have hy4 := hy3
          clear HP6 HS6 HB6 hsz6 hy3
          generalize w6 = w7 at *
          have HPn := HP7
          have HSn := HS7
          have HBn := HB7
          have HZn := Lib.hid hsz7
          clear HP7 HS7 HB7 hsz7
          have hnl := HPn.out.le
          go_wp2_with fail
          refine (PileInt.len B R L _ [] _ HPn.out).mono ?_
          rintro e w8 ⟨rfl, rfl⟩
          go_wp2_with fail
          refine (list B R L _ _ _ HPn.out).mono ?_
          rintro e w9 ⟨v9, rfl, hown, hb⟩
          have HP9 : Hid (P _ B R L _ []) := HPn.out.keep (Chg.of_below (S := fun _ => False) hb) (by simp) (by simp)
          have HS9 : Hid (Seg w9 lo A' []) := HSn.out.below hb
          have HB9 : Hid (Below w.heap.size w w9) := HBn.out.trans (hb.mono HBn.out.size)
          have HZ9 : Hid (lo ≤ w9.heap.size) := Nat.le_trans HZn.out hb.size
          obtain ⟨A4, c4, rfl, hcl4, hC4⟩ := Kd.R_reads hown
          have HC4 := Lib.hid hC4
          have HC5 := Lib.hid HS9.out.toC
          obtain ⟨K1, hK1⟩ := same_ints [] (Nat.le_trans hnl (by omega))
          have HK1 := Lib.hid hK1
          clear hown hb hC4 hK1 HPn HSn HBn HZn
          go_wp2_with fail
          refine (whilomref01_Ints.calls K1 A4 c4 [] A' c' [] true _ HC4.out hcl4 HC5.out (Nat.zero_le _) HK1.out).mono ?_
          rintro e w10 ⟨rfl, hd⟩
          have hb := hd.below
          have HP10 : Hid (P w10 B R L _ []) := HP9.out.keep (Chg.of_below (S := fun _ => False) hb) (by simp) (by simp)
          have HS10 : Hid (Seg w10 lo A' []) := HS9.out.below hb
          have HB10 : Hid (Below w.heap.size w w10) := HB9.out.trans (hb.mono HB9.out.size)
          have HZ10 : Hid (lo ≤ w10.heap.size) := Nat.le_trans HZ9.out hb.size
          clear hd hb HC4 HC5 HK1 HP9 HS9 HB9 HZ9
          go_wp2
          go_roundw
          case rel => exact ⟨i + 1, _, [], A', c', by omega, by go_num, (by first | rfl | simp), (Nat.zero_le _), HP10.out, HS10.out, HZ10.out, HB10.out⟩
          case measure => simp [intOf]; omega
        · obtain ⟨ns, u, rfl⟩ : ∃ ns u, vs = ns ++ [u] := ⟨vs.dropLast, vs.getLast (by rintro rfl; simp at h0), (List.dropLast_concat_getLast (by rintro rfl; simp at h0)).symm⟩
          have hu : (ns ++ [u]).getLast? = some u := by simp
          have HU := Lib.hid hu; clear hu h0
          have hlen : (ns ++ [u]).length = ns.length + 1 := by simp
          rw [hlen] at hvl hvc
          rw [hlen]
          have HLEN := Lib.hid hlen; clear hlen
          go_wp2_with fail
          refine (top_some B R L f (ns ++ [u]) u _ HP4.out HU.out).mono ?_
          rintro e w5 ⟨rfl, m5, rfl⟩
          have HP5 : Hid (P (w4.drewN m5) B R L f (ns ++ [u])) := HP4.out.drewN m5
          have HS5 : Hid (Seg (w4.drewN m5) lo A' (ns ++ [u])) := HS4.out.chg ((Chg.refl (fun _ => False) w4).drewN m5) (by simp)
          have HB5 : Hid (Below w.heap.size w (w4.drewN m5)) := ((Chg.refl (fun _ => False) w4).drewN m5).onto HB4.out (Nat.le_refl _) (by simp)
          have hsz5 : lo ≤ (w4.drewN m5).heap.size := hsz4
          have hy2 := act_fst (Kd.C_below HC.out HB5.out) hlt
          clear HP4 HS4 HB4 hsz4 hy1
          generalize w4.drewN m5 = w5 at *
          go_wp2_with fail
          refine (whilomref01_Rest.calls xs[i].1 4 2 _ HR.out).mono ?_
          rintro e w6 ⟨rfl, hd⟩
          have hb := hd.below
          have HP6 : Hid (P w6 B R L f (ns ++ [u])) := HP5.out.keep (Chg.of_below (S := fun _ => False) hb) (by simp) (by simp)
          have HS6 : Hid (Seg w6 lo A' (ns ++ [u])) := HS5.out.below hb
          have HB6 : Hid (Below w.heap.size w w6) := HB5.out.trans (hb.mono HB5.out.size)
          have hsz6 : lo ≤ w6.heap.size := Nat.le_trans hsz5 hb.size
          have hy3 := act_fst (Kd.C_below HC.out HB6.out) hlt
          clear hd hb HP5 HS5 HB5 hsz5 hy2
          have HP7 := HP6
          have HS7 := HS6
          have HB7 := HB6
          have hsz7 := hsz6
          have hy4 := hy3
          clear HP6 HS6 HB6 hsz6 hy3
          generalize w6 = w7 at *
          obtain ⟨g, o, rfl, _, hcl⟩ := HS7.out.2 (by simp)
          have hlast : w7.cell? ⟨g, o + ns.length, none⟩ = some (.int .i64 u) := hcl ns.length u (by simp)
          clear hcl
          go_wp2_with fail
          refine (whilomref01_Rest.calls xs[i].1 4 2 _ HR.out).mono ?_
          rintro e w71 ⟨rfl, hd⟩
          have hb := hd.below
          have HPn : Hid (P w71 B R L f (ns ++ [u])) := HP7.out.keep (Chg.of_below (S := fun _ => False) hb) (by simp) (by simp)
          have HSn : Hid (Seg w71 lo (some ⟨g, o, none⟩) (ns ++ [u])) := by
            have := HS7.out.below hb
            exact this
          have HBn : Hid (Below w.heap.size w w71) := HB7.out.trans (hb.mono HB7.out.size)
          have HZn : Hid (lo ≤ w71.heap.size) := Nat.le_trans hsz7 hb.size
          clear hd hb HP7 HS7 HB7 hsz7 hlast
          have hnl := HPn.out.le
          go_wp2_with fail
          refine (PileInt.len B R L _ (ns ++ [u]) _ HPn.out).mono ?_
          rintro e w8 ⟨rfl, rfl⟩
          go_wp2_with fail
          refine (list B R L _ _ _ HPn.out).mono ?_
          rintro e w9 ⟨v9, rfl, hown, hb⟩
          have HP9 : Hid (P _ B R L _ (ns ++ [u])) := HPn.out.keep (Chg.of_below (S := fun _ => False) hb) (by simp) (by simp)
          have HS9 : Hid (Seg w9 lo (some ⟨g, o, none⟩) (ns ++ [u])) := HSn.out.below hb
          have HB9 : Hid (Below w.heap.size w w9) := HBn.out.trans (hb.mono HBn.out.size)
          have HZ9 : Hid (lo ≤ w9.heap.size) := Nat.le_trans HZn.out hb.size
          obtain ⟨A4, c4, rfl, hcl4, hC4⟩ := Kd.R_reads hown
          have HC4 := Lib.hid hC4
          have HC5 := Lib.hid HS9.out.toC
          obtain ⟨K1, hK1⟩ := same_ints (ns ++ [u]) (Nat.le_trans hnl (by omega))
          have HK1 := Lib.hid hK1
          clear hown hb hC4 hK1 HPn HSn HBn HZn
          go_wp2_with fail
          have hcall := whilomref01_Ints.calls K1 A4 c4 (ns ++ [u]) (some ⟨g, o, none⟩) c' (ns ++ [u]) true _ HC4.out hcl4 HC5.out (by rw [HLEN.out]; exact hvc) HK1.out
          rw [HLEN.out] at hcall
          refine hcall.mono ?_
          clear hcall
          rintro e w10 ⟨rfl, hd⟩
          have hb := hd.below
          have HP10 : Hid (P w10 B R L _ (ns ++ [u])) := HP9.out.keep (Chg.of_below (S := fun _ => False) hb) (by simp) (by simp)
          have HS10 : Hid (Seg w10 lo (some ⟨g, o, none⟩) (ns ++ [u])) := HS9.out.below hb
          have HB10 : Hid (Below w.heap.size w w10) := HB9.out.trans (hb.mono HB9.out.size)
          have HZ10 : Hid (lo ≤ w10.heap.size) := Nat.le_trans HZ9.out hb.size
          clear hd hb HC4 HC5 HK1 HP9 HS9 HB9 HZ9
          go_wp2
          go_roundw
          case rel => exact ⟨i + 1, _, (ns ++ [u]), (some ⟨g, o, none⟩), c', by omega, by go_num, (by first | rfl | simp), (by rw [HLEN.out]; exact hvc), HP10.out, HS10.out, HZ10.out, HB10.out⟩
          case measure => simp [intOf]; omega
      · go_wp2_with fail
        refine (clear_ B R L f vs _ HP4.out).mono ?_
        rintro e w5 ⟨rfl, hp, hc⟩
        have HPn := Lib.hid hp
        have HSn : Hid (Seg w5 lo none []) := Seg.nil _ _ _
        have HBn : Hid (Below w.heap.size w w5) := hc.onto HB4.out (Nat.le_refl _) HN.out
        have HZn : Hid (lo ≤ w5.heap.size) := Nat.le_trans hsz4 hc.size
        clear hp hc HP4 HS4 HB4 hsz4 hy1
        have hnl := HPn.out.le
        go_wp2_with fail
        refine (PileInt.len B R L _ [] _ HPn.out).mono ?_
        rintro e w8 ⟨rfl, rfl⟩
        go_wp2_with fail
        refine (list B R L _ _ _ HPn.out).mono ?_
        rintro e w9 ⟨v9, rfl, hown, hb⟩
        have HP9 : Hid (P _ B R L _ []) := HPn.out.keep (Chg.of_below (S := fun _ => False) hb) (by simp) (by simp)
        have HS9 : Hid (Seg w9 lo none []) := HSn.out.below hb
        have HB9 : Hid (Below w.heap.size w w9) := HBn.out.trans (hb.mono HBn.out.size)
        have HZ9 : Hid (lo ≤ w9.heap.size) := Nat.le_trans HZn.out hb.size
        obtain ⟨A4, c4, rfl, hcl4, hC4⟩ := Kd.R_reads hown
        have HC4 := Lib.hid hC4
        have HC5 := Lib.hid HS9.out.toC
        obtain ⟨K1, hK1⟩ := same_ints [] (by simp)
        have HK1 := Lib.hid hK1
        clear hown hb hC4 hK1 HPn HSn HBn HZn
        go_wp2_with fail
        refine (whilomref01_Ints.calls K1 A4 c4 [] none 0 [] true _ HC4.out hcl4 HC5.out (Nat.le_refl _) HK1.out).mono ?_
        rintro e w10 ⟨rfl, hd⟩
        have hb := hd.below
        have HP10 : Hid (P w10 B R L _ []) := HP9.out.keep (Chg.of_below (S := fun _ => False) hb) (by simp) (by simp)
        have HS10 : Hid (Seg w10 lo none []) := HS9.out.below hb
        have HB10 : Hid (Below w.heap.size w w10) := HB9.out.trans (hb.mono HB9.out.size)
        have HZ10 : Hid (lo ≤ w10.heap.size) := Nat.le_trans HZ9.out hb.size
        clear hd hb HC4 HC5 HK1 HP9 HS9 HB9 HZ9
        go_wp2
        go_roundw
        case rel => exact ⟨i + 1, _, [], none, 0, by omega, by go_num, rfl, Nat.le_refl _, HP10.out, HS10.out, HZ10.out, HB10.out⟩
        case measure => simp [intOf]; omega
    · go_wp2
      go_ret
      exact ⟨rfl, HB.out⟩

theorem walk (l : Int) (A : Option Addr) (len cap : Nat) (xs : List (Int × Int)) (w : World) (_ : (Lit.int .i64 l).wf = true) (hr : two.C w A len xs) (_ : len ≤ cap) (_ : ∀ x ∈ xs, True) :
    Calls Try.prog 13 #[.int .i64 l, .slice A len cap] w fun e w' => e = .returned (.bool true) ∧ Below w.heap.size w w' := by
  by_cases hbig : 80 < len
  · exact walk_long l A len cap w hbig
  · have e := Kd.C_len hr
    subst e
    exact walk_short l A cap xs w hr (by omega)

end Go.Proofs.Ytfkbijkmdnieiaa.PileActs
