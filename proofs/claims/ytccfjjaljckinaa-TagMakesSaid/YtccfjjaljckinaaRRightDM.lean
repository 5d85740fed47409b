/- The document's Right: the way through, walked. No conditions. -/
import Derived.Test.YtccfjjaljckinaaRRightEM
import Derived.Test.YtccfjjaljckinaaRRightAM
import Derived.Test.YtccfjjaljckinaaRRightKM
import Derived.Test.YtccfjjaljckinaaRSq
import Derived.LoopTactic
import Derived.IntWalk
import Derived.Deep.QuietTactic
import Derived.BigQuiet
namespace Go.Proofs.Ytccfjjaljckinaa.Tag
open Go.RowKit Go.Lib Go.Shelf Go.Proofs.Ytccfjjaljckinaa.Mem Go.Proofs.Ytccfjjaljckinaa.IMap Go.Proofs.YtccfjjaljckinaaW.PrintWords Go.Proofs.YtccfjjaljckinaaW.PrintLast Go.Proofs.YtccfjjaljckinaaW.PrintMore Go.Proofs.Ytccfjjaljckinaa.PTagActs
set_option linter.unusedVariables false
set_option maxRecDepth 100000 in
set_option maxHeartbeats 16000000 in
theorem right_inD {w : World} {cap serial : Int} {A1 A2 : Option Addr} {c1 c2 : Nat} {lasts : List Int} {l : List Listed} (h1 : Kd.C (Kd.int .i64) w A1 lasts.length lasts) (g1 : lasts.length ≤ c1) (h2 : Kd.C k34 w A2 l.length (sL l)) (g2 : l.length ≤ c2) (hn1 : lasts.length ≤ 1000) (hn2 : l.length ≤ 1000) (b1 : ¬ cap < 0) (b2 : ¬ 65536 < cap) (b3 : ¬ serial < 0) (b5 : ¬ cap < l.length) (bl : lasts.getLast? ≠ some 0) (hlq : 0 < lasts.length) (hlast : ¬ headBad cap serial lasts l.length) :
    Calls Try.prog 17 #[.agg #[.int .i64 cap, .int .i64 serial, .slice A1 lasts.length c1, .slice A2 l.length c2]] w (RightPost cap serial lasts l w) := by
  have H1 := Lib.hid h1
  have H2 := Lib.hid h2
  have HHd := Lib.hid hlast
  have hu49 := Try.underlying49
  have hu34 := Try.underlying34
  have hu32 := Try.underlying32
  have hu30 := Try.underlying30
  have hu28 := Try.underlying28
  have t1 : decide (cap < 0) = false := decide_eq_false (by omega)
  have t2 : decide (cap > 65536) = false := decide_eq_false (by omega)
  have t3 : decide (serial < 0) = false := decide_eq_false (by omega)
  have t5 : decide ((l.length : Int) > cap) = false := decide_eq_false (by omega)
  obtain ⟨v, b4, b6⟩ : ∃ v, lasts.getLast? = some v ∧ v ≠ 0 := by
    cases h : lasts.getLast? with
    | none => rw [List.getLast?_eq_none_iff.1 h] at hlq; simp at hlq
    | some v => exact ⟨v, rfl, fun e => bl (by rw [h, e])⟩
  have hlp : 0 < lasts.length := by cases lasts with | nil => simp at b4 | cons a r => simp
  rw [getLast_at hlp] at b4
  obtain ⟨ae, hA, m0⟩ := irow_at h1 b4
  subst hA
  have t4 : decide ((lasts.length : Int) > 0) = true := decide_eq_true (by omega)
  have hw0 : wrap64 ((lasts.length : Int) - 1) = ((lasts.length - 1 : Nat) : Int) := by unfold wrap64; omega
  have hw2 : (lasts.length : Int) - 1 = ((lasts.length - 1 : Nat) : Int) := by omega
  have hw3 : (0 : Int) ≤ ((lasts.length - 1 : Nat) : Int) := by omega
  have hw4 : ((lasts.length - 1 : Nat) : Int) < lasts.length := by omega
  have hw5 : (((lasts.length - 1 : Nat) : Int)).toNat = lasts.length - 1 := by omega
  have hael : (ae.add (lasts.length - 1)).block < w.heap.size := World.block_lt_of_cell? _ _ m0
  have haen : (ae.add (lasts.length - 1)).block ≠ w.heap.size := by omega
  have t6 : (v == 0) = false := beq_eq_false_iff_ne.2 b6
  clear b4 b6 hlp
  obtain ⟨CE, hCE⟩ : ∃ C : Array Value, C = #[.int .i64 cap, .int .i64 serial, .slice (some ae) lasts.length c1, .slice A2 l.length c2] := ⟨_, rfl⟩
  all_goals
    have HCE := Lib.hid hCE
    clear h1 h2 hlast bl hlq hCE
    go_enter Try.func17, Try.ntmps17
    go_wp2_with fail
    refine gwP (fun wq hwq => ?_)
    have HBq : Hid (Below w.heap.size w wq) := Lib.hid (by rw [← hwq]; exact (Below.refl _ _).alloc (Nat.le_refl _) _)
    have HTq : Hid (Blk wq w.heap.size CE 49) := Lib.hid (by rw [← hwq, HCE.out]; exact Blk.new _ _ _)
    clear hwq
    try clear m0
    go_loopw [3] (fun i wr => ∃ k : Nat, k ≤ lasts.length ∧ i = .int .i64 k ∧ (∀ v ∈ lasts.take k, 0 ≤ v ∧ v ≤ 4294967295) ∧ Blk wr w.heap.size CE 49 ∧ Below w.heap.size w wr) (fun i _ => lasts.length - (intOf i).toNat)
    case atStart => exact ⟨0, Nat.zero_le _, rfl, fun v hv => (by simp at hv), HTq.out, HBq.out⟩
    case round =>
      clear HTq HBq
      obtain ⟨k, hk, rfl, hok, hT, hb⟩ := hrel
      have HT := Lib.hid hT
      have HB := Lib.hid hb
      have HOk := Lib.hid hok
      clear hb hok hT
      have HTd := HT.out
      rw [HCE.out] at HTd
      have d0 := HTd.cell (j := 0) rfl
      have d1 := HTd.cell (j := 1) rfl
      have d2 := HTd.cell (j := 2) rfl
      have d3 := HTd.cell (j := 3) rfl
      clear HTd
      by_cases hlt : k < lasts.length
      · try (exfalso; omega)
        all_goals
          obtain ⟨x, hx⟩ : ∃ x, lasts[k]? = some x := ⟨_, List.getElem?_eq_getElem hlt⟩
          have HX := Lib.hid hx
          obtain ⟨ae', hA', m1⟩ := irow_at (Kd.C_below H1.out HB.out) hx
          cases hA'
          have hk0 : (0 : Int) ≤ k := by omega
          have hkn : (k : Int) < lasts.length := by omega
          have hkt : ((k : Int)).toNat = k := by omega
          clear hx
          by_cases hx0 : x < 0
          · have c1 : decide (x < 0) = true := decide_eq_true hx0
            have HR : Hid (¬ RightP cap serial lasts l) := Lib.hid (fun h => by have := h.2.1 x (List.mem_of_getElem? HX.out); omega)
            go_wp2_with fail
            go_ret
            exact ⟨false, rfl, ⟨fun h => (by cases h), fun h => absurd h HR.out⟩, HB.out⟩
          · have c1 : decide (x < 0) = false := decide_eq_false hx0
            by_cases hx1 : 4294967295 < x
            · have c2 : decide (x > 4294967295) = true := decide_eq_true hx1
              have HR : Hid (¬ RightP cap serial lasts l) := Lib.hid (fun h => by have := h.2.1 x (List.mem_of_getElem? HX.out); omega)
              go_wp2_with fail
              go_ret
              exact ⟨false, rfl, ⟨fun h => (by cases h), fun h => absurd h HR.out⟩, HB.out⟩
            · have c2 : decide (x > 4294967295) = false := decide_eq_false hx1
              go_wp2_with fail
              go_roundw
              case rel =>
                refine ⟨k + 1, by omega, by go_num, fun v hv => ?_, HT.out, HB.out⟩
                rw [List.take_add_one, HX.out] at hv
                rcases List.mem_append.1 hv with hv | hv
                · exact HOk.out v hv
                · simp at hv; omega
              case measure => simp [intOf]; omega
      · have HL : Hid (∀ v ∈ lasts, 0 ≤ v ∧ v ≤ 4294967295) := Lib.hid (by have := HOk.out; rw [List.take_of_length_le (by omega)] at this; exact this)
        clear HOk
        go_wp2_with fail
        go_loopw [4] (fun i wr => ∃ k : Nat, k ≤ l.length ∧ i = .int .i64 k ∧ (∀ (j : Nat) (y : Listed), j < k → l[j]? = some y → ¬ rowBad serial lasts l j y) ∧ Blk wr w.heap.size CE 49 ∧ Below w.heap.size w wr) (fun i _ => l.length - (intOf i).toNat)
        case atStart => exact ⟨0, Nat.zero_le _, rfl, fun j y hj => absurd hj (by omega), HT.out, HB.out⟩
        case round =>
          clear HT HB hlt hk
          obtain ⟨k, hk, rfl, hok, hT, hb⟩ := hrel
          have HT := Lib.hid hT
          have HB := Lib.hid hb
          have HOk := Lib.hid hok
          clear hb hok hT
          have HTd := HT.out
          rw [HCE.out] at HTd
          have d0 := HTd.cell (j := 0) rfl
          have d1 := HTd.cell (j := 1) rfl
          have d2 := HTd.cell (j := 2) rfl
          have d3 := HTd.cell (j := 3) rfl
          clear HTd
          by_cases hlt : k < l.length
          · obtain ⟨x, hx⟩ : ∃ x, l[k]? = some x := ⟨_, List.getElem?_eq_getElem hlt⟩
            have HX := Lib.hid hx
            obtain ⟨ad, hA, r0, r1, r2, r3, r4, r5⟩ := row_at (Kd.C_below H2.out HB.out) hx
            cases hA
            have hk0 : (0 : Int) ≤ k := by omega
            have hkn : (k : Int) < l.length := by omega
            have hkt : ((k : Int)).toNat = k := by omega
            clear hx
            obtain ⟨⟨xi, xg⟩, ⟨xt, xn, xk, xd⟩⟩ := x
            dsimp only at r0 r1 r2 r3 r4 r5
            have hadl : (ad.add (k * 6)).block < wr.heap.size := World.block_lt_of_cell? _ _ r0
            go_wp2_with fail
            refine gwP (fun wa hwa => ?_)
            have hb : Below wr.heap.size wr wa := by rw [← hwa]; exact (Below.refl _ _).alloc (Nat.le_refl _) _
            have hb' : Below wr.heap.size wr wa.drew := hb.drew
            have HXb : Hid (Blk wa.drew wr.heap.size #[.int .i64 xi, .int .i64 xg, .int .i64 xt, .bool xn, .int .i64 xk, .int .i64 xd] 34) := Lib.hid (by rw [← hwa]; exact (Blk.new _ _ _).drew)
            have HTb : Hid (Blk wa.drew w.heap.size CE 49) := Lib.hid (HT.out.below hb')
            have HBb : Hid (Below w.heap.size w wa.drew) := Lib.hid (HB.out.trans (hb'.mono HB.out.size))
            have hTe := HTb.out
            rw [HCE.out] at hTe
            clear hb hb' hwa HT HB d0 d1 d2 d3 r0 r1 r2 r3 r4 r5 hadl
            have hkle : k ≤ l.length := by omega
            have hl6 : l.length ≤ 1000000 := by omega
            have hkc : (k : Int) ≤ c2 := by omega
            have hkc2 : k ≤ c2 := by omega
            obtain ⟨bF, hbF⟩ : ∃ b, (l.take k).any (fun y => y.r.i == xi) = b := ⟨_, rfl⟩
            have HBF := Lib.hid hbF
            obtain ⟨bI, hbI⟩ : ∃ b, (l.take k).any (fun y => y.o.id == xd) = b := ⟨_, rfl⟩
            have HBI := Lib.hid hbI
            clear hbF hbI
            by_cases hp0 : 0 < k
            · have b4 : decide ((0 : Int) < k) = true := decide_eq_true (by omega)
              have b6 : decide (0 < k) = true := decide_eq_true hp0
              obtain ⟨y, hy⟩ : ∃ y, l[k - 1]? = some y := ⟨_, List.getElem?_eq_getElem (by omega)⟩
              have HPr : Hid (prevT l k = some y.o.time) := Lib.hid (by unfold prevT; rw [if_neg (by omega), hy]; rfl)
              obtain ⟨ad', hA', y0, y1, y2, y3, y4, y5⟩ := row_at (Kd.C_below H2.out HBb.out) hy
              cases hA'
              clear y0 y1 y3 y4 y5 hy
              obtain ⟨⟨yi, yg⟩, ⟨yt, yn, yk, yd⟩⟩ := y
              dsimp only at y2 HPr
              have hw1 : IntKind.i64.wrap ((k - 1 : Nat) : Int) = ((k - 1 : Nat) : Int) := IntWalk.i64_in _ (by omega)
              have hw0 : wrap64 ((k : Int) - 1) = ((k - 1 : Nat) : Int) := by unfold wrap64; omega
              have hw2 : (k : Int) - 1 = ((k - 1 : Nat) : Int) := by omega
              have hw3 : (0 : Int) ≤ ((k - 1 : Nat) : Int) := by omega
              have hw4 : ((k - 1 : Nat) : Int) < l.length := by omega
              have hw5 : (((k - 1 : Nat) : Int)).toNat = k - 1 := by omega
              clear hp0
              by_cases hyx : xt ≤ yt
              case' pos => have b5 : decide (xt ≤ yt) = true := decide_eq_true hyx
              case' pos => have hR : rowBad serial lasts l k ⟨⟨xi, xg⟩, ⟨xt, xn, xk, xd⟩⟩ := Or.inl (by rw [HPr.out]; simpa using hyx)
              case' neg => have b5 : decide (xt ≤ yt) = false := decide_eq_false hyx
              case' neg => have HPa : Hid (¬ ((prevT l k).any (fun y => decide (xt ≤ y))) = true) := Lib.hid (by rw [HPr.out]; simpa using hyx)
              case' neg => rcases outcomes (serial := serial) (lasts := lasts) (xg := xg) (xn := xn) (xk := xk) (xd := xd) HBF.out HPa.out with ⟨cB, hR⟩ | ⟨cB, cC, hR⟩ | ⟨cB, cC, cD, hR⟩ | ⟨n, v, i0, i1, i2, hv, cB, cC, cD, cE, hR⟩ | ⟨n, v, i0, i1, i2, hv, cB, cC, cD, cE, h4, hR⟩ | ⟨n, v, i0, i1, i2, hv, cB, cC, cD, cE, h4, hN⟩
              all_goals clear hyx
              all_goals try (exfalso; omega)
              all_goals try (have HRb := Lib.hid hR; clear hR)
              all_goals try (have HN := Lib.hid hN; clear hN)
              all_goals try (obtain ⟨ae', hA', m1⟩ := irow_at (Kd.C_below H1.out HBb.out) hv; cases hA'; have HV := Lib.hid hv; clear hv)
              all_goals try subst h4
              all_goals (first | (refine Sq.region_ (fun w' => w'.cell? ⟨w.heap.size, 2, none⟩ = some (.slice (some ae) lasts.length c1) ∧ w'.cell? ⟨w.heap.size, 3, none⟩ = some (.slice (some ad) l.length c2) ∧ w'.cell? ⟨wr.heap.size, 1, none⟩ = some (.int .i64 xg) ∧ w'.cell? ⟨wr.heap.size, 2, none⟩ = some (.int .i64 xt) ∧ w'.cell? ⟨(ad.add ((k - 1) * 6)).block, (ad.add ((k - 1) * 6)).off + 2, none⟩ = some (.int .i64 yt) ∧ w'.cell? (ae.add n) = some (.int .i64 v)) [50] [(0, some 82), (1, some 83), (2, some 84), (3, some 85), (4, some 86), (5, some 87), (6, some 88), (7, some 89), (8, some 90), (9, some 91), (10, some 92), (11, some 93), (12, some 94), (13, some 95), (14, some 96), (15, some 97), (16, some 98), (17, some 99), (18, some 100), (19, some 101), (20, some 102), (21, some 103), (22, some 104), (23, some 105), (24, some 106), (25, some 107), (26, some 108), (27, some 109), (28, some 110), (29, some 111), (30, some 112), (31, some 113), (32, some 114), (33, some 115), (34, some 116), (35, some 117), (36, some 118), (37, some 119), (38, some 120), (39, some 121), (40, some 122), (41, some 123), (42, some 124), (43, some 125), (44, some 126), (45, some 127), (46, some 128), (47, some 129), (48, some 130), (49, some 131), (50, some 132), (51, some 133)] (by kernel_rfl) rfl (by kernel_rfl) (fun _ _ N _ _ h => by cases N <;> exact h) ⟨hTe.cell (j := 2) rfl, hTe.cell (j := 3) rfl, HXb.out.cell (j := 1) rfl, HXb.out.cell (j := 2) rfl, y2, m1⟩ (fun hHeld => ?_)) | (refine Sq.region_ (fun w' => w'.cell? ⟨w.heap.size, 2, none⟩ = some (.slice (some ae) lasts.length c1) ∧ w'.cell? ⟨w.heap.size, 3, none⟩ = some (.slice (some ad) l.length c2) ∧ w'.cell? ⟨wr.heap.size, 1, none⟩ = some (.int .i64 xg) ∧ w'.cell? ⟨wr.heap.size, 2, none⟩ = some (.int .i64 xt) ∧ w'.cell? ⟨(ad.add ((k - 1) * 6)).block, (ad.add ((k - 1) * 6)).off + 2, none⟩ = some (.int .i64 yt) ∧ True) [50] [(0, some 82), (1, some 83), (2, some 84), (3, some 85), (4, some 86), (5, some 87), (6, some 88), (7, some 89), (8, some 90), (9, some 91), (10, some 92), (11, some 93), (12, some 94), (13, some 95), (14, some 96), (15, some 97), (16, some 98), (17, some 99), (18, some 100), (19, some 101), (20, some 102), (21, some 103), (22, some 104), (23, some 105), (24, some 106), (25, some 107), (26, some 108), (27, some 109), (28, some 110), (29, some 111), (30, some 112), (31, some 113), (32, some 114), (33, some 115), (34, some 116), (35, some 117), (36, some 118), (37, some 119), (38, some 120), (39, some 121), (40, some 122), (41, some 123), (42, some 124), (43, some 125), (44, some 126), (45, some 127), (46, some 128), (47, some 129), (48, some 130), (49, some 131), (50, some 132), (51, some 133)] (by kernel_rfl) rfl (by kernel_rfl) (fun _ _ N _ _ h => by cases N <;> exact h) ⟨hTe.cell (j := 2) rfl, hTe.cell (j := 3) rfl, HXb.out.cell (j := 1) rfl, HXb.out.cell (j := 2) rfl, y2, trivial⟩ (fun hHeld => ?_)) | (refine Sq.region_ (fun w' => w'.cell? ⟨w.heap.size, 2, none⟩ = some (.slice A1 lasts.length c1) ∧ w'.cell? ⟨w.heap.size, 3, none⟩ = some (.slice (some ad) l.length c2) ∧ w'.cell? ⟨wr.heap.size, 1, none⟩ = some (.int .i64 xg) ∧ w'.cell? ⟨wr.heap.size, 2, none⟩ = some (.int .i64 xt) ∧ w'.cell? ⟨(ad.add ((k - 1) * 6)).block, (ad.add ((k - 1) * 6)).off + 2, none⟩ = some (.int .i64 yt) ∧ True) [50] [(0, some 82), (1, some 83), (2, some 84), (3, some 85), (4, some 86), (5, some 87), (6, some 88), (7, some 89), (8, some 90), (9, some 91), (10, some 92), (11, some 93), (12, some 94), (13, some 95), (14, some 96), (15, some 97), (16, some 98), (17, some 99), (18, some 100), (19, some 101), (20, some 102), (21, some 103), (22, some 104), (23, some 105), (24, some 106), (25, some 107), (26, some 108), (27, some 109), (28, some 110), (29, some 111), (30, some 112), (31, some 113), (32, some 114), (33, some 115), (34, some 116), (35, some 117), (36, some 118), (37, some 119), (38, some 120), (39, some 121), (40, some 122), (41, some 123), (42, some 124), (43, some 125), (44, some 126), (45, some 127), (46, some 128), (47, some 129), (48, some 130), (49, some 131), (50, some 132), (51, some 133)] (by kernel_rfl) rfl (by kernel_rfl) (fun _ _ N _ _ h => by cases N <;> exact h) ⟨hTe.cell (j := 2) rfl, hTe.cell (j := 3) rfl, HXb.out.cell (j := 1) rfl, HXb.out.cell (j := 2) rfl, y2, trivial⟩ (fun hHeld => ?_)))
              all_goals (generalize wa.drew = wd at *)
              all_goals (repeat (first | (refine Sq.q_ (v := ?_) (a' := ?_) rfl rfl rfl (by rfl) ?_ ?_ ?_; rotate_left 2; (· (rintro w' ⟨s0, s1, s2, s3, s4, s5⟩; go_simp; (first | with_reducible rfl | rw [if_neg (by omega)]))); (· (simp only [Act.put, List.setIfInBounds_toArray, List.set_cons_zero, List.set_cons_succ]; rfl))) | (refine Sq.o_ (a' := ?_) rfl rfl rfl (by rfl) ?_ ?_; rotate_left 1; (· (simp only [Act.put, List.setIfInBounds_toArray, List.set_cons_zero, List.set_cons_succ]; rfl)))))
              all_goals (first | (refine Sq.oc_ (a' := ?_) rfl rfl rfl (by rfl) ?_ hHeld ?_; rotate_left 1; (· (simp only [Act.put, List.setIfInBounds_toArray, List.set_cons_zero, List.set_cons_succ]; rfl))) | (refine Sq.c_ #[.slice (some ad) k c2, .int .i64 xi] Try.func34 (by kernel_rfl) rfl rfl rfl rfl (by rfl) rfl (by (try simp only [List.map_toArray, List.map_cons, List.map_nil]); first | done | rfl) ?_; refine (slotK (Kd.C_below H2.out HBb.out) hkle g2 hl6 xi HBF.out).mono ?_; rintro e w5 ⟨rfl, q5, rfl⟩; refine ⟨_, ?_, rfl, ?_, (by first | exact ⟨hTe.cell (j := 2) rfl, hTe.cell (j := 3) rfl, HXb.out.cell (j := 1) rfl, HXb.out.cell (j := 2) rfl, y2, m1⟩ | exact ⟨hTe.cell (j := 2) rfl, hTe.cell (j := 3) rfl, HXb.out.cell (j := 1) rfl, HXb.out.cell (j := 2) rfl, y2, trivial⟩), fun hHeld' => ?_⟩; rotate_left 1; (· (simp only [Act.put, List.setIfInBounds_toArray, List.set_cons_zero, List.set_cons_succ]; rfl)); clear hHeld; have hHeld := hHeld'; clear hHeld'))
              all_goals (repeat (first | (refine Sq.q_ (v := ?_) (a' := ?_) rfl rfl rfl (by rfl) ?_ ?_ ?_; rotate_left 2; (· (rintro w' ⟨s0, s1, s2, s3, s4, s5⟩; go_simp; (first | with_reducible rfl | rw [if_neg (by omega)]))); (· (simp only [Act.put, List.setIfInBounds_toArray, List.set_cons_zero, List.set_cons_succ]; rfl))) | (refine Sq.o_ (a' := ?_) rfl rfl rfl (by rfl) ?_ ?_; rotate_left 1; (· (simp only [Act.put, List.setIfInBounds_toArray, List.set_cons_zero, List.set_cons_succ]; rfl)))))
              all_goals (refine Sq.e_ ?_)
              all_goals try (have HRr := HRb; clear hHeld; go_wp2_with fail; go_ret; exact ⟨false, rfl, ⟨fun h => (by cases h), fun h => absurd HRr.out (h.2.2 k _ HX.out)⟩, by first | exact HBb.out | exact pw_below_drewN HBb.out _⟩)
              all_goals
                have HX5 : Hid (Blk (wd.drewN q5) wr.heap.size #[.int .i64 xi, .int .i64 xg, .int .i64 xt, .bool xn, .int .i64 xk, .int .i64 xd] 34) := Lib.hid (HXb.out.drewN q5)
                have HT5 : Hid (Blk (wd.drewN q5) w.heap.size CE 49) := Lib.hid (HTb.out.drewN q5)
                have HB5 : Hid (Below w.heap.size w (wd.drewN q5)) := Lib.hid (pw_below_drewN HBb.out q5)
                clear hHeld HXb HTb HBb hTe m1
                try clear y2
                generalize wd.drewN q5 = w5 at *
                have hT5 := HT5.out
                rw [HCE.out] at hT5
                have e1 := hT5.cell (j := 1) rfl
                have e3 := hT5.cell (j := 3) rfl
                have x3 : w5.cell? ⟨wr.heap.size, 3, none⟩ = some (.bool xn) := HX5.out.cell (j := 3) rfl
                have x4 : w5.cell? ⟨wr.heap.size, 4, none⟩ = some (.int .i64 xk) := HX5.out.cell (j := 4) rfl
                have x5 : w5.cell? ⟨wr.heap.size, 5, none⟩ = some (.int .i64 xd) := HX5.out.cell (j := 5) rfl
                clear hT5
                rcases idCases serial xd xk xn bI with h | ⟨h5, h6⟩ | ⟨h5, h6, h7⟩ | ⟨h5, h6, h7, h8, h9⟩ | ⟨h5, h6, h7, h8, h9⟩ | ⟨h5, h6, h7, h8⟩
                · have HRi : Hid (rowBad serial lasts l k ⟨⟨xi, xg⟩, ⟨xt, xn, xk, xd⟩⟩) := Lib.hid (Or.inr (Or.inr (Or.inr (Or.inr (Or.inr (Or.inr (Or.inl h)))))))
                  have cI : decide (xd < 0) = true := decide_eq_true (by omega)
                  go_wp2_with fail
                  go_ret
                  exact ⟨false, rfl, ⟨fun h => (by cases h), fun h => absurd HRi.out (h.2.2 k _ HX.out)⟩, HB5.out⟩
                · have HRi : Hid (rowBad serial lasts l k ⟨⟨xi, xg⟩, ⟨xt, xn, xk, xd⟩⟩) := Lib.hid (Or.inr (Or.inr (Or.inr (Or.inr (Or.inr (Or.inr (Or.inr (Or.inl h6))))))))
                  have cI : decide (xd < 0) = false := decide_eq_false (by omega)
                  have cJ : decide (serial ≤ xd) = true := decide_eq_true (by omega)
                  go_wp2_with fail
                  go_ret
                  exact ⟨false, rfl, ⟨fun h => (by cases h), fun h => absurd HRi.out (h.2.2 k _ HX.out)⟩, HB5.out⟩
                · have HRi : Hid (rowBad serial lasts l k ⟨⟨xi, xg⟩, ⟨xt, xn, xk, xd⟩⟩) := Lib.hid (Or.inr (Or.inr (Or.inr (Or.inr (Or.inr (Or.inr (Or.inr (Or.inr (Or.inl (HBI.out.trans h7))))))))))
                  have cI : decide (xd < 0) = false := decide_eq_false (by omega)
                  have cJ : decide (serial ≤ xd) = false := decide_eq_false (by omega)
                  subst h7
                  go_wp2_with fail
                  refine (idK (Kd.C_below H2.out HB5.out) hkle g2 hl6 xd HBI.out).mono ?_
                  rintro e w6 ⟨rfl, hq6⟩
                  have HX6 : Hid (Blk w6 wr.heap.size #[.int .i64 xi, .int .i64 xg, .int .i64 xt, .bool xn, .int .i64 xk, .int .i64 xd] 34) := Lib.hid (by obtain ⟨q, e⟩ := hq6; rw [e]; exact HX5.out.drewN q)
                  have HT6 : Hid (Blk w6 w.heap.size CE 49) := Lib.hid (by obtain ⟨q, e⟩ := hq6; rw [e]; exact HT5.out.drewN q)
                  have HB6 : Hid (Below w.heap.size w w6) := Lib.hid (by obtain ⟨q, e⟩ := hq6; rw [e]; exact pw_below_drewN HB5.out q)
                  clear hq6 e1 e3 x3 x4 x5 HX5 HT5 HB5
                  have x3 : w6.cell? ⟨wr.heap.size, 3, none⟩ = some (.bool xn) := HX6.out.cell (j := 3) rfl
                  have x4 : w6.cell? ⟨wr.heap.size, 4, none⟩ = some (.int .i64 xk) := HX6.out.cell (j := 4) rfl
                  go_wp2_with fail
                  go_ret
                  exact ⟨false, rfl, ⟨fun h => (by cases h), fun h => absurd HRi.out (h.2.2 k _ HX.out)⟩, HB6.out⟩
                · have HRi : Hid (rowBad serial lasts l k ⟨⟨xi, xg⟩, ⟨xt, xn, xk, xd⟩⟩) := Lib.hid (Or.inr (Or.inr (Or.inr (Or.inr (Or.inr (Or.inr (Or.inr (Or.inr (Or.inr ⟨h8, h9⟩)))))))))
                  have cI : decide (xd < 0) = false := decide_eq_false (by omega)
                  have cJ : decide (serial ≤ xd) = false := decide_eq_false (by omega)
                  have cK := ne_beq h9
                  subst h7
                  subst h8
                  go_wp2_with fail
                  refine (idK (Kd.C_below H2.out HB5.out) hkle g2 hl6 xd HBI.out).mono ?_
                  rintro e w6 ⟨rfl, hq6⟩
                  have HX6 : Hid (Blk w6 wr.heap.size #[.int .i64 xi, .int .i64 xg, .int .i64 xt, .bool false, .int .i64 xk, .int .i64 xd] 34) := Lib.hid (by obtain ⟨q, e⟩ := hq6; rw [e]; exact HX5.out.drewN q)
                  have HT6 : Hid (Blk w6 w.heap.size CE 49) := Lib.hid (by obtain ⟨q, e⟩ := hq6; rw [e]; exact HT5.out.drewN q)
                  have HB6 : Hid (Below w.heap.size w w6) := Lib.hid (by obtain ⟨q, e⟩ := hq6; rw [e]; exact pw_below_drewN HB5.out q)
                  clear hq6 e1 e3 x3 x4 x5 HX5 HT5 HB5
                  have x3 : w6.cell? ⟨wr.heap.size, 3, none⟩ = some (.bool false) := HX6.out.cell (j := 3) rfl
                  have x4 : w6.cell? ⟨wr.heap.size, 4, none⟩ = some (.int .i64 xk) := HX6.out.cell (j := 4) rfl
                  go_wp2_with fail
                  go_ret
                  exact ⟨false, rfl, ⟨fun h => (by cases h), fun h => absurd HRi.out (h.2.2 k _ HX.out)⟩, HB6.out⟩
                · have HNb : Hid (¬ rowBad serial lasts l k ⟨⟨xi, xg⟩, ⟨xt, xn, xk, xd⟩⟩) := Lib.hid (fine_row HPa.out HN.out.1 HN.out.2.1 HN.out.2.2.1 HN.out.2.2.2 HBF.out h5 h6 (HBI.out.trans h7) (fun _ => h9))
                  have cI : decide (xd < 0) = false := decide_eq_false (by omega)
                  have cJ : decide (serial ≤ xd) = false := decide_eq_false (by omega)
                  subst h7
                  subst h8
                  subst h9
                  go_wp2_with fail
                  refine (idK (Kd.C_below H2.out HB5.out) hkle g2 hl6 xd HBI.out).mono ?_
                  rintro e w6 ⟨rfl, hq6⟩
                  have HX6 : Hid (Blk w6 wr.heap.size #[.int .i64 xi, .int .i64 xg, .int .i64 xt, .bool false, .int .i64 0, .int .i64 xd] 34) := Lib.hid (by obtain ⟨q, e⟩ := hq6; rw [e]; exact HX5.out.drewN q)
                  have HT6 : Hid (Blk w6 w.heap.size CE 49) := Lib.hid (by obtain ⟨q, e⟩ := hq6; rw [e]; exact HT5.out.drewN q)
                  have HB6 : Hid (Below w.heap.size w w6) := Lib.hid (by obtain ⟨q, e⟩ := hq6; rw [e]; exact pw_below_drewN HB5.out q)
                  clear hq6 e1 e3 x3 x4 x5 HX5 HT5 HB5
                  have x3 : w6.cell? ⟨wr.heap.size, 3, none⟩ = some (.bool false) := HX6.out.cell (j := 3) rfl
                  have x4 : w6.cell? ⟨wr.heap.size, 4, none⟩ = some (.int .i64 0) := HX6.out.cell (j := 4) rfl
                  go_wp2_with fail
                  go_roundw
                  case rel => exact ⟨k + 1, by omega, by go_num, rows_succ HOk.out HX.out HNb.out, HT6.out, HB6.out⟩
                  case measure => simp [intOf]; omega
                · have HNb : Hid (¬ rowBad serial lasts l k ⟨⟨xi, xg⟩, ⟨xt, xn, xk, xd⟩⟩) := Lib.hid (fine_row HPa.out HN.out.1 HN.out.2.1 HN.out.2.2.1 HN.out.2.2.2 HBF.out h5 h6 (HBI.out.trans h7) (fun e => by rw [h8] at e; cases e))
                  have cI : decide (xd < 0) = false := decide_eq_false (by omega)
                  have cJ : decide (serial ≤ xd) = false := decide_eq_false (by omega)
                  subst h7
                  subst h8
                  go_wp2_with fail
                  refine (idK (Kd.C_below H2.out HB5.out) hkle g2 hl6 xd HBI.out).mono ?_
                  rintro e w6 ⟨rfl, hq6⟩
                  have HX6 : Hid (Blk w6 wr.heap.size #[.int .i64 xi, .int .i64 xg, .int .i64 xt, .bool true, .int .i64 xk, .int .i64 xd] 34) := Lib.hid (by obtain ⟨q, e⟩ := hq6; rw [e]; exact HX5.out.drewN q)
                  have HT6 : Hid (Blk w6 w.heap.size CE 49) := Lib.hid (by obtain ⟨q, e⟩ := hq6; rw [e]; exact HT5.out.drewN q)
                  have HB6 : Hid (Below w.heap.size w w6) := Lib.hid (by obtain ⟨q, e⟩ := hq6; rw [e]; exact pw_below_drewN HB5.out q)
                  clear hq6 e1 e3 x3 x4 x5 HX5 HT5 HB5
                  have x3 : w6.cell? ⟨wr.heap.size, 3, none⟩ = some (.bool true) := HX6.out.cell (j := 3) rfl
                  have x4 : w6.cell? ⟨wr.heap.size, 4, none⟩ = some (.int .i64 xk) := HX6.out.cell (j := 4) rfl
                  go_wp2_with fail
                  go_roundw
                  case rel => exact ⟨k + 1, by omega, by go_num, rows_succ HOk.out HX.out HNb.out, HT6.out, HB6.out⟩
                  case measure => simp [intOf]; omega
            · have b4 : decide ((0 : Int) < k) = false := decide_eq_false (by omega)
              have b6 : decide (0 < k) = false := decide_eq_false (by omega)
              have HPa : Hid (¬ ((prevT l k).any (fun y => decide (xt ≤ y))) = true) := Lib.hid (by unfold prevT; rw [if_pos (by omega)]; simp)
              clear hp0
              rcases outcomes (serial := serial) (lasts := lasts) (xg := xg) (xn := xn) (xk := xk) (xd := xd) HBF.out HPa.out with ⟨cB, hR⟩ | ⟨cB, cC, hR⟩ | ⟨cB, cC, cD, hR⟩ | ⟨n, v, i0, i1, i2, hv, cB, cC, cD, cE, hR⟩ | ⟨n, v, i0, i1, i2, hv, cB, cC, cD, cE, h4, hR⟩ | ⟨n, v, i0, i1, i2, hv, cB, cC, cD, cE, h4, hN⟩
              all_goals try (exfalso; omega)
              all_goals try (have HRb := Lib.hid hR; clear hR)
              all_goals try (have HN := Lib.hid hN; clear hN)
              all_goals try (obtain ⟨ae', hA', m1⟩ := irow_at (Kd.C_below H1.out HBb.out) hv; cases hA'; have HV := Lib.hid hv; clear hv)
              all_goals try subst h4
              all_goals (first | (refine Sq.region_ (fun w' => w'.cell? ⟨w.heap.size, 2, none⟩ = some (.slice (some ae) lasts.length c1) ∧ w'.cell? ⟨w.heap.size, 3, none⟩ = some (.slice (some ad) l.length c2) ∧ w'.cell? ⟨wr.heap.size, 1, none⟩ = some (.int .i64 xg) ∧ w'.cell? ⟨wr.heap.size, 2, none⟩ = some (.int .i64 xt) ∧ True ∧ w'.cell? (ae.add n) = some (.int .i64 v)) [50] [(0, some 82), (1, some 83), (2, some 84), (3, some 85), (4, some 86), (5, some 87), (6, some 88), (7, some 89), (8, some 90), (9, some 91), (10, some 92), (11, some 93), (12, some 94), (13, some 95), (14, some 96), (15, some 97), (16, some 98), (17, some 99), (18, some 100), (19, some 101), (20, some 102), (21, some 103), (22, some 104), (23, some 105), (24, some 106), (25, some 107), (26, some 108), (27, some 109), (28, some 110), (29, some 111), (30, some 112), (31, some 113), (32, some 114), (33, some 115), (34, some 116), (35, some 117), (36, some 118), (37, some 119), (38, some 120), (39, some 121), (40, some 122), (41, some 123), (42, some 124), (43, some 125), (44, some 126), (45, some 127), (46, some 128), (47, some 129), (48, some 130), (49, some 131), (50, some 132), (51, some 133)] (by kernel_rfl) rfl (by kernel_rfl) (fun _ _ N _ _ h => by cases N <;> exact h) ⟨hTe.cell (j := 2) rfl, hTe.cell (j := 3) rfl, HXb.out.cell (j := 1) rfl, HXb.out.cell (j := 2) rfl, trivial, m1⟩ (fun hHeld => ?_)) | (refine Sq.region_ (fun w' => w'.cell? ⟨w.heap.size, 2, none⟩ = some (.slice (some ae) lasts.length c1) ∧ w'.cell? ⟨w.heap.size, 3, none⟩ = some (.slice (some ad) l.length c2) ∧ w'.cell? ⟨wr.heap.size, 1, none⟩ = some (.int .i64 xg) ∧ w'.cell? ⟨wr.heap.size, 2, none⟩ = some (.int .i64 xt) ∧ True ∧ True) [50] [(0, some 82), (1, some 83), (2, some 84), (3, some 85), (4, some 86), (5, some 87), (6, some 88), (7, some 89), (8, some 90), (9, some 91), (10, some 92), (11, some 93), (12, some 94), (13, some 95), (14, some 96), (15, some 97), (16, some 98), (17, some 99), (18, some 100), (19, some 101), (20, some 102), (21, some 103), (22, some 104), (23, some 105), (24, some 106), (25, some 107), (26, some 108), (27, some 109), (28, some 110), (29, some 111), (30, some 112), (31, some 113), (32, some 114), (33, some 115), (34, some 116), (35, some 117), (36, some 118), (37, some 119), (38, some 120), (39, some 121), (40, some 122), (41, some 123), (42, some 124), (43, some 125), (44, some 126), (45, some 127), (46, some 128), (47, some 129), (48, some 130), (49, some 131), (50, some 132), (51, some 133)] (by kernel_rfl) rfl (by kernel_rfl) (fun _ _ N _ _ h => by cases N <;> exact h) ⟨hTe.cell (j := 2) rfl, hTe.cell (j := 3) rfl, HXb.out.cell (j := 1) rfl, HXb.out.cell (j := 2) rfl, trivial, trivial⟩ (fun hHeld => ?_)) | (refine Sq.region_ (fun w' => w'.cell? ⟨w.heap.size, 2, none⟩ = some (.slice A1 lasts.length c1) ∧ w'.cell? ⟨w.heap.size, 3, none⟩ = some (.slice (some ad) l.length c2) ∧ w'.cell? ⟨wr.heap.size, 1, none⟩ = some (.int .i64 xg) ∧ w'.cell? ⟨wr.heap.size, 2, none⟩ = some (.int .i64 xt) ∧ True ∧ True) [50] [(0, some 82), (1, some 83), (2, some 84), (3, some 85), (4, some 86), (5, some 87), (6, some 88), (7, some 89), (8, some 90), (9, some 91), (10, some 92), (11, some 93), (12, some 94), (13, some 95), (14, some 96), (15, some 97), (16, some 98), (17, some 99), (18, some 100), (19, some 101), (20, some 102), (21, some 103), (22, some 104), (23, some 105), (24, some 106), (25, some 107), (26, some 108), (27, some 109), (28, some 110), (29, some 111), (30, some 112), (31, some 113), (32, some 114), (33, some 115), (34, some 116), (35, some 117), (36, some 118), (37, some 119), (38, some 120), (39, some 121), (40, some 122), (41, some 123), (42, some 124), (43, some 125), (44, some 126), (45, some 127), (46, some 128), (47, some 129), (48, some 130), (49, some 131), (50, some 132), (51, some 133)] (by kernel_rfl) rfl (by kernel_rfl) (fun _ _ N _ _ h => by cases N <;> exact h) ⟨hTe.cell (j := 2) rfl, hTe.cell (j := 3) rfl, HXb.out.cell (j := 1) rfl, HXb.out.cell (j := 2) rfl, trivial, trivial⟩ (fun hHeld => ?_)))
              all_goals (generalize wa.drew = wd at *)
              all_goals (repeat (first | (refine Sq.q_ (v := ?_) (a' := ?_) rfl rfl rfl (by rfl) ?_ ?_ ?_; rotate_left 2; (· (rintro w' ⟨s0, s1, s2, s3, s4, s5⟩; go_simp; (first | with_reducible rfl | rw [if_neg (by omega)]))); (· (simp only [Act.put, List.setIfInBounds_toArray, List.set_cons_zero, List.set_cons_succ]; rfl))) | (refine Sq.o_ (a' := ?_) rfl rfl rfl (by rfl) ?_ ?_; rotate_left 1; (· (simp only [Act.put, List.setIfInBounds_toArray, List.set_cons_zero, List.set_cons_succ]; rfl)))))
              all_goals (first | (refine Sq.oc_ (a' := ?_) rfl rfl rfl (by rfl) ?_ hHeld ?_; rotate_left 1; (· (simp only [Act.put, List.setIfInBounds_toArray, List.set_cons_zero, List.set_cons_succ]; rfl))) | (refine Sq.c_ #[.slice (some ad) k c2, .int .i64 xi] Try.func34 (by kernel_rfl) rfl rfl rfl rfl (by rfl) rfl (by (try simp only [List.map_toArray, List.map_cons, List.map_nil]); first | done | rfl) ?_; refine (slotK (Kd.C_below H2.out HBb.out) hkle g2 hl6 xi HBF.out).mono ?_; rintro e w5 ⟨rfl, q5, rfl⟩; refine ⟨_, ?_, rfl, ?_, (by first | exact ⟨hTe.cell (j := 2) rfl, hTe.cell (j := 3) rfl, HXb.out.cell (j := 1) rfl, HXb.out.cell (j := 2) rfl, trivial, m1⟩ | exact ⟨hTe.cell (j := 2) rfl, hTe.cell (j := 3) rfl, HXb.out.cell (j := 1) rfl, HXb.out.cell (j := 2) rfl, trivial, trivial⟩), fun hHeld' => ?_⟩; rotate_left 1; (· (simp only [Act.put, List.setIfInBounds_toArray, List.set_cons_zero, List.set_cons_succ]; rfl)); clear hHeld; have hHeld := hHeld'; clear hHeld'))
              all_goals (repeat (first | (refine Sq.q_ (v := ?_) (a' := ?_) rfl rfl rfl (by rfl) ?_ ?_ ?_; rotate_left 2; (· (rintro w' ⟨s0, s1, s2, s3, s4, s5⟩; go_simp; (first | with_reducible rfl | rw [if_neg (by omega)]))); (· (simp only [Act.put, List.setIfInBounds_toArray, List.set_cons_zero, List.set_cons_succ]; rfl))) | (refine Sq.o_ (a' := ?_) rfl rfl rfl (by rfl) ?_ ?_; rotate_left 1; (· (simp only [Act.put, List.setIfInBounds_toArray, List.set_cons_zero, List.set_cons_succ]; rfl)))))
              all_goals (refine Sq.e_ ?_)
              all_goals try (have HRr := HRb; clear hHeld; go_wp2_with fail; go_ret; exact ⟨false, rfl, ⟨fun h => (by cases h), fun h => absurd HRr.out (h.2.2 k _ HX.out)⟩, by first | exact HBb.out | exact pw_below_drewN HBb.out _⟩)
              all_goals
                have HX5 : Hid (Blk (wd.drewN q5) wr.heap.size #[.int .i64 xi, .int .i64 xg, .int .i64 xt, .bool xn, .int .i64 xk, .int .i64 xd] 34) := Lib.hid (HXb.out.drewN q5)
                have HT5 : Hid (Blk (wd.drewN q5) w.heap.size CE 49) := Lib.hid (HTb.out.drewN q5)
                have HB5 : Hid (Below w.heap.size w (wd.drewN q5)) := Lib.hid (pw_below_drewN HBb.out q5)
                clear hHeld HXb HTb HBb hTe m1
                try clear y2
                generalize wd.drewN q5 = w5 at *
                have hT5 := HT5.out
                rw [HCE.out] at hT5
                have e1 := hT5.cell (j := 1) rfl
                have e3 := hT5.cell (j := 3) rfl
                have x3 : w5.cell? ⟨wr.heap.size, 3, none⟩ = some (.bool xn) := HX5.out.cell (j := 3) rfl
                have x4 : w5.cell? ⟨wr.heap.size, 4, none⟩ = some (.int .i64 xk) := HX5.out.cell (j := 4) rfl
                have x5 : w5.cell? ⟨wr.heap.size, 5, none⟩ = some (.int .i64 xd) := HX5.out.cell (j := 5) rfl
                clear hT5
                rcases idCases serial xd xk xn bI with h | ⟨h5, h6⟩ | ⟨h5, h6, h7⟩ | ⟨h5, h6, h7, h8, h9⟩ | ⟨h5, h6, h7, h8, h9⟩ | ⟨h5, h6, h7, h8⟩
                · have HRi : Hid (rowBad serial lasts l k ⟨⟨xi, xg⟩, ⟨xt, xn, xk, xd⟩⟩) := Lib.hid (Or.inr (Or.inr (Or.inr (Or.inr (Or.inr (Or.inr (Or.inl h)))))))
                  have cI : decide (xd < 0) = true := decide_eq_true (by omega)
                  go_wp2_with fail
                  go_ret
                  exact ⟨false, rfl, ⟨fun h => (by cases h), fun h => absurd HRi.out (h.2.2 k _ HX.out)⟩, HB5.out⟩
                · have HRi : Hid (rowBad serial lasts l k ⟨⟨xi, xg⟩, ⟨xt, xn, xk, xd⟩⟩) := Lib.hid (Or.inr (Or.inr (Or.inr (Or.inr (Or.inr (Or.inr (Or.inr (Or.inl h6))))))))
                  have cI : decide (xd < 0) = false := decide_eq_false (by omega)
                  have cJ : decide (serial ≤ xd) = true := decide_eq_true (by omega)
                  go_wp2_with fail
                  go_ret
                  exact ⟨false, rfl, ⟨fun h => (by cases h), fun h => absurd HRi.out (h.2.2 k _ HX.out)⟩, HB5.out⟩
                · have HRi : Hid (rowBad serial lasts l k ⟨⟨xi, xg⟩, ⟨xt, xn, xk, xd⟩⟩) := Lib.hid (Or.inr (Or.inr (Or.inr (Or.inr (Or.inr (Or.inr (Or.inr (Or.inr (Or.inl (HBI.out.trans h7))))))))))
                  have cI : decide (xd < 0) = false := decide_eq_false (by omega)
                  have cJ : decide (serial ≤ xd) = false := decide_eq_false (by omega)
                  subst h7
                  go_wp2_with fail
                  refine (idK (Kd.C_below H2.out HB5.out) hkle g2 hl6 xd HBI.out).mono ?_
                  rintro e w6 ⟨rfl, hq6⟩
                  have HX6 : Hid (Blk w6 wr.heap.size #[.int .i64 xi, .int .i64 xg, .int .i64 xt, .bool xn, .int .i64 xk, .int .i64 xd] 34) := Lib.hid (by obtain ⟨q, e⟩ := hq6; rw [e]; exact HX5.out.drewN q)
                  have HT6 : Hid (Blk w6 w.heap.size CE 49) := Lib.hid (by obtain ⟨q, e⟩ := hq6; rw [e]; exact HT5.out.drewN q)
                  have HB6 : Hid (Below w.heap.size w w6) := Lib.hid (by obtain ⟨q, e⟩ := hq6; rw [e]; exact pw_below_drewN HB5.out q)
                  clear hq6 e1 e3 x3 x4 x5 HX5 HT5 HB5
                  have x3 : w6.cell? ⟨wr.heap.size, 3, none⟩ = some (.bool xn) := HX6.out.cell (j := 3) rfl
                  have x4 : w6.cell? ⟨wr.heap.size, 4, none⟩ = some (.int .i64 xk) := HX6.out.cell (j := 4) rfl
                  go_wp2_with fail
                  go_ret
                  exact ⟨false, rfl, ⟨fun h => (by cases h), fun h => absurd HRi.out (h.2.2 k _ HX.out)⟩, HB6.out⟩
                · have HRi : Hid (rowBad serial lasts l k ⟨⟨xi, xg⟩, ⟨xt, xn, xk, xd⟩⟩) := Lib.hid (Or.inr (Or.inr (Or.inr (Or.inr (Or.inr (Or.inr (Or.inr (Or.inr (Or.inr ⟨h8, h9⟩)))))))))
                  have cI : decide (xd < 0) = false := decide_eq_false (by omega)
                  have cJ : decide (serial ≤ xd) = false := decide_eq_false (by omega)
                  have cK := ne_beq h9
                  subst h7
                  subst h8
                  go_wp2_with fail
                  refine (idK (Kd.C_below H2.out HB5.out) hkle g2 hl6 xd HBI.out).mono ?_
                  rintro e w6 ⟨rfl, hq6⟩
                  have HX6 : Hid (Blk w6 wr.heap.size #[.int .i64 xi, .int .i64 xg, .int .i64 xt, .bool false, .int .i64 xk, .int .i64 xd] 34) := Lib.hid (by obtain ⟨q, e⟩ := hq6; rw [e]; exact HX5.out.drewN q)
                  have HT6 : Hid (Blk w6 w.heap.size CE 49) := Lib.hid (by obtain ⟨q, e⟩ := hq6; rw [e]; exact HT5.out.drewN q)
                  have HB6 : Hid (Below w.heap.size w w6) := Lib.hid (by obtain ⟨q, e⟩ := hq6; rw [e]; exact pw_below_drewN HB5.out q)
                  clear hq6 e1 e3 x3 x4 x5 HX5 HT5 HB5
                  have x3 : w6.cell? ⟨wr.heap.size, 3, none⟩ = some (.bool false) := HX6.out.cell (j := 3) rfl
                  have x4 : w6.cell? ⟨wr.heap.size, 4, none⟩ = some (.int .i64 xk) := HX6.out.cell (j := 4) rfl
                  go_wp2_with fail
                  go_ret
                  exact ⟨false, rfl, ⟨fun h => (by cases h), fun h => absurd HRi.out (h.2.2 k _ HX.out)⟩, HB6.out⟩
                · have HNb : Hid (¬ rowBad serial lasts l k ⟨⟨xi, xg⟩, ⟨xt, xn, xk, xd⟩⟩) := Lib.hid (fine_row HPa.out HN.out.1 HN.out.2.1 HN.out.2.2.1 HN.out.2.2.2 HBF.out h5 h6 (HBI.out.trans h7) (fun _ => h9))
                  have cI : decide (xd < 0) = false := decide_eq_false (by omega)
                  have cJ : decide (serial ≤ xd) = false := decide_eq_false (by omega)
                  subst h7
                  subst h8
                  subst h9
                  go_wp2_with fail
                  refine (idK (Kd.C_below H2.out HB5.out) hkle g2 hl6 xd HBI.out).mono ?_
                  rintro e w6 ⟨rfl, hq6⟩
                  have HX6 : Hid (Blk w6 wr.heap.size #[.int .i64 xi, .int .i64 xg, .int .i64 xt, .bool false, .int .i64 0, .int .i64 xd] 34) := Lib.hid (by obtain ⟨q, e⟩ := hq6; rw [e]; exact HX5.out.drewN q)
                  have HT6 : Hid (Blk w6 w.heap.size CE 49) := Lib.hid (by obtain ⟨q, e⟩ := hq6; rw [e]; exact HT5.out.drewN q)
                  have HB6 : Hid (Below w.heap.size w w6) := Lib.hid (by obtain ⟨q, e⟩ := hq6; rw [e]; exact pw_below_drewN HB5.out q)
                  clear hq6 e1 e3 x3 x4 x5 HX5 HT5 HB5
                  have x3 : w6.cell? ⟨wr.heap.size, 3, none⟩ = some (.bool false) := HX6.out.cell (j := 3) rfl
                  have x4 : w6.cell? ⟨wr.heap.size, 4, none⟩ = some (.int .i64 0) := HX6.out.cell (j := 4) rfl
                  go_wp2_with fail
                  go_roundw
                  case rel => exact ⟨k + 1, by omega, by go_num, rows_succ HOk.out HX.out HNb.out, HT6.out, HB6.out⟩
                  case measure => simp [intOf]; omega
                · have HNb : Hid (¬ rowBad serial lasts l k ⟨⟨xi, xg⟩, ⟨xt, xn, xk, xd⟩⟩) := Lib.hid (fine_row HPa.out HN.out.1 HN.out.2.1 HN.out.2.2.1 HN.out.2.2.2 HBF.out h5 h6 (HBI.out.trans h7) (fun e => by rw [h8] at e; cases e))
                  have cI : decide (xd < 0) = false := decide_eq_false (by omega)
                  have cJ : decide (serial ≤ xd) = false := decide_eq_false (by omega)
                  subst h7
                  subst h8
                  go_wp2_with fail
                  refine (idK (Kd.C_below H2.out HB5.out) hkle g2 hl6 xd HBI.out).mono ?_
                  rintro e w6 ⟨rfl, hq6⟩
                  have HX6 : Hid (Blk w6 wr.heap.size #[.int .i64 xi, .int .i64 xg, .int .i64 xt, .bool true, .int .i64 xk, .int .i64 xd] 34) := Lib.hid (by obtain ⟨q, e⟩ := hq6; rw [e]; exact HX5.out.drewN q)
                  have HT6 : Hid (Blk w6 w.heap.size CE 49) := Lib.hid (by obtain ⟨q, e⟩ := hq6; rw [e]; exact HT5.out.drewN q)
                  have HB6 : Hid (Below w.heap.size w w6) := Lib.hid (by obtain ⟨q, e⟩ := hq6; rw [e]; exact pw_below_drewN HB5.out q)
                  clear hq6 e1 e3 x3 x4 x5 HX5 HT5 HB5
                  have x3 : w6.cell? ⟨wr.heap.size, 3, none⟩ = some (.bool true) := HX6.out.cell (j := 3) rfl
                  have x4 : w6.cell? ⟨wr.heap.size, 4, none⟩ = some (.int .i64 xk) := HX6.out.cell (j := 4) rfl
                  go_wp2_with fail
                  go_roundw
                  case rel => exact ⟨k + 1, by omega, by go_num, rows_succ HOk.out HX.out HNb.out, HT6.out, HB6.out⟩
                  case measure => simp [intOf]; omega
          · go_wp2_with fail
            go_ret
            exact ⟨true, rfl, ⟨fun _ => ⟨HHd.out, HL.out, fun j y hy => HOk.out j y (by have := (List.getElem?_eq_some_iff.1 hy).1; omega) hy⟩, fun _ => rfl⟩, HB.out⟩
end Go.Proofs.Ytccfjjaljckinaa.Tag
