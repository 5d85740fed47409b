/- Any table, made: the law, walked. No conditions. -/
import Derived.Test.YtccfjjaljckinaaRRightCM
import Derived.Test.YtccfjjaljckinaaRMg
import Derived.LoopTactic
namespace Go.Proofs.Ytccfjjaljckinaa.Tag
open Go.RowKit Go.Lib Go.Shelf Go.Proofs.Ytccfjjaljckinaa.Mem Go.Proofs.Ytccfjjaljckinaa.IMap Go.Proofs.YtccfjjaljckinaaW.PrintWords Go.Proofs.Ytccfjjaljckinaa.PTagActs
set_option linter.unusedVariables false

theorem c_F34 {w w1 : World} {A : Option Addr} {l : List Listed} (h : Kd.C k34 w A l.length (sL l)) (hb : ∀ k, k < w.heap.size → w1.heap[k]? = w.heap[k]?) : LRow w1 (fun k => k < w.heap.size) A l := by
  intro W hW
  have hs : ∀ k, k < w.heap.size → k < w1.heap.size := fun k hk => heap_lt (hb k hk) hk
  refine ⟨h.1, h.2.1, fun hn => ?_⟩
  obtain ⟨ad, e, hc⟩ := h.2.2 hn
  refine ⟨ad, e, fun j p hj => ?_⟩
  obtain ⟨cs, h1, h2, h3⟩ := hc j p hj
  have ec := k34_open h2
  refine ⟨cs, h1, by subst ec; exact k34_mk _ _, fun i u hu => ?_⟩
  have h4 := h3 i u hu
  have hlt := World.block_lt_of_cell? w _ h4
  have h5 := (hW _ hlt (hs _ hlt)).trans (hb _ hlt)
  unfold World.cell? at h4 ⊢
  rw [h5]
  exact h4
theorem c_Fint {w w1 : World} {A : Option Addr} {l : List Int} (h : Kd.C (Kd.int .i64) w A l.length l) (hb : ∀ k, k < w.heap.size → w1.heap[k]? = w.heap[k]?) : IRow w1 (fun k => k < w.heap.size) A l := by
  intro W hW
  have hs : ∀ k, k < w.heap.size → k < w1.heap.size := fun k hk => heap_lt (hb k hk) hk
  refine ⟨h.1, h.2.1, fun hn => ?_⟩
  obtain ⟨ad, e, hc⟩ := h.2.2 hn
  refine ⟨ad, e, fun j p hj => ?_⟩
  obtain ⟨cs, h1, h2, h3⟩ := hc j p hj
  refine ⟨cs, h1, h2, fun i u hu => ?_⟩
  have h4 := h3 i u hu
  have hlt := World.block_lt_of_cell? w _ h4
  have h5 := (hW _ hlt (hs _ hlt)).trans (hb _ hlt)
  unfold World.cell? at h4 ⊢
  rw [h5]
  exact h4
theorem ref_of {w w1 : World} {cap serial : Int} {A1 A2 : Option Addr} {c1 c2 : Nat} {lasts : List Int} {l : List Listed} (h1 : Kd.C (Kd.int .i64) w A1 lasts.length lasts) (g1 : lasts.length ≤ c1) (h2 : Kd.C k34 w A2 l.length (sL l)) (g2 : l.length ≤ c2)
    (hb : Below w.heap.size w w1) (hm : Blk w1 w.heap.size #[.int .i64 cap, .int .i64 serial, .slice A1 lasts.length c1, .slice A2 l.length c2] 49) : RefAt w1 (fun k => k < w.heap.size) w.heap.size ⟨cap, serial, lasts, l⟩ :=
  ⟨A1, c1, A2, c2, hm, g1, g2, c_Fint h1 hb.block, c_F34 h2 hb.block, fun k hk => ⟨by omega, Nat.lt_of_lt_of_le hk hb.size⟩⟩

set_option maxRecDepth 100000 in
set_option maxHeartbeats 1000000 in
theorem makes_long {cap cap0 serial : Int} {A1 A2 : Option Addr} {n1 n2 c1 c2 : Nat} (w : World) (hbig : 40 < n2 ∨ 60 < n1) :
    Calls Try.prog 4 #[.int .i64 cap, .agg #[.int .i64 cap0, .int .i64 serial, .slice A1 n1 c1, .slice A2 n2 c2]] w fun e w' => e = .returned (.bool true) ∧ Below w.heap.size w w' := by
  have hu49 := Try.underlying49
  have hcs : (40 < n2) ∨ (¬ 40 < n2 ∧ 60 < n1) := by omega
  obtain ⟨wa, hwa⟩ : ∃ wa, wa = w.alloc (Obj.cells #[.int .i64 cap0, .int .i64 serial, .slice A1 n1 c1, .slice A2 n2 c2] 49) := ⟨_, rfl⟩
  have HA : Hid (Below w.heap.size w wa) := by subst hwa; exact Lib.hid ((Below.refl _ _).alloc (Nat.le_refl _) _)
  have HX : Hid (Blk wa w.heap.size #[.int .i64 cap0, .int .i64 serial, .slice A1 n1 c1, .slice A2 n2 c2] 49) := by subst hwa; exact Lib.hid (Blk.new _ _ _)
  have HE := Lib.hid hwa
  clear hwa
  rcases hcs with h | ⟨h', h⟩
  case' inl => have t1 : decide ((n2 : Int) > 40) = true := decide_eq_true (by omega)
  case' inr =>
    have t1 : decide ((n2 : Int) > 40) = false := decide_eq_false (by omega)
    have t2 : decide ((n1 : Int) > 60) = true := decide_eq_true (by omega)
  all_goals
    clear hbig
    go_enter Try.func4, Try.ntmps4
    go_wp2_with fail
    rw [← HE.out]
    refine (awake _).mono ?_
    rintro e w1 ⟨rfl, hb1⟩
    have HB1 : Hid (Below w.heap.size w w1) := Lib.hid (HA.out.trans (hb1.mono HA.out.size))
    have hx := HX.out.below hb1
    have d2 : w1.cell? ⟨w.heap.size, 2, none⟩ = some (.slice A1 n1 c1) := hx.cell (j := 2) rfl
    have d3 : w1.cell? ⟨w.heap.size, 3, none⟩ = some (.slice A2 n2 c2) := hx.cell (j := 3) rfl
    clear hx hb1 HE HA HX
    go_wp2_with fail
    refine (awake _).mono ?_
    rintro e w2 ⟨rfl, hb2⟩
    have HB2 := Lib.hid hb2
    clear hb2
    go_wp2_with fail
    go_ret
    exact ⟨rfl, HB1.out.trans (HB2.out.mono HB1.out.size)⟩

set_option maxRecDepth 100000 in
set_option maxHeartbeats 2000000 in
theorem makes_short {cap cap0 serial : Int} {A1 A2 : Option Addr} {c1 c2 : Nat} {lasts : List Int} {l : List Listed} (w : World) (h1 : Kd.C (Kd.int .i64) w A1 lasts.length lasts) (g1 : lasts.length ≤ c1) (h2 : Kd.C k34 w A2 l.length (sL l)) (g2 : l.length ≤ c2)
    (hn1 : lasts.length ≤ 60) (hn2 : l.length ≤ 40) (hs : In64 serial) (hfl : ∀ x ∈ l, In64O x.o) :
    Calls Try.prog 4 #[.int .i64 cap, .agg #[.int .i64 cap0, .int .i64 serial, .slice A1 lasts.length c1, .slice A2 l.length c2]] w fun e w' => e = .returned (.bool true) ∧ Below w.heap.size w w' := by
  have hu49 := Try.underlying49
  have H1 := Lib.hid h1
  have H2 := Lib.hid h2
  have HS := Lib.hid hs
  have HFl := Lib.hid hfl
  have HG := Lib.hid (And.intro g1 g2)
  have HN : Hid (lasts.length ≤ 1000 ∧ l.length ≤ 1000) := Lib.hid ⟨by omega, by omega⟩
  have t1 : decide ((l.length : Int) > 40) = false := decide_eq_false (by omega)
  have t2 : decide ((lasts.length : Int) > 60) = false := decide_eq_false (by omega)
  obtain ⟨wa, hwa⟩ : ∃ wa, wa = w.alloc (Obj.cells #[.int .i64 cap0, .int .i64 serial, .slice A1 lasts.length c1, .slice A2 l.length c2] 49) := ⟨_, rfl⟩
  have HA : Hid (Below w.heap.size w wa) := by subst hwa; exact Lib.hid ((Below.refl _ _).alloc (Nat.le_refl _) _)
  have HX : Hid (Blk wa w.heap.size #[.int .i64 cap0, .int .i64 serial, .slice A1 lasts.length c1, .slice A2 l.length c2] 49) := by subst hwa; exact Lib.hid (Blk.new _ _ _)
  have HE := Lib.hid hwa
  clear hwa h1 h2 g1 g2 hn1 hn2 hs hfl
  go_enter Try.func4, Try.ntmps4
  go_wp2_with fail
  rw [← HE.out]
  refine (awake _).mono ?_
  rintro e w1 ⟨rfl, hb1⟩
  have HB1 : Hid (Below w.heap.size w w1) := Lib.hid (HA.out.trans (hb1.mono HA.out.size))
  have hx := HX.out.below hb1
  have d0 : w1.cell? ⟨w.heap.size, 0, none⟩ = some (.int .i64 cap0) := hx.cell (j := 0) rfl
  have d1 : w1.cell? ⟨w.heap.size, 1, none⟩ = some (.int .i64 serial) := hx.cell (j := 1) rfl
  have d2 : w1.cell? ⟨w.heap.size, 2, none⟩ = some (.slice A1 lasts.length c1) := hx.cell (j := 2) rfl
  have d3 : w1.cell? ⟨w.heap.size, 3, none⟩ = some (.slice A2 l.length c2) := hx.cell (j := 3) rfl
  have f0 := hx.free 0
  have HX1 := Lib.hid hx
  clear hx hb1 HE HA HX
  have HX2 : Hid (Blk (w1.setCell ⟨w.heap.size, 0, none⟩ (.int .i64 cap)) w.heap.size #[.int .i64 cap, .int .i64 serial, .slice A1 lasts.length c1, .slice A2 l.length c2] 49) := Lib.hid (HX1.out.set 0 (.int .i64 cap))
  have HB2 : Hid (Below w.heap.size w (w1.setCell ⟨w.heap.size, 0, none⟩ (.int .i64 cap))) := Lib.hid (HB1.out.setCell (Nat.le_refl _) _)
  clear HX1 HB1
  go_wp2_with fail
  refine (makeAt (Kd.C_below H1.out HB2.out) HG.out.1 (Kd.C_below H2.out HB2.out) HG.out.2 HN.out.1 HN.out.2 HS.out HFl.out).mono ?_
  generalize w1.setCell ⟨w.heap.size, 0, none⟩ (.int .i64 cap) = w2 at *
  clear d0 d1 d2 d3 f0
  rintro e w3 ⟨hb3, hp⟩
  have hx := HX2.out.below hb3
  have d0 : w3.cell? ⟨w.heap.size, 0, none⟩ = some (.int .i64 cap) := hx.cell (j := 0) rfl
  have d1 : w3.cell? ⟨w.heap.size, 1, none⟩ = some (.int .i64 serial) := hx.cell (j := 1) rfl
  have d2 : w3.cell? ⟨w.heap.size, 2, none⟩ = some (.slice A1 lasts.length c1) := hx.cell (j := 2) rfl
  have d3 : w3.cell? ⟨w.heap.size, 3, none⟩ = some (.slice A2 l.length c2) := hx.cell (j := 3) rfl
  have HX3 := Lib.hid hx
  have HB3 := Lib.hid (HB2.out.trans (hb3.mono HB2.out.size))
  clear hx hb3 HX2 HB2
  rcases hp with ⟨hn, rfl⟩ | ⟨T, O, t, ht, rfl, hT, _⟩
  · have HNo : Hid (¬ RightP cap serial lasts l) := Lib.hid (fun h => by
      obtain ⟨u, hu, _⟩ := right_made HS.out HN.out.1 HFl.out h
      rw [hn] at hu; cases hu)
    clear hn
    go_wp2_with fail
    refine (rightAt (Kd.C_below H1.out HB3.out) HG.out.1 (Kd.C_below H2.out HB3.out) HG.out.2 HN.out.1 HN.out.2).mono ?_
    rintro e w4 ⟨b, rfl, hb, hb4⟩
    obtain rfl : b = false := by
      cases b
      · rfl
      · exact absurd (hb.1 rfl) HNo.out
    have HB4 := Lib.hid (HB3.out.trans (hb4.mono HB3.out.size))
    clear hb hb4 d0 d1 d2 d3
    go_wp2_with fail
    go_ret
    exact ⟨rfl, HB4.out⟩
  · have HYes : Hid (RightP cap serial lasts l ∧ Rel t ⟨cap, serial, lasts, l⟩) := Lib.hid (by
      by_cases h : RightP cap serial lasts l
      · obtain ⟨u, hu, hr⟩ := right_made HS.out HN.out.1 HFl.out h
        rw [ht] at hu; injection hu with hu; subst hu
        exact ⟨h, hr⟩
      · have := right_none HS.out HN.out.1 HFl.out h
        rw [ht] at this; cases this)
    have HT3 := Lib.hid hT
    clear ht hT
    go_wp2_with fail
    refine (rightAt (Kd.C_below H1.out HB3.out) HG.out.1 (Kd.C_below H2.out HB3.out) HG.out.2 HN.out.1 HN.out.2).mono ?_
    rintro e w4 ⟨b, rfl, hb, hb4⟩
    obtain rfl : b = true := hb.2 HYes.out.1
    have HB4 := Lib.hid (HB3.out.trans (hb4.mono HB3.out.size))
    have HT4 := Lib.hid (HT3.out.below hb4)
    have HR4 := Lib.hid (ref_of H1.out HG.out.1 H2.out HG.out.2 HB4.out (HX3.out.below hb4))
    clear hb hb4 d0 d1 d2 d3 HT3 HX3
    go_wp2_with fail
    refine (alikeAt HT4.out HR4.out HYes.out.2).mono ?_
    rintro e w5 ⟨rfl, hb5⟩
    have HB5 := Lib.hid (HB4.out.trans (hb5.mono HB4.out.size))
    clear hb5
    go_wp2_with fail
    go_ret
    exact ⟨rfl, HB5.out⟩
end Go.Proofs.Ytccfjjaljckinaa.Tag
