/- The best item by a sign; the first and the last one. No conditions. -/
import Derived.Test.YtddmlhcjbifkoaaDoorSort3
import Derived.Test.YtddmlhcjbifkoaaDoorSort4
import Derived.Test.YtddmlhcjbifkoaaDoorSortRefD
namespace Go.Proofs.YtddmlhcjbifkoaaDoor.Sort
open Go Go.RowKit Go.Lib Go.Proofs.YtddmlhcjbifkoaaDoor.Mem Go.Proofs.YtddmlhcjbifkoaaDoor.Item Go.Proofs.YtddmlhcjbifkoaaDoor.PItemSorts Go.Proofs.YtddmlhcjbifkoaaDoorW.PrintWords Go.Proofs.YtddmlhcjbifkoaaDoorW.PrintLast
set_option linter.unusedVariables false
theorem Gr.below {W w : World} (h : Gr W w) : Below W.heap.size W w := by
  obtain ⟨q, os, rfl⟩ := h
  refine ⟨rfl, rfl, rfl, ?_, fun k hk => ?_⟩
  · simp [Go.Sort.grow]
  · exact Go.Sort.heap_grow_old _ _ hk
theorem cmp_calls (a b c d : Int) (w : World) : Calls Tryd.prog 25 #[.agg #[.int .i64 a, .int .i64 b], .agg #[.int .i64 c, .int .i64 d]] w fun e w' => e = .returned (.int .i64 (cmpR a b c d)) ∧ Below w.heap.size w w' :=
  (closureI a b c d w).mono fun _ _ h => ⟨h.1, h.2.below⟩
/-- An item of a row. -/
theorem at_I {w : World} {A : Option Addr} {xs : List (Int × Int)} {n i : Nat} {x : Int × Int} (h : Kd.C k41 w A n (xs.map toS)) (hi : i < n) (hx : xs[i]? = some x) : ∃ ad, A = some ad ∧ w.cell? (ad.add (i * 2)) = some (.int .i64 x.1) ∧ w.cell? ⟨(ad.add (i * 2)).block, (ad.add (i * 2)).off + 1, none⟩ = some (.int .i64 x.2) := by
  obtain ⟨ad, e, h1, h2⟩ := at_T41 h (i : Int) (by omega) (by omega)
  rw [Int.toNat_natCast, rd_at hx] at h1 h2
  exact ⟨ad, e, h1, h2⟩
set_option maxRecDepth 100000 in
set_option maxHeartbeats 8000000 in
theorem best_none (sg : Int) (A : Option Addr) (c : Nat) (w : World) : Calls Tryd.prog 64 #[.int .i64 sg, .slice A 0 c] w fun e w' => e = .returned (.tuple #[.agg #[.int .i64 0, .int .i64 0], .bool false]) ∧ Below w.heap.size w w' := by
  have hu41 := Tryd.underlying41
  go_enter Tryd.func64, Tryd.ntmps64
  go_wp2_with fail
  refine bodyPost_ret (results_ct rfl _ _ w.heap.size 41 #[.int .i64 0, .int .i64 0] (0, 0) _ rfl ?_ Tryd.underlying41 rfl (by kernel_rfl)) rfl ⟨rfl, ?_⟩
  · exact Blk.new w _ _
  · exact (Below.refl _ _).alloc (Nat.le_refl _) _
theorem bestI_take (sg : Int) (o : Int × Int) {l : List (Int × Int)} {k : Nat} {x : Int × Int} (h : l[k]? = some x) : bestI sg o (l.take (k + 1)) = pickI sg (bestI sg o (l.take k)) x := by
  unfold bestI
  rw [List.take_add_one, h]
  simp
set_option maxRecDepth 100000 in
set_option maxHeartbeats 8000000 in
theorem best_some (sg : Int) (hg : sg = 1 ∨ sg = -1) (A : Option Addr) (c n : Nat) (o : Int × Int) (l : List (Int × Int)) (w : World) (hC : Kd.C k41 w A n ((o :: l).map toS)) (hn : n = l.length + 1) (hc : n ≤ c) (hl : l.length ≤ 100) :
    Calls Tryd.prog 64 #[.int .i64 sg, .slice A n c] w fun e w' => e = .returned (.tuple #[.agg #[.int .i64 (bestI sg o l).1, .int .i64 (bestI sg o l).2], .bool true]) ∧ Below w.heap.size w w' := by
  have hu41 := Tryd.underlying41
  have HC := Lib.hid cmp_calls
  obtain ⟨ad, rfl, h0, h1⟩ := at_I hC (i := 0) (by omega) (rfl : (o :: l)[0]? = some o)
  have HR : Hid (∀ k x, l[k]? = some x → c ≠ 1 ∧ w.cell? ⟨ad.block, ad.off + 2 + k * 2, none⟩ = some (.int .i64 x.1) ∧ w.cell? ⟨ad.block, ad.off + 2 + k * 2 + 1, none⟩ = some (.int .i64 x.2)) := Lib.hid (fun k x hx => by
    have hk := (List.getElem?_eq_some_iff.1 hx).1
    obtain ⟨ad', e, r0, r1⟩ := at_I hC (i := k + 1) (by omega) (x := x) (by simpa using hx)
    cases e
    have e2 : ad.add ((k + 1) * 2) = ⟨ad.block, ad.off + 2 + k * 2, none⟩ := by
      rw [show (k + 1) * 2 = (k * 2 + 1) + 1 by omega, Addr.add_succ', show ad.off + 2 + k * 2 = ad.off + (k * 2 + 1 + 1) by omega]
    rw [e2] at r0 r1
    exact ⟨by omega, r0, r1⟩)
  rw [Nat.zero_mul, Addr.add_zero'] at h0 h1
  have HB0 : Hid (Blk (w.alloc (.cells #[.int .i64 0, .int .i64 0] 41)) w.heap.size #[.int .i64 0, .int .i64 0] 41) := Lib.hid (Blk.new _ _ _)
  have HW0 : Hid (Below w.heap.size w (w.alloc (.cells #[.int .i64 0, .int .i64 0] 41))) := Lib.hid ((Below.refl _ _).alloc (Nat.le_refl _) _)
  have a0 := (HW0.out.cell (block_lt_of_cell h0)).trans h0
  have a1 := (HW0.out.cell (block_lt_of_cell h1)).trans h1
  clear hC h0 h1
  have HL1 : Hid (n - 1 = l.length) := Lib.hid (by omega)
  have HN := Lib.hid hn
  have HCc := Lib.hid hc
  have HL := Lib.hid hl
  have HG := Lib.hid hg
  have p0 : ((n : Int) == 0) = false := by simp; omega
  have p1 : (0 < n) = True := eq_true (by omega)
  have p3 : ((1 : Int) ≤ (n : Int)) = True := eq_true (by omega)
  have p4 : ((n : Int) < 1) = False := eq_false (by omega)
  clear hn hc hl hg
  by_cases hc1 : c = 1
  · have hnil : l = [] := by
      cases l with
      | nil => rfl
      | cons x t => exact absurd hc1 (HR.out 0 x rfl).1
    go_enter Tryd.func64, Tryd.ntmps64
    go_wp2_with fail
    go_loopw [19] (fun i wr => ∃ k : Nat, k ≤ l.length ∧ i = .int .i64 k ∧ Blk wr w.heap.size #[.int .i64 0, .int .i64 0] 41 ∧ Blk wr (w.heap.size + 1) #[.int .i64 (bestI sg o (l.take k)).1, .int .i64 (bestI sg o (l.take k)).2] 41 ∧ Below w.heap.size w wr) (fun i _ => l.length - (intOf i).toNat)
    case atStart => exact ⟨0, Nat.zero_le _, rfl, HB0.out.alloc _, Blk.at_ (by simp) _ _, HW0.out.alloc (HW0.out.size) _⟩
    case round =>
      obtain ⟨k, hk, rfl, hX, hY, hB⟩ := hrel
      have HX := Lib.hid hX
      have HY := Lib.hid hY
      have HB := Lib.hid hB
      clear hX hY hB a0 a1 HB0 HW0
      by_cases hlt : k < n - 1
      · have := HL1.out
        rw [hnil] at this
        simp at this
        omega
      · have hkk : k = l.length := by have := HL1.out; omega
        have HY' := HY.out
        rw [hkk, List.take_length] at HY'
        have HYe := Lib.hid HY'
        have t0 : ((k : Int) < ((n - 1 : Nat) : Int)) = False := eq_false (by have := HL1.out; omega)
        have t0' : decide ((k : Int) < ((n - 1 : Nat) : Int)) = false := decide_eq_false (by have := HL1.out; omega)
        have t0'' : decide (k < n - 1) = false := decide_eq_false (by have := HL1.out; omega)
        clear HY' HY hkk
        generalize hM : bestI sg o l = M at HYe
        have HMe := Lib.hid hM
        clear hM
        have y0 := HYe.out.cell (j := 0) rfl
        have y1 := HYe.out.cell (j := 1) rfl
        have x0 := HX.out.cell (j := 0) rfl
        have x1 := HX.out.cell (j := 1) rfl
        have f0 := HX.out.free 0
        have f1 := HX.out.free 1
        go_wp2_with fail
        refine bodyPost_ret (results_ct rfl _ _ w.heap.size 41 #[.int .i64 M.1, .int .i64 M.2] (0, 0) _ rfl ?_ Tryd.underlying41 rfl (by kernel_rfl)) rfl ?_
        · exact (HX.out.set 0 _).set 1 _
        · exact ⟨by rw [HMe.out]; rfl, (HB.out.setCell (p := ⟨w.heap.size, 0, none⟩) (Nat.le_refl _) _).setCell (p := ⟨w.heap.size, 1, none⟩) (Nat.le_refl _) _⟩
  · go_enter Tryd.func64, Tryd.ntmps64
    go_wp2_with fail
    go_loopw [19] (fun i wr => ∃ k : Nat, k ≤ l.length ∧ i = .int .i64 k ∧ Blk wr w.heap.size #[.int .i64 0, .int .i64 0] 41 ∧ Blk wr (w.heap.size + 1) #[.int .i64 (bestI sg o (l.take k)).1, .int .i64 (bestI sg o (l.take k)).2] 41 ∧ Below w.heap.size w wr) (fun i _ => l.length - (intOf i).toNat)
    case atStart => exact ⟨0, Nat.zero_le _, rfl, HB0.out.alloc _, Blk.at_ (by simp) _ _, HW0.out.alloc (HW0.out.size) _⟩
    case round =>
      obtain ⟨k, hk, rfl, hX, hY, hB⟩ := hrel
      have HX := Lib.hid hX
      have HY := Lib.hid hY
      have HB := Lib.hid hB
      clear hX hY hB a0 a1 HB0 HW0
      by_cases hlt : k < n - 1
      · obtain ⟨x, hx⟩ : ∃ x, l[k]? = some x := ⟨_, List.getElem?_eq_getElem (by have := HL1.out; omega)⟩
        obtain ⟨-, r0, r1⟩ := HR.out k x hx
        have HM := Lib.hid (bestI_take sg o hx)
        have r0' := (HB.out.cell (block_lt_of_cell r0)).trans r0
        have r1' := (HB.out.cell (block_lt_of_cell r1)).trans r1
        have HXa : Hid (Blk (wr.alloc (.cells #[.int .i64 x.1, .int .i64 x.2] 41)) w.heap.size #[.int .i64 0, .int .i64 0] 41) := Lib.hid (HX.out.alloc _)
        have HYa := Lib.hid (HY.out.alloc (.cells #[.int .i64 x.1, .int .i64 x.2] 41))
        have HZa : Hid (Blk (wr.alloc (.cells #[.int .i64 x.1, .int .i64 x.2] 41)) wr.heap.size #[.int .i64 x.1, .int .i64 x.2] 41) := Lib.hid (Blk.new _ _ _)
        have HBa := Lib.hid (HB.out.alloc HB.out.size (.cells #[.int .i64 x.1, .int .i64 x.2] 41))
        clear HX HY HB r0 r1 hx HR
        generalize bestI sg o (l.take k) = M at *
        have y0 := HYa.out.cell (j := 0) rfl
        have y1 := HYa.out.cell (j := 1) rfl
        have three := cmI_three x M
        have HP : Hid (pickI sg M x = if sg * cmpR x.1 x.2 M.1 M.2 < 0 then x else M) := Lib.hid rfl
        change cmpR x.1 x.2 M.1 M.2 = -1 ∨ cmpR x.1 x.2 M.1 M.2 = 0 ∨ cmpR x.1 x.2 M.1 M.2 = 1 at three
        have hcall := HC.out x.1 x.2 M.1 M.2
        generalize cmpR x.1 x.2 M.1 M.2 = r at *
        have HCr := Lib.hid hcall
        have hw : IntKind.wrap .i64 (sg * r) = sg * r := by
          rcases HG.out with rfl | rfl <;> rcases three with rfl | rfl | rfl <;> rfl
        have hw' : wrap64 (sg * r) = sg * r := wrap64_in _ (by rcases HG.out with rfl | rfl <;> omega)
        have HK : Hid (k + 1 ≤ l.length ∧ l.length ≤ 100) := Lib.hid ⟨by have := HL1.out; omega, HL.out⟩
        have HWk : Hid (wrap64 ((k : Int) + 1) = ((k + 1 : Nat) : Int)) := Lib.hid (by have := HK.out; rw [wrap64_in _ (by omega)]; rfl)
        clear hcall three hk
        by_cases hs : sg * r < 0
        · have t1 : decide (sg * r < 0) = true := decide_eq_true hs
          have HP' : Hid (pickI sg M x = x) := Lib.hid (by rw [HP.out, if_pos hs])
          clear HP hs
          go_wp2_with (go_at_call 25; refine (HCr.out _).mono ?_; rintro e w2 ⟨rfl, hb⟩; have HX2 := Lib.hid (HXa.out.below hb); have HY2 := Lib.hid (HYa.out.below hb); have HZ2 := Lib.hid (HZa.out.below hb); have HB2 := Lib.hid (HBa.out.trans (hb.mono HBa.out.size)); clear hb HXa HYa HZa HBa; have z0 := HZ2.out.cell (j := 0) rfl; have z1 := HZ2.out.cell (j := 1) rfl; have q0 := HY2.out.cell (j := 0) rfl; have q1 := HY2.out.cell (j := 1) rfl; have f0 := HY2.out.free 0; have f1 := HY2.out.free 1)
          go_roundw
          case rel => exact ⟨k + 1, HK.out.1, by rw [HWk.out], (HX2.out.far (p := ⟨w.heap.size + 1, 0, none⟩) (by simp) _).far (p := ⟨w.heap.size + 1, 1, none⟩) (by simp) _, by rw [HM.out, HP'.out]; exact (HY2.out.set 0 _).set 1 _, (HB2.out.setCell (p := ⟨w.heap.size + 1, 0, none⟩) (Nat.le_succ _) _).setCell (p := ⟨w.heap.size + 1, 1, none⟩) (Nat.le_succ _) _⟩
          case measure => rw [HWk.out]; simp only [intOf, Int.toNat_natCast]; have := HK.out; omega
        · have t1 : decide (sg * r < 0) = false := decide_eq_false hs
          have HP' : Hid (pickI sg M x = M) := Lib.hid (by rw [HP.out, if_neg hs])
          clear HP hs
          go_wp2_with (go_at_call 25; refine (HCr.out _).mono ?_; rintro e w2 ⟨rfl, hb⟩; have HX2 := Lib.hid (HXa.out.below hb); have HY2 := Lib.hid (HYa.out.below hb); have HZ2 := Lib.hid (HZa.out.below hb); have HB2 := Lib.hid (HBa.out.trans (hb.mono HBa.out.size)); clear hb HXa HYa HZa HBa)
          go_roundw
          case rel => exact ⟨k + 1, HK.out.1, by rw [HWk.out], HX2.out, by rw [HM.out, HP'.out]; exact HY2.out, HB2.out⟩
          case measure => rw [HWk.out]; simp only [intOf, Int.toNat_natCast]; have := HK.out; omega
      · have hkk : k = l.length := by have := HL1.out; omega
        have HY' := HY.out
        rw [hkk, List.take_length] at HY'
        have HYe := Lib.hid HY'
        have t0 : ((k : Int) < ((n - 1 : Nat) : Int)) = False := eq_false (by have := HL1.out; omega)
        have t0' : decide ((k : Int) < ((n - 1 : Nat) : Int)) = false := decide_eq_false (by have := HL1.out; omega)
        have t0'' : decide (k < n - 1) = false := decide_eq_false (by have := HL1.out; omega)
        clear HY' HY hkk
        generalize hM : bestI sg o l = M at HYe
        have HMe := Lib.hid hM
        clear hM
        have y0 := HYe.out.cell (j := 0) rfl
        have y1 := HYe.out.cell (j := 1) rfl
        have x0 := HX.out.cell (j := 0) rfl
        have x1 := HX.out.cell (j := 1) rfl
        have f0 := HX.out.free 0
        have f1 := HX.out.free 1
        go_wp2_with fail
        refine bodyPost_ret (results_ct rfl _ _ w.heap.size 41 #[.int .i64 M.1, .int .i64 M.2] (0, 0) _ rfl ?_ Tryd.underlying41 rfl (by kernel_rfl)) rfl ?_
        · exact (HX.out.set 0 _).set 1 _
        · exact ⟨by rw [HMe.out]; rfl, (HB.out.setCell (p := ⟨w.heap.size, 0, none⟩) (Nat.le_refl _) _).setCell (p := ⟨w.heap.size, 1, none⟩) (Nat.le_refl _) _⟩
/-- What best answers. -/
def bestO (sg : Int) : List (Int × Int) → (Int × Int) × Bool
  | [] => ((0, 0), false)
  | o :: l => (bestI sg o l, true)
theorem best_calls (sg : Int) (hg : sg = 1 ∨ sg = -1) (A : Option Addr) (c n : Nat) (l : List (Int × Int)) (w : World) (hC : Kd.C k41 w A n (l.map toS)) (hn : n = l.length) (hc : n ≤ c) (hl : l.length ≤ 100) :
    Calls Tryd.prog 64 #[.int .i64 sg, .slice A n c] w fun e w' => e = .returned (.tuple #[.agg #[.int .i64 (bestO sg l).1.1, .int .i64 (bestO sg l).1.2], .bool (bestO sg l).2]) ∧ Below w.heap.size w w' := by
  cases l with
  | nil =>
    obtain rfl : n = 0 := hn
    exact best_none sg A c w
  | cons o l => exact best_some sg hg A c n o l w hC hn hc (by rw [List.length_cons] at hl; omega)
set_option maxRecDepth 100000 in
set_option maxHeartbeats 8000000 in
theorem least_calls (A : Option Addr) (c n : Nat) (l : List (Int × Int)) (w : World) (hC : Kd.C k41 w A n (l.map toS)) (hn : n = l.length) (hc : n ≤ c) (hl : l.length ≤ 100) :
    Calls Tryd.prog 41 #[.slice A n c] w fun e w' => e = .returned (.tuple #[.agg #[.int .i64 (bestO (1) l).1.1, .int .i64 (bestO (1) l).1.2], .bool (bestO (1) l).2]) ∧ Below w.heap.size w w' := by
  have hu41 := Tryd.underlying41
  have HB0 : Hid (Blk (w.alloc (.cells #[.int .i64 0, .int .i64 0] 41)) w.heap.size #[.int .i64 0, .int .i64 0] 41) := Lib.hid (Blk.new _ _ _)
  have HW0 : Hid (Below w.heap.size w (w.alloc (.cells #[.int .i64 0, .int .i64 0] 41))) := Lib.hid ((Below.refl _ _).alloc (Nat.le_refl _) _)
  have hcall := best_calls (1) (Or.inl rfl) A c n l (w.alloc (.cells #[.int .i64 0, .int .i64 0] 41)) (Kd.C_below hC HW0.out) hn hc hl
  generalize bestO (1) l = r at *
  have HCr := Lib.hid hcall
  clear hcall hC hn hc hl
  go_enter Tryd.func41, Tryd.ntmps41
  go_wp2_with (go_at_call 64; refine HCr.out.mono ?_; rintro e w2 ⟨rfl, hb⟩; have HX2 := Lib.hid (HB0.out.below hb); have HB2 := Lib.hid (HW0.out.trans (hb.mono HW0.out.size)); clear hb; have z0 := HX2.out.cell (j := 0) rfl; have z1 := HX2.out.cell (j := 1) rfl; have f0 := HX2.out.free 0; have f1 := HX2.out.free 1)
  refine bodyPost_ret (results_ct rfl _ _ w.heap.size 41 #[.int .i64 r.1.1, .int .i64 r.1.2] (0, 0) _ rfl ((HX2.out.set 0 _).set 1 _) Tryd.underlying41 rfl (by kernel_rfl)) rfl ?_
  exact ⟨rfl, (HB2.out.setCell (p := ⟨w.heap.size, 0, none⟩) (Nat.le_refl _) _).setCell (p := ⟨w.heap.size, 1, none⟩) (Nat.le_refl _) _⟩
set_option maxRecDepth 100000 in
set_option maxHeartbeats 8000000 in
theorem most_calls (A : Option Addr) (c n : Nat) (l : List (Int × Int)) (w : World) (hC : Kd.C k41 w A n (l.map toS)) (hn : n = l.length) (hc : n ≤ c) (hl : l.length ≤ 100) :
    Calls Tryd.prog 42 #[.slice A n c] w fun e w' => e = .returned (.tuple #[.agg #[.int .i64 (bestO (-1) l).1.1, .int .i64 (bestO (-1) l).1.2], .bool (bestO (-1) l).2]) ∧ Below w.heap.size w w' := by
  have hu41 := Tryd.underlying41
  have HB0 : Hid (Blk (w.alloc (.cells #[.int .i64 0, .int .i64 0] 41)) w.heap.size #[.int .i64 0, .int .i64 0] 41) := Lib.hid (Blk.new _ _ _)
  have HW0 : Hid (Below w.heap.size w (w.alloc (.cells #[.int .i64 0, .int .i64 0] 41))) := Lib.hid ((Below.refl _ _).alloc (Nat.le_refl _) _)
  have hcall := best_calls (-1) (Or.inr rfl) A c n l (w.alloc (.cells #[.int .i64 0, .int .i64 0] 41)) (Kd.C_below hC HW0.out) hn hc hl
  generalize bestO (-1) l = r at *
  have HCr := Lib.hid hcall
  clear hcall hC hn hc hl
  go_enter Tryd.func42, Tryd.ntmps42
  go_wp2_with (go_at_call 64; refine HCr.out.mono ?_; rintro e w2 ⟨rfl, hb⟩; have HX2 := Lib.hid (HB0.out.below hb); have HB2 := Lib.hid (HW0.out.trans (hb.mono HW0.out.size)); clear hb; have z0 := HX2.out.cell (j := 0) rfl; have z1 := HX2.out.cell (j := 1) rfl; have f0 := HX2.out.free 0; have f1 := HX2.out.free 1)
  refine bodyPost_ret (results_ct rfl _ _ w.heap.size 41 #[.int .i64 r.1.1, .int .i64 r.1.2] (0, 0) _ rfl ((HX2.out.set 0 _).set 1 _) Tryd.underlying41 rfl (by kernel_rfl)) rfl ?_
  exact ⟨rfl, (HB2.out.setCell (p := ⟨w.heap.size, 0, none⟩) (Nat.le_refl _) _).setCell (p := ⟨w.heap.size, 1, none⟩) (Nat.le_refl _) _⟩
/-! The document's, in these words. -/
theorem rsorted_calls (A : Option Addr) (c n : Nat) (l : List (Int × Int)) (w : World) (hC : Kd.C k41 w A n (l.map toS)) (hn : n = l.length) (hc : n ≤ c) (hl : l.length ≤ 100) :
    Calls Tryd.prog 40 #[.slice A n c] w fun e w' => ∃ B c', e = .returned (.slice B n c') ∧ n ≤ c' ∧ Kd.C k41 w' B n ((sortI l).map toS) ∧ Below w.heap.size w w' := by
  obtain ⟨K, hK⟩ := sorted_ev hl
  have hle : (l.map toS).length = n := by rw [List.length_map, hn]
  have h := whilomref02_Sorted.calls K A c (l.map toS) _ w (by rw [hle]; exact hC) (by rw [hle]; exact hc) hK
  rw [hle] at h
  refine h.mono ?_
  rintro e w' ⟨v, rfl, hR, hb⟩
  obtain ⟨Ao, co, rfl, hco, hCo⟩ := Kd.R_reads hR
  have hle' : ((sortI l).map toS).length = n := by rw [List.length_map, sortI_length, hn]
  rw [hle'] at hco hCo ⊢
  exact ⟨Ao, co, rfl, hco, hCo, hb⟩
theorem same_ev {l : List (Int × Int)} (hl : l.length ≤ 100) : ∃ K, whilomref02_Same.f K (l.map toS) (l.map toS) = some true := by
  have key : ∀ m i, l.length - i = m → i ≤ l.length → ∃ K, whilomref02_Same.l0 K (l.map toS) (l.map toS) (i : Int) = some true := by
    intro m
    induction m with
    | zero =>
      intro i hm hi
      exact ⟨1, by rw [whilomref02_Same.l0, if_neg (by simp; omega)]⟩
    | succ m ih =>
      intro i hm hi
      obtain ⟨K, hK⟩ := ih (i + 1) (by omega) (by omega)
      refine ⟨K + 1, ?_⟩
      rw [whilomref02_Same.l0, if_pos (by simp; omega), if_pos (by omega), if_pos (by simp; omega), if_neg (by simp), wrap64_in _ (by omega)]
      exact hK
  obtain ⟨K, hK⟩ := key l.length 0 (by simp) (Nat.zero_le _)
  exact ⟨K, by unfold whilomref02_Same.f; rw [if_pos rfl]; exact hK⟩
theorem same_calls (A B : Option Addr) (c c' n : Nat) (l : List (Int × Int)) (w : World) (hC : Kd.C k41 w A n (l.map toS)) (hC' : Kd.C k41 w B n (l.map toS)) (hn : n = l.length) (hc : n ≤ c) (hc' : n ≤ c') (hl : l.length ≤ 100) :
    Calls Tryd.prog 43 #[.slice A n c, .slice B n c'] w fun e w' => e = .returned (.bool true) ∧ ∃ q, w' = w.drewN q := by
  obtain ⟨K, hK⟩ := same_ev hl
  have hle : (l.map toS).length = n := by rw [List.length_map, hn]
  have h := whilomref02_Same.calls K A c (l.map toS) B c' (l.map toS) _ w (by rw [hle]; exact hC) (by rw [hle]; exact hc) (by rw [hle]; exact hC') (by rw [hle]; exact hc') hK
  rw [hle] at h
  exact h.mono fun _ _ hh => ⟨hh.1, hh.2.out⟩
end Go.Proofs.YtddmlhcjbifkoaaDoor.Sort
