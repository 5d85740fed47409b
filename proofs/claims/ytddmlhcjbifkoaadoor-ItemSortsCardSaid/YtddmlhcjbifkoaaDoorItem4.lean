/- The program's Read of items, and the document's example. No conditions. -/
import Derived.Test.YtddmlhcjbifkoaaDoorItem3
namespace Go.Proofs.YtddmlhcjbifkoaaDoor.Item
open Go.Lib Go.RowKit Go.Proofs.YtddmlhcjbifkoaaDoor.Mem Go.Proofs.YtddmlhcjbifkoaaDoorW.PrintWords Go.Proofs.YtddmlhcjbifkoaaDoor.PItemReads Go.Proofs.YtddmlhcjbifkoaaDoor.ItemCmp

set_option maxRecDepth 100000 in
set_option maxHeartbeats 1000000 in
theorem read (s : ByteArray) (w : World) (hs : s.size ≤ 1000000) (he : Env w) : Calls Tryd.prog 28 #[.string s] w fun e w' =>
    e = .returned (.tuple #[.agg #[.int .i64 (readR (readOf s.data.toList)).1, .int .i64 (readR (readOf s.data.toList)).2.1], .bool (readR (readOf s.data.toList)).2.2]) ∧ Below w.heap.size w w' := by
  have hu41 := Tryd.underlying41
  have HENV := Lib.hid he
  obtain ⟨wa, hwa⟩ : ∃ wa, wa = w.alloc (Obj.cells #[Value.int .i64 0, .int .i64 0] 41) := ⟨_, rfl⟩
  have HA : Hid (Below w.heap.size w wa) := by subst hwa; exact (Below.refl _ _).alloc (Nat.le_refl _) _
  have HBa : Hid (Blk wa w.heap.size #[.int .i64 0, .int .i64 0] 41) := by subst hwa; exact Blk.new _ _ _
  have HE := Lib.hid hwa
  clear hwa
  obtain ⟨m, hm⟩ := (he.step HA.out).max
  have hcut := Tryd.strings_Cut s ⟨#[35]⟩ m wa (by omega) hm
  obtain ⟨a, b, x, hc⟩ : ∃ a b x, Lib.cut s.data.toList [35] = (a, b, x) := ⟨_, _, _, rfl⟩
  have e0 : (⟨#[35]⟩ : ByteArray).data.toList = [35] := rfl
  rw [e0, hc] at hcut
  have HC : Hid (Calls Tryd.prog 54 #[.string s, .string ⟨#[35]⟩] wa fun e w' => e = .returned (.tuple #[.string (mk a), .string (mk b), .bool x]) ∧ ∃ n, w' = wa.drewN n) := Lib.hid hcut
  have lens : a.length ≤ s.size ∧ b.length ≤ s.size := by
    have hz := sz s
    unfold Lib.cut at hc
    split at hc <;> simp only [Prod.mk.injEq] at hc
    · rw [← hc.1, ← hc.2.1, List.length_take, List.length_drop]; omega
    · rw [← hc.1, ← hc.2.1]; simp
  have la : Hid ((mk a).size ≤ 1000000) := Lib.hid (by rw [mk_size]; omega)
  have lb : Hid ((mk b).size ≤ 1000000) := Lib.hid (by rw [mk_size]; omega)
  have HBAD : Hid (((∀ v, atoiAll a ≠ .ok v) ∨ (∀ v, atoiAll b ≠ .ok v)) → readOf s.data.toList = none) := Lib.hid (read_bad hc)
  have HOK : Hid (∀ v u, atoiAll a = .ok v → atoiAll b = .ok u → readOf s.data.toList = if textOf v u = s.data.toList then some (v, u) else none) := Lib.hid (fun v u h1 h2 => read_ok (Or.inr ⟨_, hc⟩) h1 h2)
  have ma : Hid ((mk a).data.toList = a) := Lib.hid (mk_toList a)
  have mb : Hid ((mk b).data.toList = b) := Lib.hid (mk_toList b)
  have HS : Hid (∀ l : List UInt8, mk l = s ↔ l = s.data.toList) := Lib.hid (fun l => ⟨fun h => by rw [← h, mk_toList], fun h => by rw [h, mk_data]⟩)
  clear hcut hc lens hm hs he e0
  generalize mk a = ta at *
  generalize mk b = tb at *
  generalize readOf s.data.toList = R at *
  obtain ⟨sl, hsl⟩ : ∃ l, l = s.data.toList := ⟨_, rfl⟩
  rw [← hsl] at HOK HS
  clear hsl
  go_enter Tryd.func28, Tryd.ntmps28
  go_wp2_with fail
  rw [← HE.out]
  refine (HC.out).mono ?_
  rintro e w1 ⟨rfl, n, hw1⟩
  have hb0 : Below wa.heap.size wa w1 := by subst hw1; exact pw_below_drewN (Below.refl _ _) _
  have HB1 : Hid (Below w.heap.size w w1) := Lib.hid (HA.out.trans (hb0.mono HA.out.size))
  have HK1 : Hid (Blk w1 w.heap.size #[.int .i64 0, .int .i64 0] 41) := Lib.hid (HBa.out.below hb0)
  clear hw1 HC hb0 HE HA HBa
  go_wp2_with fail
  refine (atoi ta _ la.out (HENV.out.step HB1.out)).mono ?_
  rintro e w2 ⟨⟨v, ev, rfl, hv, hca⟩, hb⟩
  rw [ma.out] at hca
  have HB2 : Hid (Below w.heap.size w w2) := Lib.hid (HB1.out.trans (hb.mono HB1.out.size))
  have HK2 := Lib.hid (HK1.out.below hb)
  have HCA := Lib.hid hca
  clear hb HB1 hca
  go_wp2_with fail
  refine (atoi tb _ lb.out (HENV.out.step HB2.out)).mono ?_
  rintro e w3 ⟨⟨u, eu, rfl, hu, hcb⟩, hb⟩
  rw [mb.out] at hcb
  have HB3 : Hid (Below w.heap.size w w3) := Lib.hid (HB2.out.trans (hb.mono HB2.out.size))
  have hk3 := HK2.out.below hb
  have HK3 := Lib.hid hk3
  have z0 := hk3.cell (j := 0) rfl
  have z1 := hk3.cell (j := 1) rfl
  clear hb HB2 HK1 HK2 hk3
  have hca := HCA.out
  clear HCA
  rcases hca with ⟨rfl, ha⟩ | ⟨⟨pa, rfl⟩, ha⟩
  · rcases hcb with ⟨rfl, hb⟩ | ⟨⟨pb, rfl⟩, hb⟩
    · have HR := Lib.hid (HOK.out v u ha hb)
      clear ha hb HOK HBAD
      have HT : Hid (∀ wx, Below w.heap.size w wx → Calls Tryd.prog 27 #[.agg #[.int .i64 v, .int .i64 u]] wx fun e w' => e = .returned (.string (mk (textOf v u))) ∧ Below wx.heap.size wx w') := Lib.hid (fun wx hb => text v u wx hv hu (HENV.out.step hb))
      have hS := HS.out (textOf v u)
      clear HS
      by_cases ht : textOf v u = sl
      · have hS' := hS.2 ht
        rw [hS'] at HT
        have HR' := Lib.hid (HR.out.trans (if_pos ht))
        clear hS hS' ht HR
        go_wp2_with fail
        refine (HT.out _ (by first | exact HB3.out | (repeat (first | exact HB3.out | apply below_alloc | apply pw_below_drewN | apply below_drew1)))).mono ?_
        rintro e w4 ⟨rfl, hb⟩
        have hX := (Blk.new w3 #[.int .i64 v, .int .i64 u] 41).below hb
        have hr := (HK3.out.below ((Below.refl _ _).alloc (Nat.le_refl _) (Obj.cells #[Value.int .i64 v, .int .i64 u] 41))).below hb
        have x0 : w4.cell? ⟨w3.heap.size, 0, none⟩ = some (.int .i64 v) := hX.cell (j := 0) rfl
        have x1 : w4.cell? ⟨w3.heap.size, 1, none⟩ = some (.int .i64 u) := hX.cell (j := 1) rfl
        have r0 : w4.cell? ⟨w.heap.size, 0, none⟩ = some (.int .i64 0) := hr.cell (j := 0) rfl
        have r1 : w4.cell? ⟨w.heap.size, 1, none⟩ = some (.int .i64 0) := hr.cell (j := 1) rfl
        have f0 := hr.free 0
        have f1 := hr.free 1
        have HB4 : Hid (Below w.heap.size w w4) := Lib.hid ((HB3.out.trans (((Below.refl _ _).alloc (Nat.le_refl _) _).mono HB3.out.size)).trans (hb.mono (HB3.out.alloc (HB3.out.size) _).size))
        have HRB := Lib.hid hr
        clear hb hX hr z0 z1 HK3 HB3
        go_wp2
        refine bodyPost_ret (results_ct rfl _ _ w.heap.size 41 #[.int .i64 v, .int .i64 u] (0, 0) _ rfl (((HRB.out).set 0 (.int .i64 v)).set 1 (.int .i64 u)) Tryd.underlying41 rfl (by kernel_rfl)) rfl ?_
        exact ⟨by rw [HR'.out]; rfl, ((HB4.out).setCell (Nat.le_refl _) _).setCell (Nat.le_refl _) _⟩
      · have hne : ((mk (textOf v u)).toList == s.toList) = false := beq_eq_false_iff_ne.2 (fun h => ht (hS.1 (toList_inj.1 h)))
        have HR' := Lib.hid (HR.out.trans (if_neg ht))
        generalize mk (textOf v u) = tt at *
        clear hS ht HR
        go_wp2_with fail
        refine (HT.out _ (by first | exact HB3.out | (repeat (first | exact HB3.out | apply below_alloc | apply pw_below_drewN | apply below_drew1)))).mono ?_
        rintro e w4 ⟨rfl, hb⟩
        have hX := (Blk.new w3 #[.int .i64 v, .int .i64 u] 41).below hb
        have hr := (HK3.out.below ((Below.refl _ _).alloc (Nat.le_refl _) (Obj.cells #[Value.int .i64 v, .int .i64 u] 41))).below hb
        have x0 : w4.cell? ⟨w3.heap.size, 0, none⟩ = some (.int .i64 v) := hX.cell (j := 0) rfl
        have x1 : w4.cell? ⟨w3.heap.size, 1, none⟩ = some (.int .i64 u) := hX.cell (j := 1) rfl
        have r0 : w4.cell? ⟨w.heap.size, 0, none⟩ = some (.int .i64 0) := hr.cell (j := 0) rfl
        have r1 : w4.cell? ⟨w.heap.size, 1, none⟩ = some (.int .i64 0) := hr.cell (j := 1) rfl
        have f0 := hr.free 0
        have f1 := hr.free 1
        have HB4 : Hid (Below w.heap.size w w4) := Lib.hid ((HB3.out.trans (((Below.refl _ _).alloc (Nat.le_refl _) _).mono HB3.out.size)).trans (hb.mono (HB3.out.alloc (HB3.out.size) _).size))
        have HRB := Lib.hid hr
        clear hb hX hr z0 z1 HK3 HB3
        go_wp2
        refine bodyPost_ret (results_ct rfl _ _ w.heap.size 41 #[.int .i64 0, .int .i64 0] (0, 0) _ rfl (((HRB.out).set 0 (.int .i64 0)).set 1 (.int .i64 0)) Tryd.underlying41 rfl (by kernel_rfl)) rfl ?_
        exact ⟨by rw [HR'.out]; rfl, ((HB4.out).setCell (Nat.le_refl _) _).setCell (Nat.le_refl _) _⟩
    · have HR := Lib.hid (HBAD.out (Or.inr hb))
      clear ha hb HOK HBAD HS
      have hka := HK3.out.alloc (Obj.cells #[Value.int .i64 v, Value.int .i64 u] 41)
      have y0 : (w3.alloc (Obj.cells #[Value.int .i64 v, Value.int .i64 u] 41)).cell? ⟨w.heap.size, 0, none⟩ = some (.int .i64 0) := hka.cell (j := 0) rfl
      have y1 : (w3.alloc (Obj.cells #[Value.int .i64 v, Value.int .i64 u] 41)).cell? ⟨w.heap.size, 1, none⟩ = some (.int .i64 0) := hka.cell (j := 1) rfl
      have f0 := hka.free 0
      have f1 := hka.free 1
      have HRB := Lib.hid hka
      have HB4 : Hid (Below w.heap.size w (w3.alloc (Obj.cells #[Value.int .i64 v, Value.int .i64 u] 41))) := Lib.hid (HB3.out.alloc (HB3.out.size) _)
      clear hka HB3 HK3
      go_wp2
      refine bodyPost_ret (results_ct rfl _ _ w.heap.size 41 #[.int .i64 0, .int .i64 0] (0, 0) _ rfl (((HRB.out).set 0 (.int .i64 0)).set 1 (.int .i64 0)) Tryd.underlying41 rfl (by kernel_rfl)) rfl ?_
      exact ⟨by rw [HR.out]; rfl, ((HB4.out).setCell (Nat.le_refl _) _).setCell (Nat.le_refl _) _⟩
  · have HR := Lib.hid (HBAD.out (Or.inl ha))
    clear ha HOK HBAD HS
    rcases hcb with ⟨rfl, hb⟩ | ⟨⟨pb, rfl⟩, hb⟩
    · clear hb
      have hka := HK3.out.alloc (Obj.cells #[Value.int .i64 v, Value.int .i64 u] 41)
      have y0 : (w3.alloc (Obj.cells #[Value.int .i64 v, Value.int .i64 u] 41)).cell? ⟨w.heap.size, 0, none⟩ = some (.int .i64 0) := hka.cell (j := 0) rfl
      have y1 : (w3.alloc (Obj.cells #[Value.int .i64 v, Value.int .i64 u] 41)).cell? ⟨w.heap.size, 1, none⟩ = some (.int .i64 0) := hka.cell (j := 1) rfl
      have f0 := hka.free 0
      have f1 := hka.free 1
      have HRB := Lib.hid hka
      have HB4 : Hid (Below w.heap.size w (w3.alloc (Obj.cells #[Value.int .i64 v, Value.int .i64 u] 41))) := Lib.hid (HB3.out.alloc (HB3.out.size) _)
      clear hka HB3 HK3
      go_wp2
      refine bodyPost_ret (results_ct rfl _ _ w.heap.size 41 #[.int .i64 0, .int .i64 0] (0, 0) _ rfl (((HRB.out).set 0 (.int .i64 0)).set 1 (.int .i64 0)) Tryd.underlying41 rfl (by kernel_rfl)) rfl ?_
      exact ⟨by rw [HR.out]; rfl, ((HB4.out).setCell (Nat.le_refl _) _).setCell (Nat.le_refl _) _⟩
    · clear hb
      have hka := HK3.out.alloc (Obj.cells #[Value.int .i64 v, Value.int .i64 u] 41)
      have y0 : (w3.alloc (Obj.cells #[Value.int .i64 v, Value.int .i64 u] 41)).cell? ⟨w.heap.size, 0, none⟩ = some (.int .i64 0) := hka.cell (j := 0) rfl
      have y1 : (w3.alloc (Obj.cells #[Value.int .i64 v, Value.int .i64 u] 41)).cell? ⟨w.heap.size, 1, none⟩ = some (.int .i64 0) := hka.cell (j := 1) rfl
      have f0 := hka.free 0
      have f1 := hka.free 1
      have HRB := Lib.hid hka
      have HB4 : Hid (Below w.heap.size w (w3.alloc (Obj.cells #[Value.int .i64 v, Value.int .i64 u] 41))) := Lib.hid (HB3.out.alloc (HB3.out.size) _)
      clear hka HB3 HK3
      go_wp2
      refine bodyPost_ret (results_ct rfl _ _ w.heap.size 41 #[.int .i64 0, .int .i64 0] (0, 0) _ rfl (((HRB.out).set 0 (.int .i64 0)).set 1 (.int .i64 0)) Tryd.underlying41 rfl (by kernel_rfl)) rfl ?_
      exact ⟨by rw [HR.out]; rfl, ((HB4.out).setCell (Nat.le_refl _) _).setCell (Nat.le_refl _) _⟩

/-- The document's example. -/
def s52 : ByteArray := ⟨#[45, 53, 35, 50]⟩
theorem s52_read : readR (readOf s52.data.toList) = (-5, 2, true) := by decide +kernel
theorem s52_text : mk (textOf (-5) 2) = s52 := by
  unfold textOf
  rw [show (-5 : Int) = -((5 : Nat) : Int) from rfl, itoa_neg 5 (by omega), show (2 : Int) = ((2 : Nat) : Int) from rfl, itoa_nonneg, dec_small (by omega), dec_small (by omega)]
  rfl
set_option maxRecDepth 100000 in
set_option maxHeartbeats 1000000 in
theorem awake (w : World) (he : Env w) : Calls Tryd.prog 24 #[] w fun e w' => e = .returned (.bool true) ∧ Below w.heap.size w w' := by
  have hu41 := Tryd.underlying41
  have CR : Hid (∀ w1, Below w.heap.size w w1 → Calls Tryd.prog 28 #[.string ⟨#[45, 53, 35, 50]⟩] w1 fun e w' => e = .returned (.tuple #[.agg #[.int .i64 (-5), .int .i64 2], .bool true]) ∧ Below w1.heap.size w1 w') := Lib.hid (fun w1 hb => by
    have := read s52 w1 (by decide) (he.step hb)
    rw [s52_read] at this
    exact this)
  have CT : Hid (∀ w1, Below w.heap.size w w1 → Calls Tryd.prog 27 #[.agg #[.int .i64 (-5), .int .i64 2]] w1 fun e w' => e = .returned (.string ⟨#[45, 53, 35, 50]⟩) ∧ Below w1.heap.size w1 w') := Lib.hid (fun w1 hb => by
    have := text (-5) 2 w1 (by unfold In64; omega) (by unfold In64; omega) (he.step hb)
    rw [s52_text] at this
    exact this)
  have CC : Hid (∀ w1, Calls Tryd.prog 25 #[.agg #[.int .i64 (-5), .int .i64 2], .agg #[.int .i64 0, .int .i64 0]] w1 fun e w' => e = .returned (.int .i64 (-1)) ∧ Below w1.heap.size w1 w') := Lib.hid (fun w1 => compare (-5) 2 0 0 w1)
  clear he
  obtain ⟨wa, hwa⟩ : ∃ wa, wa = w.alloc (Obj.cells #[Value.int .i64 (-5), .int .i64 2] 41) := ⟨_, rfl⟩
  have HA : Hid (Below w.heap.size w wa) := by subst hwa; exact (Below.refl _ _).alloc (Nat.le_refl _) _
  have HBa : Hid (Blk wa w.heap.size #[.int .i64 (-5), .int .i64 2] 41) := by subst hwa; exact Blk.new _ _ _
  have HE := Lib.hid hwa
  clear hwa
  go_enter Tryd.func24, Tryd.ntmps24
  go_wp2_with fail
  rw [← HE.out]
  refine (CR.out _ HA.out).mono ?_
  rintro e w1 ⟨rfl, hb⟩
  have HX1 := Lib.hid (HBa.out.below hb)
  have HB1 : Hid (Below w.heap.size w w1) := Lib.hid (HA.out.trans (hb.mono HA.out.size))
  clear hb HE HBa HA
  have hka := HX1.out.alloc (Obj.cells #[Value.int .i64 (-5), Value.int .i64 2] 41)
  have hya : Blk (w1.alloc (Obj.cells #[Value.int .i64 (-5), Value.int .i64 2] 41)) w1.heap.size #[.int .i64 (-5), .int .i64 2] 41 := Blk.new _ _ _
  have x0 : (w1.alloc (Obj.cells #[Value.int .i64 (-5), Value.int .i64 2] 41)).cell? ⟨w.heap.size, 0, none⟩ = some (.int .i64 (-5)) := hka.cell (j := 0) rfl
  have x1 : (w1.alloc (Obj.cells #[Value.int .i64 (-5), Value.int .i64 2] 41)).cell? ⟨w.heap.size, 1, none⟩ = some (.int .i64 2) := hka.cell (j := 1) rfl
  have HBB : Hid (Below w.heap.size w (w1.alloc (Obj.cells #[Value.int .i64 (-5), Value.int .i64 2] 41))) := Lib.hid (HB1.out.alloc (HB1.out.size) _)
  have HK := Lib.hid hka
  have HY := Lib.hid hya
  clear hka hya
  go_wp2_with fail
  refine (CT.out _ HBB.out).mono ?_
  rintro e w2 ⟨rfl, hb⟩
  have hx := HK.out.below hb
  have hy := HY.out.below hb
  have xx0 : w2.cell? ⟨w.heap.size, 0, none⟩ = some (.int .i64 (-5)) := hx.cell (j := 0) rfl
  have xx1 : w2.cell? ⟨w.heap.size, 1, none⟩ = some (.int .i64 2) := hx.cell (j := 1) rfl
  have yy0 : w2.cell? ⟨w1.heap.size, 0, none⟩ = some (.int .i64 (-5)) := hy.cell (j := 0) rfl
  have yy1 : w2.cell? ⟨w1.heap.size, 1, none⟩ = some (.int .i64 2) := hy.cell (j := 1) rfl
  have HB2 : Hid (Below w.heap.size w w2) := Lib.hid (HBB.out.trans (hb.mono HBB.out.size))
  clear hb hx hy HK HY HBB x0 x1 HX1
  go_wp2_with fail
  refine (CC.out _).mono ?_
  rintro e w3 ⟨rfl, hb⟩
  have HB3 : Hid (Below w.heap.size w w3) := Lib.hid (HB2.out.trans (hb.mono HB2.out.size))
  clear hb
  go_wp2
  go_ret
  exact ⟨rfl, HB3.out⟩
end Go.Proofs.YtddmlhcjbifkoaaDoor.Item
