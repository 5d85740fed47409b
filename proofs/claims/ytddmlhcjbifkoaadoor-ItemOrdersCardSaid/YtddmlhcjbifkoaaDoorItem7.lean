/- The law of items' order. No conditions. -/
import Derived.Test.YtddmlhcjbifkoaaDoorItem4
import Derived.Test.YtddmlhcjbifkoaaDoorPItemOrdersx4
namespace Go.Proofs.YtddmlhcjbifkoaaDoor.Item
open Go.Lib Go.RowKit Go.Proofs.YtddmlhcjbifkoaaDoor.Mem Go.Proofs.YtddmlhcjbifkoaaDoorW.PrintWords Go.Proofs.YtddmlhcjbifkoaaDoorW.PrintLast Go.Proofs.YtddmlhcjbifkoaaDoorW.PrintMore Go.Proofs.YtddmlhcjbifkoaaDoor.ItemCmp
noncomputable def T7_3 : Bool × List (List Nat × List Nat) := rtab .any (opsOf Tryd.f7 3)
theorem tab7_3 : rtab .any (opsOf Tryd.f7 3) = T7_3 := rfl
theorem bits7_3 : waitsOk T7_3.2 [0, 0, 3, 0, 0, 31, 0, 0, 255, 511, 1023, 2047] = true := by kernel_rfl
set_option maxRecDepth 100000 in
set_option maxHeartbeats 1000000 in
theorem law_orders (a0 a1 b0 b1 c0 c1 : Int) (w : World) (he : Env w) :
    Calls Tryd.prog 7 #[.agg #[.int .i64 a0, .int .i64 a1], .agg #[.int .i64 b0, .int .i64 b1], .agg #[.int .i64 c0, .int .i64 c1]] w fun e w' => e = .returned (.bool true) ∧ Below w.heap.size w w' := by
  have hu41 := Tryd.underlying41
  have HAW : Hid (∀ w1, Below w.heap.size w w1 → Calls Tryd.prog 24 #[] w1 fun e w' => e = .returned (.bool true) ∧ Below w1.heap.size w1 w') := Lib.hid (fun w1 hb => awake w1 (he.step hb))
  obtain ⟨X, hX⟩ : ∃ X, X = cmpR a0 a1 b0 b1 := ⟨_, rfl⟩
  obtain ⟨Y, hY⟩ : ∃ Y, Y = cmpR b0 b1 c0 c1 := ⟨_, rfl⟩
  obtain ⟨Z, hZ⟩ : ∃ Z, Z = cmpR a0 a1 c0 c1 := ⟨_, rfl⟩
  have CX : Hid (∀ w1, Calls Tryd.prog 25 #[.agg #[.int .i64 a0, .int .i64 a1], .agg #[.int .i64 b0, .int .i64 b1]] w1 fun e w' => e = .returned (.int .i64 X) ∧ Below w1.heap.size w1 w') := Lib.hid (fun w1 => by rw [hX]; exact compare _ _ _ _ w1)
  have CY : Hid (∀ w1, Calls Tryd.prog 25 #[.agg #[.int .i64 b0, .int .i64 b1], .agg #[.int .i64 c0, .int .i64 c1]] w1 fun e w' => e = .returned (.int .i64 Y) ∧ Below w1.heap.size w1 w') := Lib.hid (fun w1 => by rw [hY]; exact compare _ _ _ _ w1)
  have CZ : Hid (∀ w1, Calls Tryd.prog 25 #[.agg #[.int .i64 a0, .int .i64 a1], .agg #[.int .i64 c0, .int .i64 c1]] w1 fun e w' => e = .returned (.int .i64 Z) ∧ Below w1.heap.size w1 w') := Lib.hid (fun w1 => by rw [hZ]; exact compare _ _ _ _ w1)
  have CP : Hid (∀ w1, Calls Tryd.prog 26 #[.agg #[.int .i64 a0, .int .i64 a1], .agg #[.int .i64 b0, .int .i64 b1]] w1 fun e w' => e = .returned (.bool (decide (X < 0))) ∧ Below w1.heap.size w1 w') := Lib.hid (fun w1 => PItemOrders.whilomref02_Ahead.calls _ _ _ _ _ w1 (by
    rw [hX]; unfold PItemOrders.whilomref02_Ahead.f cmpR
    repeat' split
    all_goals (first | (simp; done) | (exfalso; omega) | (simp; omega))))
  have CQ : Hid (∀ w1, Calls Tryd.prog 26 #[.agg #[.int .i64 b0, .int .i64 b1], .agg #[.int .i64 a0, .int .i64 a1]] w1 fun e w' => e = .returned (.bool (decide (0 < X))) ∧ Below w1.heap.size w1 w') := Lib.hid (fun w1 => PItemOrders.whilomref02_Ahead.calls _ _ _ _ _ w1 (by
    rw [hX]; unfold PItemOrders.whilomref02_Ahead.f cmpR
    repeat' split
    all_goals (first | (simp; done) | (exfalso; omega) | (simp; omega))))
  have HXR : Hid (-1 ≤ X ∧ X ≤ 1) := Lib.hid (by rw [hX]; unfold cmpR; repeat' split <;> omega)
  have HYR : Hid (X ≤ 0 → Y ≤ 0 → Z ≤ 0 ∧ (Z = 0 ↔ X = 0 ∧ Y = 0)) := Lib.hid (by
    rw [hX, hY, hZ]; unfold cmpR
    repeat' split
    all_goals omega)
  clear he hX hY hZ

  obtain ⟨wa, hwa⟩ : ∃ wa, wa = ((w.alloc (Obj.cells #[.int .i64 a0, .int .i64 a1] 41)).alloc (Obj.cells #[.int .i64 b0, .int .i64 b1] 41)).alloc (Obj.cells #[.int .i64 c0, .int .i64 c1] 41) := ⟨_, rfl⟩
  have HA : Hid (Below w.heap.size w wa) := by subst hwa; exact (((Below.refl _ _).alloc (Nat.le_refl _) _).alloc (by simp) _).alloc (by simp; omega) _
  have HBa : Hid (Blk wa w.heap.size #[.int .i64 a0, .int .i64 a1] 41) := by subst hwa; exact ((Blk.new _ _ _).alloc _).alloc _
  have HBb : Hid (Blk wa (w.heap.size + 1) #[.int .i64 b0, .int .i64 b1] 41) := by subst hwa; exact (Blk.at_ (by simp) _ _).alloc _
  have HBc : Hid (Blk wa (w.heap.size + 2) #[.int .i64 c0, .int .i64 c1] 41) := by subst hwa; exact Blk.at_ (by simp) _ _
  have HE := Lib.hid hwa
  clear hwa
  go_enter Tryd.func7, Tryd.ntmps7
  go_wp2_with fail
  rw [← HE.out]
  refine (HAW.out _ HA.out).mono ?_
  rintro e w1 ⟨rfl, hb⟩
  have HXA : Hid (Blk w1.drew w.heap.size #[.int .i64 a0, .int .i64 a1] 41) := Lib.hid (HBa.out.below hb).drew
  have HXB : Hid (Blk w1.drew (w.heap.size + 1) #[.int .i64 b0, .int .i64 b1] 41) := Lib.hid (HBb.out.below hb).drew
  have HXC : Hid (Blk w1.drew (w.heap.size + 2) #[.int .i64 c0, .int .i64 c1] 41) := Lib.hid (HBc.out.below hb).drew
  have HD : Hid (Below w.heap.size w w1.drew) := Lib.hid (HA.out.trans (hb.mono HA.out.size)).drew
  clear hb HE HBa HBb HBc HA HAW
  go_wp2_with fail
  refine start_ (n := 12) (S := fun w' => w'.cell? ⟨w.heap.size, 0, none⟩ = some (.int .i64 a0) ∧ w'.cell? ⟨w.heap.size, 1, none⟩ = some (.int .i64 a1) ∧ w'.cell? ⟨(w.heap.size + 1), 0, none⟩ = some (.int .i64 b0) ∧ w'.cell? ⟨(w.heap.size + 1), 1, none⟩ = some (.int .i64 b1) ∧ w'.cell? ⟨(w.heap.size + 2), 0, none⟩ = some (.int .i64 c0) ∧ w'.cell? ⟨(w.heap.size + 2), 1, none⟩ = some (.int .i64 c1)) (ds := []) #[false, false, false, false, false, false, false, false, false, false, false, false] (by kernel_rfl) rfl rfl ⟨(HXA.out.cell (j := 0) rfl).trans rfl, (HXA.out.cell (j := 1) rfl).trans rfl, (HXB.out.cell (j := 0) rfl).trans rfl, (HXB.out.cell (j := 1) rfl).trans rfl, (HXC.out.cell (j := 0) rfl).trans rfl, (HXC.out.cell (j := 1) rfl).trans rfl⟩ (fun hHeld => ?_); refine with_tabW tab7_3 bits7_3 (fun HT_ HW_ => ?_)
  generalize w1.drew = wd at HXA HXB HXC HD hHeld ⊢
  refine take_ (i := 0) (N := some 12) (v := ?_) (a' := ?_) #[true, false, false, false, false, false, false, false, false, false, false, false] rfl rfl (take_ofW HT_.out HW_.out (by kernel_rfl)) (fun _ _ _ h => h) (Or.inl ⟨by rfl, ?_⟩) hHeld ?_ ?_
  rotate_left
  · rintro w' ⟨s0, s1, s2, s3, s4, s5⟩
    go_simp
    with_reducible rfl
  rotate_left
  · simp only [Act.put, List.setIfInBounds_toArray, List.set_cons_zero, List.set_cons_succ]
    rfl
  refine take_ (i := 1) (N := some 13) (v := ?_) (a' := ?_) #[true, true, false, false, false, false, false, false, false, false, false, false] rfl rfl (take_ofW HT_.out HW_.out (by kernel_rfl)) (fun _ _ _ h => h) (Or.inl ⟨by rfl, ?_⟩) hHeld ?_ ?_
  rotate_left
  · rintro w' ⟨s0, s1, s2, s3, s4, s5⟩
    go_simp
    with_reducible rfl
  rotate_left
  · simp only [Act.put, List.setIfInBounds_toArray, List.set_cons_zero, List.set_cons_succ]
    rfl
  refine take_ (i := 3) (N := some 15) (v := ?_) (a' := ?_) #[true, true, false, true, false, false, false, false, false, false, false, false] rfl rfl (take_ofW HT_.out HW_.out (by kernel_rfl)) (fun _ _ _ h => h) (Or.inl ⟨by rfl, ?_⟩) hHeld ?_ ?_
  rotate_left
  · rintro w' ⟨s0, s1, s2, s3, s4, s5⟩
    go_simp
    with_reducible rfl
  rotate_left
  · simp only [Act.put, List.setIfInBounds_toArray, List.set_cons_zero, List.set_cons_succ]
    rfl
  refine take_ (i := 4) (N := some 16) (v := ?_) (a' := ?_) #[true, true, false, true, true, false, false, false, false, false, false, false] rfl rfl (take_ofW HT_.out HW_.out (by kernel_rfl)) (fun _ _ _ h => h) (Or.inl ⟨by rfl, ?_⟩) hHeld ?_ ?_
  rotate_left
  · rintro w' ⟨s0, s1, s2, s3, s4, s5⟩
    go_simp
    with_reducible rfl
  rotate_left
  · simp only [Act.put, List.setIfInBounds_toArray, List.set_cons_zero, List.set_cons_succ]
    rfl
  refine take_ (i := 6) (N := some 18) (v := ?_) (a' := ?_) #[true, true, false, true, true, false, true, false, false, false, false, false] rfl rfl (take_ofW HT_.out HW_.out (by kernel_rfl)) (fun _ _ _ h => h) (Or.inl ⟨by rfl, ?_⟩) hHeld ?_ ?_
  rotate_left
  · rintro w' ⟨s0, s1, s2, s3, s4, s5⟩
    go_simp
    with_reducible rfl
  rotate_left
  · simp only [Act.put, List.setIfInBounds_toArray, List.set_cons_zero, List.set_cons_succ]
    rfl
  refine take_ (i := 7) (N := some 19) (v := ?_) (a' := ?_) #[true, true, false, true, true, false, true, true, false, false, false, false] rfl rfl (take_ofW HT_.out HW_.out (by kernel_rfl)) (fun _ _ _ h => h) (Or.inl ⟨by rfl, ?_⟩) hHeld ?_ ?_
  rotate_left
  · rintro w' ⟨s0, s1, s2, s3, s4, s5⟩
    go_simp
    with_reducible rfl
  rotate_left
  · simp only [Act.put, List.setIfInBounds_toArray, List.set_cons_zero, List.set_cons_succ]
    rfl
  refine one_ (i := 2) (N := some 14) #[true, true, true, true, true, false, true, true, false, false, false, false] rfl rfl (one_of HT_.out (by kernel_rfl)) (by decide) (fun K hK => ?_)
  refine goes_ Tryd.func25 (by kernel_rfl) rfl #[.agg #[.int .i64 a0, .int .i64 a1], .agg #[.int .i64 b0, .int .i64 b1]] (by rfl) rfl rfl (by (try simp only [List.map_toArray, List.map_cons, List.map_nil]); first | done | rfl) ?_
  refine (CX.out _).mono ?_
  rintro e w' ⟨rfl, hb⟩
  refine ⟨_, rfl, ?_⟩
  replace HXA := Lib.hid (HXA.out.below hb)
  replace HXB := Lib.hid (HXB.out.below hb)
  replace HXC := Lib.hid (HXC.out.below hb)
  replace HD := Lib.hid (HD.out.trans (hb.mono HD.out.size))
  clear hb
  refine hK.out _ _ ⟨(HXA.out.cell (j := 0) rfl).trans rfl, (HXA.out.cell (j := 1) rfl).trans rfl, (HXB.out.cell (j := 0) rfl).trans rfl, (HXB.out.cell (j := 1) rfl).trans rfl, (HXC.out.cell (j := 0) rfl).trans rfl, (HXC.out.cell (j := 1) rfl).trans rfl⟩ (fun hHeld => ?_)
  clear hK K
  refine norm_ (a' := ?_) ?_ ?_
  rotate_left
  · show Act.put _ (some 14) _ = _
    simp only [Act.put, List.setIfInBounds_toArray, List.set_cons_zero, List.set_cons_succ]
    rfl
  refine one_ (i := 5) (N := some 17) #[true, true, true, true, true, true, true, true, false, false, false, false] rfl rfl (one_of HT_.out (by kernel_rfl)) (by decide) (fun K hK => ?_)
  refine goes_ Tryd.func25 (by kernel_rfl) rfl #[.agg #[.int .i64 b0, .int .i64 b1], .agg #[.int .i64 c0, .int .i64 c1]] (by rfl) rfl rfl (by (try simp only [List.map_toArray, List.map_cons, List.map_nil]); first | done | rfl) ?_
  refine (CY.out _).mono ?_
  rintro e w' ⟨rfl, hb⟩
  refine ⟨_, rfl, ?_⟩
  replace HXA := Lib.hid (HXA.out.below hb)
  replace HXB := Lib.hid (HXB.out.below hb)
  replace HXC := Lib.hid (HXC.out.below hb)
  replace HD := Lib.hid (HD.out.trans (hb.mono HD.out.size))
  clear hb
  refine hK.out _ _ ⟨(HXA.out.cell (j := 0) rfl).trans rfl, (HXA.out.cell (j := 1) rfl).trans rfl, (HXB.out.cell (j := 0) rfl).trans rfl, (HXB.out.cell (j := 1) rfl).trans rfl, (HXC.out.cell (j := 0) rfl).trans rfl, (HXC.out.cell (j := 1) rfl).trans rfl⟩ (fun hHeld => ?_)
  clear hK K
  refine norm_ (a' := ?_) ?_ ?_
  rotate_left
  · show Act.put _ (some 17) _ = _
    simp only [Act.put, List.setIfInBounds_toArray, List.set_cons_zero, List.set_cons_succ]
    rfl
  refine one_ (i := 8) (N := some 20) #[true, true, true, true, true, true, true, true, true, false, false, false] rfl rfl (one_of HT_.out (by kernel_rfl)) (by decide) (fun K hK => ?_)
  refine goes_ Tryd.func25 (by kernel_rfl) rfl #[.agg #[.int .i64 a0, .int .i64 a1], .agg #[.int .i64 c0, .int .i64 c1]] (by rfl) rfl rfl (by (try simp only [List.map_toArray, List.map_cons, List.map_nil]); first | done | rfl) ?_
  refine (CZ.out _).mono ?_
  rintro e w' ⟨rfl, hb⟩
  refine ⟨_, rfl, ?_⟩
  replace HXA := Lib.hid (HXA.out.below hb)
  replace HXB := Lib.hid (HXB.out.below hb)
  replace HXC := Lib.hid (HXC.out.below hb)
  replace HD := Lib.hid (HD.out.trans (hb.mono HD.out.size))
  clear hb
  refine hK.out _ _ ⟨(HXA.out.cell (j := 0) rfl).trans rfl, (HXA.out.cell (j := 1) rfl).trans rfl, (HXB.out.cell (j := 0) rfl).trans rfl, (HXB.out.cell (j := 1) rfl).trans rfl, (HXC.out.cell (j := 0) rfl).trans rfl, (HXC.out.cell (j := 1) rfl).trans rfl⟩ (fun hHeld => ?_)
  clear hK K
  refine norm_ (a' := ?_) ?_ ?_
  rotate_left
  · show Act.put _ (some 20) _ = _
    simp only [Act.put, List.setIfInBounds_toArray, List.set_cons_zero, List.set_cons_succ]
    rfl
  refine pure_ (i := 9) (N := some 7) (v := ?_) (a' := ?_) #[true, true, true, true, true, true, true, true, true, true, false, false] rfl rfl (any_of HT_.out (by kernel_rfl)) (fun _ _ _ h => h) (Or.inl ⟨by rfl, ?_⟩) ?_ ?_
  rotate_left
  · intro w'
    go_simp
    with_reducible rfl
  rotate_left
  · simp only [Act.put, List.setIfInBounds_toArray, List.set_cons_zero, List.set_cons_succ]
    rfl
  refine pure_ (i := 10) (N := some 8) (v := ?_) (a' := ?_) #[true, true, true, true, true, true, true, true, true, true, true, false] rfl rfl (any_of HT_.out (by kernel_rfl)) (fun _ _ _ h => h) (Or.inl ⟨by rfl, ?_⟩) ?_ ?_
  rotate_left
  · intro w'
    go_simp
    with_reducible rfl
  rotate_left
  · simp only [Act.put, List.setIfInBounds_toArray, List.set_cons_zero, List.set_cons_succ]
    rfl
  refine pure_ (i := 11) (N := some 9) (v := ?_) (a' := ?_) #[true, true, true, true, true, true, true, true, true, true, true, true] rfl rfl (any_of HT_.out (by kernel_rfl)) (fun _ _ _ h => h) (Or.inl ⟨by rfl, ?_⟩) ?_ ?_
  rotate_left
  · intro w'
    go_simp
    with_reducible rfl
  rotate_left
  · simp only [Act.put, List.setIfInBounds_toArray, List.set_cons_zero, List.set_cons_succ]
    rfl
  refine done_ (done_of HT_.out (by kernel_rfl)) ?_
  clear hHeld HT_ HW_ CX CY CZ
  have f0 := (HXA.out.cell (j := 0) rfl).trans rfl
  have f1 := (HXA.out.cell (j := 1) rfl).trans rfl
  have g0 := (HXB.out.cell (j := 0) rfl).trans rfl
  have g1 := (HXB.out.cell (j := 1) rfl).trans rfl
  have hr := HXR.out
  have hr1 : ¬ (X < -1) := by omega
  have hr2 : ¬ (1 < X) := by omega
  clear hr
  go_wp2_with fail
  refine (CP.out _).mono ?_
  rintro e w5 ⟨rfl, hb⟩
  replace HXA := Lib.hid (HXA.out.below hb)
  replace HXB := Lib.hid (HXB.out.below hb)
  replace HD := Lib.hid (HD.out.trans (hb.mono HD.out.size))
  clear hb f0 f1 g0 g1 HXC
  have f0 := (HXA.out.cell (j := 0) rfl).trans rfl
  have f1 := (HXA.out.cell (j := 1) rfl).trans rfl
  have g0 := (HXB.out.cell (j := 0) rfl).trans rfl
  have g1 := (HXB.out.cell (j := 1) rfl).trans rfl
  go_wp2_with fail
  refine (CQ.out _).mono ?_
  rintro e w6 ⟨rfl, hb⟩
  replace HD := Lib.hid (HD.out.trans (hb.mono HD.out.size))
  clear hb f0 f1 g0 g1 HXA HXB CP CQ
  have hyr := HYR.out
  clear HXR HYR
  by_cases p1 : 0 < X
  · clear hyr
    go_wp2
    go_ret
    exact ⟨by first | rfl | simp, HD.out⟩
  · have p1' : X ≤ 0 := by omega
    by_cases p2 : 0 < Y
    · clear hyr p1'
      go_wp2
      go_ret
      exact ⟨by first | rfl | simp, HD.out⟩
    · have p2' : Y ≤ 0 := by omega
      obtain ⟨q1, q2⟩ := hyr p1' p2'
      clear hyr p1' p2'
      by_cases p3 : X = 0 ∧ Y = 0
      · have q3 := q2.2 p3
        obtain ⟨rfl, rfl⟩ := p3
        subst q3
        clear q1 q2 p1 p2 hr1 hr2
        go_wp2
        go_ret
        exact ⟨by first | rfl | simp, HD.out⟩
      · have q3 : (Z == 0) = false := beq_eq_false_iff_ne.2 (fun e => p3 (q2.1 e))
        by_cases p4 : X = 0
        · have q5 : (Y == 0) = false := beq_eq_false_iff_ne.2 (fun e => p3 ⟨p4, e⟩)
          subst p4
          clear p3 q2 p1 hr1 hr2
          go_wp2
          go_ret
          exact ⟨by first | rfl | simp, HD.out⟩
        · have q4 : (X == 0) = false := beq_eq_false_iff_ne.2 p4
          clear p3 q2 p4
          go_wp2
          go_ret
          exact ⟨by first | rfl | simp, HD.out⟩
end Go.Proofs.YtddmlhcjbifkoaaDoor.Item
