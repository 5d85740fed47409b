/- The law on numbers' and handles' texts. No conditions. -/
import Derived.Test.YtddmlhcjbifkoaaDoorVerbA
namespace Go.Proofs.YtddmlhcjbifkoaaDoor.Verb
open Go.Lib Go.RowKit Go.Proofs.YtddmlhcjbifkoaaDoor.Mem Go.Proofs.YtddmlhcjbifkoaaDoorW.PrintWords Go.Proofs.YtddmlhcjbifkoaaDoor.Item Go.Proofs.YtddmlhcjbifkoaaDoor.PVerbShows Go.Proofs.YtddmlhcjbifkoaaDoor.PItemReads
set_option maxRecDepth 100000 in
set_option maxHeartbeats 1000000 in
theorem refHandle (i g : Int) (w : World) (hi : In64 i) (hg : In64 g) :
    Calls Tryd.prog 37 #[.agg #[.int .i64 i, .int .i64 g]] w fun e w' => e = .returned (.string (mk (handleTxt i g))) ∧ Below w.heap.size w w' := by
  have hu50 := Tryd.underlying50
  by_cases h0 : i < 0
  · have E : Hid (mk (handleTxt i g) = (⟨#[]⟩ : ByteArray)) := Lib.hid (by unfold handleTxt; rw [if_pos (Or.inl h0)]; rfl)
    have t0 : decide (i < 0) = true := decide_eq_true h0
    clear hi hg h0
    go_enter Tryd.func37, Tryd.ntmps37
    go_wp2_with fail
    go_ret
    exact ⟨by rw [E.out]; rfl, (Below.refl _ _).alloc (Nat.le_refl _) _⟩
  have t0 : decide (i < 0) = false := decide_eq_false h0
  by_cases h1 : g < 0
  · have E : Hid (mk (handleTxt i g) = (⟨#[]⟩ : ByteArray)) := Lib.hid (by unfold handleTxt; rw [if_pos (Or.inr h1)]; rfl)
    have t1 : decide (g < 0) = true := decide_eq_true h1
    clear hi hg h0 h1
    go_enter Tryd.func37, Tryd.ntmps37
    go_wp2_with fail
    go_ret
    exact ⟨by rw [E.out]; rfl, (Below.refl _ _).alloc (Nat.le_refl _) _⟩
  have t1 : decide (g < 0) = false := decide_eq_false h1
  have CA : Hid (∀ w1, Below w.heap.size w w1 → Calls Tryd.prog 35 #[.int .i64 i] w1 fun e w' => e = .returned (.string (mk (itoa i))) ∧ Below w1.heap.size w1 w') := Lib.hid (fun w1 hb => whilomref02_Number.calls 30 i _ w1 (number_ev hi (Nat.le_refl _)))
  have CG : Hid (∀ w1, Below w.heap.size w w1 → Calls Tryd.prog 35 #[.int .i64 g] w1 fun e w' => e = .returned (.string (mk (itoa g))) ∧ Below w1.heap.size w1 w') := Lib.hid (fun w1 hb => whilomref02_Number.calls 30 g _ w1 (number_ev hg (Nat.le_refl _)))
  have E : Hid ((mk (itoa i) ++ (⟨#[46]⟩ : ByteArray)) ++ mk (itoa g) = mk (handleTxt i g)) := Lib.hid (by unfold handleTxt; rw [if_neg (by omega), hText_mk])
  have l1 : (mk (itoa i)).size ≤ 20 := by rw [mk_size]; exact itoa_len hi
  have l2 : (mk (itoa g)).size ≤ 20 := by rw [mk_size]; exact itoa_len hg
  have l3 : (mk (itoa i) ++ (⟨#[46]⟩ : ByteArray)).size ≤ 21 := by
    rw [show (⟨#[46]⟩ : ByteArray) = mk [46] from rfl, mk_append, mk_size, List.length_append]
    have := itoa_len hi
    simp; omega
  generalize mk (itoa i) = ti at *
  generalize mk (itoa g) = tg at *
  have l4 : ti.size + 1 ≤ 9223372036854775807 := by omega
  have l5 : (ti ++ (⟨#[46]⟩ : ByteArray)).size + tg.size ≤ 9223372036854775807 := by omega
  clear hi hg h0 h1
  go_enter Tryd.func37, Tryd.ntmps37
  go_wp2_with fail
  have HX : Hid (Blk (w.alloc (Obj.cells #[Value.int .i64 i, .int .i64 g] 50)).drew w.heap.size #[.int .i64 i, .int .i64 g] 50) := Lib.hid (Blk.new _ _ _).drew
  have HB : Hid (Below w.heap.size w (w.alloc (Obj.cells #[Value.int .i64 i, .int .i64 g] 50)).drew) := Lib.hid ((Below.refl _ _).alloc (Nat.le_refl _) _).drew
  refine Sq.region_ (fun w' => w'.cell? ⟨w.heap.size, 0, none⟩ = some (.int .i64 i) ∧ w'.cell? ⟨w.heap.size, 1, none⟩ = some (.int .i64 g)) [2, 6] [(0, some 11), (1, some 12), (4, some 15), (5, some 16), (2, some 13), (3, some 14), (6, some 17), (7, some 18), (8, some 2)] (by kernel_rfl) rfl (by kernel_rfl) (fun _ _ N _ _ h => by cases N <;> exact h) ⟨HX.out.cell (j := 0) rfl, HX.out.cell (j := 1) rfl⟩ (fun hHeld => ?_)
  generalize (w.alloc (Obj.cells #[Value.int .i64 i, .int .i64 g] 50)).drew = wd at *
  repeat (first | (refine Sq.q_ (v := ?_) (a' := ?_) rfl rfl rfl (by rfl) ?_ ?_ ?_; rotate_left 2; (· (rintro w' ⟨s0, s1⟩; go_simp; (first | with_reducible rfl | rw [if_neg (by omega)]))); (· (simp only [Act.put, List.setIfInBounds_toArray, List.set_cons_zero, List.set_cons_succ]; rfl))) | (refine Sq.o_ (a' := ?_) rfl rfl rfl (by rfl) ?_ ?_; rotate_left 1; (· (simp only [Act.put, List.setIfInBounds_toArray, List.set_cons_zero, List.set_cons_succ]; rfl))))
  refine Sq.c_ #[.int .i64 i] Tryd.func35 (by kernel_rfl) rfl rfl rfl rfl (by rfl) rfl (by (try simp only [List.map_toArray, List.map_cons, List.map_nil]); first | done | rfl) ?_
  refine (CA.out _ HB.out).mono ?_
  rintro e w1 ⟨rfl, hb⟩
  have HX' := Lib.hid (HX.out.below hb)
  have HB' := Lib.hid (HB.out.trans (hb.mono HB.out.size))
  clear hb HX HB
  have HX := HX'
  have HB := HB'
  clear HX' HB'
  refine ⟨_, ?_, rfl, ?_, ⟨HX.out.cell (j := 0) rfl, HX.out.cell (j := 1) rfl⟩, fun hHeld' => ?_⟩
  rotate_left 1
  (· (simp only [Act.put, List.setIfInBounds_toArray, List.set_cons_zero, List.set_cons_succ]; rfl))
  clear hHeld
  have hHeld := hHeld'
  clear hHeld'
  repeat (first | (refine Sq.q_ (v := ?_) (a' := ?_) rfl rfl rfl (by rfl) ?_ ?_ ?_; rotate_left 2; (· (rintro w' ⟨s0, s1⟩; go_simp; (first | with_reducible rfl | rw [if_neg (by omega)]))); (· (simp only [Act.put, List.setIfInBounds_toArray, List.set_cons_zero, List.set_cons_succ]; rfl))) | (refine Sq.o_ (a' := ?_) rfl rfl rfl (by rfl) ?_ ?_; rotate_left 1; (· (simp only [Act.put, List.setIfInBounds_toArray, List.set_cons_zero, List.set_cons_succ]; rfl))))
  refine Sq.c_ #[.int .i64 g] Tryd.func35 (by kernel_rfl) rfl rfl rfl rfl (by rfl) rfl (by (try simp only [List.map_toArray, List.map_cons, List.map_nil]); first | done | rfl) ?_
  refine (CG.out _ HB.out).mono ?_
  rintro e w1 ⟨rfl, hb⟩
  have HX' := Lib.hid (HX.out.below hb)
  have HB' := Lib.hid (HB.out.trans (hb.mono HB.out.size))
  clear hb HX HB
  have HX := HX'
  have HB := HB'
  clear HX' HB'
  refine ⟨_, ?_, rfl, ?_, ⟨HX.out.cell (j := 0) rfl, HX.out.cell (j := 1) rfl⟩, fun hHeld' => ?_⟩
  rotate_left 1
  (· (simp only [Act.put, List.setIfInBounds_toArray, List.set_cons_zero, List.set_cons_succ]; rfl))
  clear hHeld
  have hHeld := hHeld'
  clear hHeld'
  repeat (first | (refine Sq.q_ (v := ?_) (a' := ?_) rfl rfl rfl (by rfl) ?_ ?_ ?_; rotate_left 2; (· (rintro w' ⟨s0, s1⟩; go_simp; (first | with_reducible rfl | rw [if_neg (by omega)]))); (· (simp only [Act.put, List.setIfInBounds_toArray, List.set_cons_zero, List.set_cons_succ]; rfl))) | (refine Sq.o_ (a' := ?_) rfl rfl rfl (by rfl) ?_ ?_; rotate_left 1; (· (simp only [Act.put, List.setIfInBounds_toArray, List.set_cons_zero, List.set_cons_succ]; rfl))))
  refine Sq.e_ ?_
  go_wp2_with fail
  go_ret
  exact ⟨by rw [← E.out]; rfl, HB.out⟩

set_option maxRecDepth 100000 in
set_option maxHeartbeats 1000000 in
theorem law_texts (n i g : Int) (w : World) (hn : In64 n) (hi : In64 i) (hg : In64 g) (hT : Tbl w) (he : Env w) :
    Calls Tryd.prog 12 #[.int .i64 n, .agg #[.int .i64 i, .int .i64 g]] w fun e w' => e = .returned (.bool true) ∧ Below w.heap.size w w' := by
  have hu50 := Tryd.underlying50
  have HAW : Hid (∀ w1, Below w.heap.size w w1 → Calls Tryd.prog 31 #[] w1 fun e w' => e = .returned (.bool true) ∧ Below w1.heap.size w1 w') := Lib.hid (fun w1 hb => awake31 w1 (hT.step hb) (he.step hb))
  have C1 : Hid (∀ w1, Below w.heap.size w w1 → Calls Tryd.prog 34 #[.int .i64 n] w1 fun e w' => e = .returned (.string (mk (itoa n))) ∧ Below w1.heap.size w1 w') := Lib.hid (fun w1 hb => number_ n w1 hn (he.step hb))
  have C2 : Hid (∀ w1, Calls Tryd.prog 35 #[.int .i64 n] w1 fun e w' => e = .returned (.string (mk (itoa n))) ∧ Below w1.heap.size w1 w') := Lib.hid (fun w1 => whilomref02_Number.calls 30 n _ w1 (number_ev hn (Nat.le_refl _)))
  have C3 : Hid (∀ w1, Below w.heap.size w w1 → Calls Tryd.prog 36 #[.agg #[.int .i64 i, .int .i64 g]] w1 fun e w' => e = .returned (.string (mk (handleTxt i g))) ∧ Below w1.heap.size w1 w') := Lib.hid (fun w1 hb => handle_ i g w1 hi hg (he.step hb))
  have C4 : Hid (∀ w1, Calls Tryd.prog 37 #[.agg #[.int .i64 i, .int .i64 g]] w1 fun e w' => e = .returned (.string (mk (handleTxt i g))) ∧ Below w1.heap.size w1 w') := Lib.hid (fun w1 => refHandle i g w1 hi hg)
  generalize mk (itoa n) = tn at *
  generalize mk (handleTxt i g) = th at *
  clear hn hi hg hT he
  obtain ⟨wa, hwa⟩ : ∃ wa, wa = w.alloc (Obj.cells #[Value.int .i64 i, .int .i64 g] 50) := ⟨_, rfl⟩
  have HA : Hid (Below w.heap.size w wa) := by subst hwa; exact Lib.hid ((Below.refl _ _).alloc (Nat.le_refl _) _)
  have HBa : Hid (Blk wa w.heap.size #[.int .i64 i, .int .i64 g] 50) := by subst hwa; exact Lib.hid (Blk.new _ _ _)
  have HE := Lib.hid hwa
  clear hwa
  go_enter Tryd.func12, Tryd.ntmps12
  go_wp2_with fail
  rw [← HE.out]
  refine (HAW.out _ HA.out).mono ?_
  rintro e w1 ⟨rfl, hb⟩
  have HX : Hid (Blk w1.drew w.heap.size #[.int .i64 i, .int .i64 g] 50) := Lib.hid (HBa.out.below hb).drew
  have HB : Hid (Below w.heap.size w w1.drew) := Lib.hid (HA.out.trans (hb.mono HA.out.size)).drew
  clear hb HE HBa HA HAW
  go_wp2_with fail
  refine Sq.region_ (fun w' => w'.cell? ⟨w.heap.size, 0, none⟩ = some (.int .i64 i) ∧ w'.cell? ⟨w.heap.size, 1, none⟩ = some (.int .i64 g)) [1, 3, 7, 9] [(0, some 7), (2, some 9), (1, some 8), (3, some 10), (4, some 11), (5, some 12), (6, some 13), (8, some 15), (7, some 14), (9, some 16), (10, some 17), (11, some 18), (12, some 4)] (by kernel_rfl) rfl (by kernel_rfl) (fun _ _ N _ _ h => by cases N <;> exact h) ⟨HX.out.cell (j := 0) rfl, HX.out.cell (j := 1) rfl⟩ (fun hHeld => ?_)
  generalize w1.drew = wd at *
  repeat (first | (refine Sq.q_ (v := ?_) (a' := ?_) rfl rfl rfl (by rfl) ?_ ?_ ?_; rotate_left 2; (· (rintro w' ⟨s0, s1⟩; go_simp; (first | with_reducible rfl | rw [if_neg (by omega)]))); (· (simp only [Act.put, List.setIfInBounds_toArray, List.set_cons_zero, List.set_cons_succ]; rfl))) | (refine Sq.o_ (a' := ?_) rfl rfl rfl (by rfl) ?_ ?_; rotate_left 1; (· (simp only [Act.put, List.setIfInBounds_toArray, List.set_cons_zero, List.set_cons_succ]; rfl))))
  refine Sq.c_ #[.int .i64 n] Tryd.func34 (by kernel_rfl) rfl rfl rfl rfl (by rfl) rfl (by (try simp only [List.map_toArray, List.map_cons, List.map_nil]); first | done | rfl) ?_
  refine (C1.out _ HB.out).mono ?_
  rintro e w2 ⟨rfl, hb⟩
  have HX' := Lib.hid (HX.out.below hb)
  have HB' := Lib.hid (HB.out.trans (hb.mono HB.out.size))
  clear hb HX HB
  have HX := HX'
  have HB := HB'
  clear HX' HB'
  refine ⟨_, ?_, rfl, ?_, ⟨HX.out.cell (j := 0) rfl, HX.out.cell (j := 1) rfl⟩, fun hHeld' => ?_⟩
  rotate_left 1
  (· (simp only [Act.put, List.setIfInBounds_toArray, List.set_cons_zero, List.set_cons_succ]; rfl))
  clear hHeld
  have hHeld := hHeld'
  clear hHeld'
  repeat (first | (refine Sq.q_ (v := ?_) (a' := ?_) rfl rfl rfl (by rfl) ?_ ?_ ?_; rotate_left 2; (· (rintro w' ⟨s0, s1⟩; go_simp; (first | with_reducible rfl | rw [if_neg (by omega)]))); (· (simp only [Act.put, List.setIfInBounds_toArray, List.set_cons_zero, List.set_cons_succ]; rfl))) | (refine Sq.o_ (a' := ?_) rfl rfl rfl (by rfl) ?_ ?_; rotate_left 1; (· (simp only [Act.put, List.setIfInBounds_toArray, List.set_cons_zero, List.set_cons_succ]; rfl))))
  refine Sq.c_ #[.int .i64 n] Tryd.func35 (by kernel_rfl) rfl rfl rfl rfl (by rfl) rfl (by (try simp only [List.map_toArray, List.map_cons, List.map_nil]); first | done | rfl) ?_
  refine (C2.out _).mono ?_
  rintro e w3 ⟨rfl, hb⟩
  have HX' := Lib.hid (HX.out.below hb)
  have HB' := Lib.hid (HB.out.trans (hb.mono HB.out.size))
  clear hb HX HB
  have HX := HX'
  have HB := HB'
  clear HX' HB'
  refine ⟨_, ?_, rfl, ?_, ⟨HX.out.cell (j := 0) rfl, HX.out.cell (j := 1) rfl⟩, fun hHeld' => ?_⟩
  rotate_left 1
  (· (simp only [Act.put, List.setIfInBounds_toArray, List.set_cons_zero, List.set_cons_succ]; rfl))
  clear hHeld
  have hHeld := hHeld'
  clear hHeld'
  repeat (first | (refine Sq.q_ (v := ?_) (a' := ?_) rfl rfl rfl (by rfl) ?_ ?_ ?_; rotate_left 2; (· (rintro w' ⟨s0, s1⟩; go_simp; (first | with_reducible rfl | rw [if_neg (by omega)]))); (· (simp only [Act.put, List.setIfInBounds_toArray, List.set_cons_zero, List.set_cons_succ]; rfl))) | (refine Sq.o_ (a' := ?_) rfl rfl rfl (by rfl) ?_ ?_; rotate_left 1; (· (simp only [Act.put, List.setIfInBounds_toArray, List.set_cons_zero, List.set_cons_succ]; rfl))))
  refine Sq.c_ #[.agg #[.int .i64 i, .int .i64 g]] Tryd.func36 (by kernel_rfl) rfl rfl rfl rfl (by rfl) rfl (by (try simp only [List.map_toArray, List.map_cons, List.map_nil]); first | done | rfl) ?_
  refine (C3.out _ HB.out).mono ?_
  rintro e w4 ⟨rfl, hb⟩
  have HX' := Lib.hid (HX.out.below hb)
  have HB' := Lib.hid (HB.out.trans (hb.mono HB.out.size))
  clear hb HX HB
  have HX := HX'
  have HB := HB'
  clear HX' HB'
  refine ⟨_, ?_, rfl, ?_, ⟨HX.out.cell (j := 0) rfl, HX.out.cell (j := 1) rfl⟩, fun hHeld' => ?_⟩
  rotate_left 1
  (· (simp only [Act.put, List.setIfInBounds_toArray, List.set_cons_zero, List.set_cons_succ]; rfl))
  clear hHeld
  have hHeld := hHeld'
  clear hHeld'
  repeat (first | (refine Sq.q_ (v := ?_) (a' := ?_) rfl rfl rfl (by rfl) ?_ ?_ ?_; rotate_left 2; (· (rintro w' ⟨s0, s1⟩; go_simp; (first | with_reducible rfl | rw [if_neg (by omega)]))); (· (simp only [Act.put, List.setIfInBounds_toArray, List.set_cons_zero, List.set_cons_succ]; rfl))) | (refine Sq.o_ (a' := ?_) rfl rfl rfl (by rfl) ?_ ?_; rotate_left 1; (· (simp only [Act.put, List.setIfInBounds_toArray, List.set_cons_zero, List.set_cons_succ]; rfl))))
  refine Sq.c_ #[.agg #[.int .i64 i, .int .i64 g]] Tryd.func37 (by kernel_rfl) rfl rfl rfl rfl (by rfl) rfl (by (try simp only [List.map_toArray, List.map_cons, List.map_nil]); first | done | rfl) ?_
  refine (C4.out _).mono ?_
  rintro e w5 ⟨rfl, hb⟩
  have HX' := Lib.hid (HX.out.below hb)
  have HB' := Lib.hid (HB.out.trans (hb.mono HB.out.size))
  clear hb HX HB
  have HX := HX'
  have HB := HB'
  clear HX' HB'
  refine ⟨_, ?_, rfl, ?_, ⟨HX.out.cell (j := 0) rfl, HX.out.cell (j := 1) rfl⟩, fun hHeld' => ?_⟩
  rotate_left 1
  (· (simp only [Act.put, List.setIfInBounds_toArray, List.set_cons_zero, List.set_cons_succ]; rfl))
  clear hHeld
  have hHeld := hHeld'
  clear hHeld'
  repeat (first | (refine Sq.q_ (v := ?_) (a' := ?_) rfl rfl rfl (by rfl) ?_ ?_ ?_; rotate_left 2; (· (rintro w' ⟨s0, s1⟩; go_simp; (first | with_reducible rfl | rw [if_neg (by omega)]))); (· (simp only [Act.put, List.setIfInBounds_toArray, List.set_cons_zero, List.set_cons_succ]; rfl))) | (refine Sq.o_ (a' := ?_) rfl rfl rfl (by rfl) ?_ ?_; rotate_left 1; (· (simp only [Act.put, List.setIfInBounds_toArray, List.set_cons_zero, List.set_cons_succ]; rfl))))
  refine Sq.e_ ?_
  go_wp2_with fail
  go_ret
  exact ⟨by simp, HB.out⟩
end Go.Proofs.YtddmlhcjbifkoaaDoor.Verb
