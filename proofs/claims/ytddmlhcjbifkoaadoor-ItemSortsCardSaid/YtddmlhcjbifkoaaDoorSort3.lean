/- Comparing two items, for the sort: what Compare answers; the world is as it was, but for draws and new blocks. No conditions. -/
import Derived.Test.YtddmlhcjbifkoaaDoorItem3
import Derived.Test.YtddmlhcjbifkoaaDoorShelfI
import Derived.Test.YtddmlhcjbifkoaaDoorSq
import Derived.Sort.Grow
namespace Go.Proofs.YtddmlhcjbifkoaaDoor.Sort
open Go Go.RowKit Go.Lib Go.Proofs.YtddmlhcjbifkoaaDoor.ItemCmp Go.Proofs.YtddmlhcjbifkoaaDoor.Mem Go.Proofs.YtddmlhcjbifkoaaDoor.Item Go.Proofs.YtddmlhcjbifkoaaDoorW.PrintWords Go.Proofs.YtddmlhcjbifkoaaDoorW.PrintLast
/-- Draws and new blocks alone. -/
def Gr (W w : World) : Prop := ∃ q os, w = Sort.grow (W.drewN q) os
theorem Gr.refl (W : World) : Gr W W := ⟨0, #[], (Go.Sort.grow_empty _).symm⟩
theorem Gr.alloc {W w : World} (h : Gr W w) (o : Obj) : Gr W (w.alloc o) := by
  obtain ⟨q, os, rfl⟩ := h
  exact ⟨q, os ++ #[o], by rw [Go.Sort.alloc_eq_grow, Go.Sort.grow_grow]⟩
theorem Gr.drewN {W w : World} (h : Gr W w) (n : Nat) : Gr W (w.drewN n) := by
  obtain ⟨q, os, rfl⟩ := h
  refine ⟨q + n, os, ?_⟩
  rw [← World.drewN_drewN]
  rfl
theorem Gr.drew {W w : World} (h : Gr W w) : Gr W w.drew := h.drewN 1
theorem or_two (a b : Int) : cmp_Or_int.f 9 [a, b] = some (if a = 0 then b else a) := by
  by_cases h : a = 0
  · subst h
    by_cases h : b = 0
    · subst h; decide +kernel
    · simp [cmp_Or_int.f, cmp_Or_int.l0, rd, wrap64_in 1 (by omega), h]
  · simp [cmp_Or_int.f, cmp_Or_int.l0, rd, h]
theorem C_two {w : World} {B : Nat} {a b : Int} (h : Blk w B #[.int .i64 a, .int .i64 b] 3) : Kd.C (Kd.int .i64) w (some ⟨B, 0, none⟩) 2 [a, b] := by
  refine ⟨rfl, by decide, fun _ => ⟨⟨B, 0, none⟩, rfl, fun j p hj => ?_⟩⟩
  match j, hj with
  | 0, hj =>
    cases hj
    refine ⟨[.int .i64 a], rfl, rfl, fun i u hi => ?_⟩
    match i, hi with
    | 0, hi => cases hi; exact h.cell (j := 0) rfl
  | 1, hj =>
    cases hj
    refine ⟨[.int .i64 b], rfl, rfl, fun i u hi => ?_⟩
    match i, hi with
    | 0, hi => cases hi; exact h.cell (j := 1) rfl
theorem or_calls (w : World) (B : Nat) (a b : Int) (h : Blk w B #[.int .i64 a, .int .i64 b] 3) : Calls Tryd.prog 51 #[.slice (some ⟨B, 0, none⟩) 2 2] w fun e w' => e = .returned (.int .i64 (if a = 0 then b else a)) ∧ ∃ n, w' = w.drewN n :=
  (cmp_Or_int.calls 9 (some ⟨B, 0, none⟩) 2 [a, b] _ w (C_two h) (Nat.le_refl _) (or_two a b)).mono fun _ _ hh => ⟨hh.1, hh.2.out⟩
theorem cmpR_or (a b c d : Int) : (if Lib.compareInt a c = 0 then Lib.compareInt b d else Lib.compareInt a c) = cmpR a b c d := by
  unfold Lib.compareInt cmpR
  by_cases h1 : a < c
  · rw [if_pos h1, if_pos h1]; rfl
  · rw [if_neg h1, if_neg h1]
    by_cases h2 : c < a
    · simp [h2]
    · have : a = c := by omega
      simp only [this, Int.lt_irrefl, if_false, if_true]
set_option maxRecDepth 100000 in
set_option maxHeartbeats 8000000 in
theorem closureI (a b c d : Int) (W : World) : Calls Tryd.prog 25 #[.agg #[.int .i64 a, .int .i64 b], .agg #[.int .i64 c, .int .i64 d]] W fun e w' => e = .returned (.int .i64 (cmpR a b c d)) ∧ Gr W w' := by
  have HC := Lib.hid Tryd.cmp_Compare_int
  have HO := Lib.hid or_calls
  have hu41 := Tryd.underlying41
  go_enter Tryd.func25, Tryd.ntmps25
  go_wp2_with fail
  have HG : Hid (Gr W ((W.alloc (.cells #[.int .i64 a, .int .i64 b] 41)).alloc (.cells #[.int .i64 c, .int .i64 d] 41)).drew) := Lib.hid (((Gr.refl W).alloc _).alloc _).drew
  have HX : Hid (Blk ((W.alloc (.cells #[.int .i64 a, .int .i64 b] 41)).alloc (.cells #[.int .i64 c, .int .i64 d] 41)).drew W.heap.size #[.int .i64 a, .int .i64 b] 41) := Lib.hid ((Blk.new _ _ _).alloc _).drew
  have HY : Hid (Blk ((W.alloc (.cells #[.int .i64 a, .int .i64 b] 41)).alloc (.cells #[.int .i64 c, .int .i64 d] 41)).drew (W.heap.size + 1) #[.int .i64 c, .int .i64 d] 41) := Lib.hid (Blk.at_ (by simp) _ _).drew
  refine Sq.region_ (fun w' => w'.cell? ⟨W.heap.size, 0, none⟩ = some (.int .i64 a) ∧ w'.cell? ⟨W.heap.size, 1, none⟩ = some (.int .i64 b) ∧ w'.cell? ⟨W.heap.size + 1, 0, none⟩ = some (.int .i64 c) ∧ w'.cell? ⟨W.heap.size + 1, 1, none⟩ = some (.int .i64 d)) [4, 9, 10, 11] [(0, some 5), (1, some 6), (2, some 7), (3, some 8), (5, some 10), (6, some 11), (7, some 12), (8, some 13), (4, some 9), (9, some 14), (10, some 15), (11, some 16), (12, some 4)] (by kernel_rfl) rfl (by kernel_rfl) (fun _ _ N _ _ h => by cases N <;> exact h) ⟨HX.out.cell (j := 0) rfl, HX.out.cell (j := 1) rfl, HY.out.cell (j := 0) rfl, HY.out.cell (j := 1) rfl⟩ (fun hHeld => ?_)
  generalize ((W.alloc (.cells #[.int .i64 a, .int .i64 b] 41)).alloc (.cells #[.int .i64 c, .int .i64 d] 41)).drew = wd at *
  repeat (first | (refine Sq.q_ (v := ?_) (a' := ?_) rfl rfl rfl (by rfl) ?_ ?_ ?_; rotate_left 2; (· (rintro w' ⟨s0, s1, s2, s3⟩; go_simp; (first | with_reducible rfl | rw [if_neg (by omega)]))); (· (simp only [Act.put, List.setIfInBounds_toArray, List.set_cons_zero, List.set_cons_succ]; rfl))) | (refine Sq.o_ (a' := ?_) rfl rfl rfl (by rfl) ?_ ?_; rotate_left 1; (· (simp only [Act.put, List.setIfInBounds_toArray, List.set_cons_zero, List.set_cons_succ]; rfl))))
  refine Sq.c_ #[.int .i64 a, .int .i64 c] Tryd.func52 (by kernel_rfl) rfl rfl rfl rfl (by rfl) rfl (by (try simp only [List.map_toArray, List.map_cons, List.map_nil]); first | done | rfl) ?_
  refine (HC.out _ _ _).mono ?_
  rintro e w1 ⟨rfl, rfl⟩
  refine ⟨_, ?_, rfl, ?_, hHeld, fun hHeld' => ?_⟩
  rotate_left 1
  (· (simp only [Act.put, List.setIfInBounds_toArray, List.set_cons_zero, List.set_cons_succ]; rfl))
  refine Sq.c_ #[.int .i64 b, .int .i64 d] Tryd.func52 (by kernel_rfl) rfl rfl rfl rfl (by rfl) rfl (by (try simp only [List.map_toArray, List.map_cons, List.map_nil]); first | done | rfl) ?_
  refine (HC.out _ _ _).mono ?_
  rintro e w1 ⟨rfl, rfl⟩
  refine ⟨_, ?_, rfl, ?_, hHeld, fun hHeld' => ?_⟩
  rotate_left 1
  (· (simp only [Act.put, List.setIfInBounds_toArray, List.set_cons_zero, List.set_cons_succ]; rfl))
  generalize hr1 : Lib.compareInt a c = r1
  generalize hr2 : Lib.compareInt b d = r2
  refine Sq.v_ (v := .slice (some ⟨w1.heap.size, 0, none⟩) 2 2) (w1 := w1.alloc (Obj.cells #[.int .i64 r1, .int .i64 r2] 3)) (a' := ?_) rfl rfl rfl (by rfl) (by go_simp; try rfl) ?_ ⟨(HX.out.alloc _).cell (j := 0) rfl, (HX.out.alloc _).cell (j := 1) rfl, (HY.out.alloc _).cell (j := 0) rfl, (HY.out.alloc _).cell (j := 1) rfl⟩ (fun hH2 => ?_)
  rotate_left 1
  (· (simp only [Act.put, List.setIfInBounds_toArray, List.set_cons_zero, List.set_cons_succ]; rfl))
  refine Sq.c_ #[.slice (some ⟨w1.heap.size, 0, none⟩) 2 2] Tryd.func51 (by kernel_rfl) rfl rfl rfl rfl (by rfl) rfl (by (try simp only [List.map_toArray, List.map_cons, List.map_nil]); first | done | rfl) ?_
  refine (HO.out _ _ _ _ (Blk.new _ _ _)).mono ?_
  rintro e w2 ⟨rfl, n, rfl⟩
  generalize hq : (if r1 = 0 then r2 else r1) = rr
  have HQ : Hid (rr = cmpR a b c d) := Lib.hid (by rw [← hq, ← hr1, ← hr2]; exact cmpR_or a b c d)
  clear hq hr1 hr2
  refine ⟨_, ?_, rfl, ?_, hH2, fun hHeld' => ?_⟩
  rotate_left 1
  (· (simp only [Act.put, List.setIfInBounds_toArray, List.set_cons_zero, List.set_cons_succ]; rfl))
  repeat (first | (refine Sq.q_ (v := ?_) (a' := ?_) rfl rfl rfl (by rfl) ?_ ?_ ?_; rotate_left 2; (· (rintro w' ⟨s0, s1, s2, s3⟩; go_simp; (first | with_reducible rfl | rw [if_neg (by omega)]))); (· (simp only [Act.put, List.setIfInBounds_toArray, List.set_cons_zero, List.set_cons_succ]; rfl))) | (refine Sq.o_ (a' := ?_) rfl rfl rfl (by rfl) ?_ ?_; rotate_left 1; (· (simp only [Act.put, List.setIfInBounds_toArray, List.set_cons_zero, List.set_cons_succ]; rfl))))
  refine Sq.e_ ?_
  go_wp2_with fail
  go_ret
  exact ⟨by rw [← HQ.out]; rfl, (HG.out.alloc _).drewN _⟩
end Go.Proofs.YtddmlhcjbifkoaaDoor.Sort
