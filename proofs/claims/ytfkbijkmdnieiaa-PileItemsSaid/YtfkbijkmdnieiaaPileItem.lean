/- The contracts of a pile of items: at, Push, Top, Pop, Len, over any world in which the pile lies. No conditions. -/
import Derived.Test.YtfkbijkmdnieiaaPileInt
import Derived.Test.YtfkbijkmdnieiaaPPileItemsx2
import Derived.Deep.RegionHeld3
namespace Go.Proofs.Ytfkbijkmdnieiaa.PileItem
open Go.RowKit Go.Proofs.Ytfkbijkmdnieiaa.Mem Go.Proofs.Ytfkbijkmdnieiaa.Ring Go.Proofs.Ytfkbijkmdnieiaa.PPileItems

abbrev enc (v : S46) : List Value := [.int .i64 v.f0, .int .i64 v.f1]
abbrev agg (v : S46) : Value := .agg #[.int .i64 v.f0, .int .i64 v.f1]
abbrev P := IsPile enc 2 46 95
theorem enc_len (v : S46) : (enc v).length = 2 := rfl

set_option maxHeartbeats 400000 in
/-- The place of the i-th value. -/
theorem at_item (B R L f i x : Nat) (w : World) (hL : 0 < L) (hL2 : L ≤ 10000) (hf : f ≤ 10000) (h1 : i ≤ 10000) (hx : (f + i) % L = x)
    (c0 : w.cell? ⟨B, 0, none⟩ = some (.slice (some ⟨R, 0, none⟩) L L)) (c1 : w.cell? ⟨B, 1, none⟩ = some (.int .i64 f)) :
    Calls Try.prog 73 #[.pointer (some ⟨B, 0, none⟩), .int .i64 i] w fun e w' => e = .returned (.int .i64 x) ∧ ∃ n, w' = w.drewN n := by
  have HX := Lib.hid hx; clear hx
  go_enter Try.func73, Try.ntmps73
  go_wp2
  go_quiet (fail)
  go_wp2
  go_ret
  refine ⟨?_, nq, rfl⟩
  rw [← HX.out]
  show Ending.returned (Value.int .i64 _) = _
  simp

theorem head_cells {w : World} {B R L f : Nat} {vs : List S46} (h : P w B R L f vs) :
    w.cell? ⟨B, 0, none⟩ = some (.slice (some ⟨R, 0, none⟩) L L) ∧ w.cell? ⟨B, 1, none⟩ = some (.int .i64 f) ∧ w.cell? ⟨B, 2, none⟩ = some (.int .i64 vs.length) ∧
    w.frozen? ⟨B, 0, none⟩ = false ∧ w.frozen? ⟨B, 1, none⟩ = false ∧ w.frozen? ⟨B, 2, none⟩ = false :=
  ⟨h.head.cell rfl, h.head.cell rfl, h.head.cell rfl, h.head.free _, h.head.free _, h.head.free _⟩

theorem ring_cell {w : World} {B R L f : Nat} {vs : List S46} (h : P w B R L f vs) (x : Nat) (hx : x < L) :
    ∃ z z', w.cell? ⟨R, x * 2, none⟩ = some z ∧ w.frozen? ⟨R, x * 2, none⟩ = false ∧ w.cell? ⟨R, x * 2 + 1, none⟩ = some z' ∧ w.frozen? ⟨R, x * 2 + 1, none⟩ = false := by
  obtain ⟨cs, h1, h2⟩ := h.ring
  have hs := h2.1
  exact ⟨cs[x * 2]'(by omega), cs[x * 2 + 1]'(by omega), h1.cell (by simp), h1.free _, h1.cell (by simp), h1.free _⟩

theorem ring_at {w : World} {B R L f : Nat} {vs : List S46} (h : P w B R L f vs) (i : Nat) (v : S46) (hv : vs[i]? = some v) :
    w.cell? ⟨R, (f + i) % L * 2, none⟩ = some (.int .i64 v.f0) ∧ w.cell? ⟨R, (f + i) % L * 2 + 1, none⟩ = some (.int .i64 v.f1) := by
  obtain ⟨cs, h1, h2⟩ := h.ring
  exact ⟨h1.cell (h2.2 i v hv 0 _ rfl), h1.cell (h2.2 i v hv 1 _ rfl)⟩

set_option maxRecDepth 100000 in
set_option maxHeartbeats 2000000 in
theorem push_zero (B R f : Nat) (vs : List S46) (v : S46) (w : World) (h : P w B R 0 f vs) :
    Calls Try.prog 38 #[.pointer (some ⟨B, 0, none⟩), agg v] w fun e w' => e = .returned (.tuple #[agg v, .bool true]) ∧ P w' B R 0 f vs ∧ Chg (fun k => k = B ∨ k = R) w w' := by
  obtain ⟨c0, _, _, _, _, _⟩ := head_cells h
  have hB := h.ltB
  have hB1 : B < w.heap.size + 1 := by omega
  have hB2 : B < w.heap.size + 1 + 1 := by omega
  have HP := Lib.hid h; clear h
  go_enter Try.func38, Try.ntmps38
  go_wp2
  have hk : ∀ {w' : World}, Chg (fun _ => False) w w' → P w' B R 0 f vs ∧ Chg (fun k => k = B ∨ k = R) w w' := fun hc => ⟨HP.out.keep hc (by simp) (by simp), hc.mono (by simp)⟩
  refine bodyPost_ret (v := .tuple #[agg v, .bool true]) (by simp [results, Try.results38, go_sem]) rfl ⟨rfl, hk ?_⟩
  repeat (first | exact Chg.refl _ _ | apply Chg.drewN | apply Chg.alloc | (refine Chg.set ?_ (by first | exact fun _ => Or.inl rfl | exact fun _ => Or.inr rfl | (intro hh; simp at hh; omega)) _))

set_option maxRecDepth 100000 in
set_option maxHeartbeats 4000000 in
theorem push_room (B R L f : Nat) (vs : List S46) (v : S46) (w : World) (h : P w B R L f vs) (hn : vs.length < L) :
    Calls Try.prog 38 #[.pointer (some ⟨B, 0, none⟩), agg v] w fun e w' => e = .returned (.tuple #[agg z46, .bool false]) ∧ P w' B R L f (vs ++ [v]) ∧ Chg (fun k => k = B ∨ k = R) w w' := by
  obtain ⟨c0, c1, c2, g0, g1, g2⟩ := head_cells h
  have hL2 := h.most
  have hf : f ≤ 10000 := by have := h.first; omega
  obtain ⟨z, z', cr, fr, cr', fr'⟩ := ring_cell h ((f + vs.length) % L) (Nat.mod_lt _ (by omega))
  have hBR := h.apart
  have hRB : R ≠ B := fun e => hBR e.symm
  have hB := h.ltB
  have hB1 : B < w.heap.size + 1 := by omega
  have hB2 : B < w.heap.size + 1 + 1 := by omega
  have hR := h.ltR
  have hR1 : R < w.heap.size + 1 := by omega
  have hR2 : R < w.heap.size + 1 + 1 := by omega
  have HP := Lib.hid h; clear h
  have HN := Lib.hid hn
  obtain ⟨x, hx⟩ : ∃ x, (f + vs.length) % L = x := ⟨_, rfl⟩
  have hxL : x < L := by rw [← hx]; exact Nat.mod_lt _ (by omega)
  rw [hx] at cr fr cr' fr'
  have HX := Lib.hid hx; clear hx
  obtain ⟨n, hvn⟩ : ∃ n, vs.length = n := ⟨_, rfl⟩
  rw [hvn] at c2 hn
  have HVN := Lib.hid hvn; clear hvn
  have e1 : decide (L = 0) = false := by simp; omega
  have e2 : decide (n = L) = false := by simp; omega
  have e3 : ((L : Int) == 0) = false := by simp; omega
  have e4 : ((n : Int) == (L : Int)) = false := by simp; omega
  go_enter Try.func38, Try.ntmps38
  go_wp2
  go_quiet (fail)
  go_wp2_with fail
  have b0 : Hid (Blk (((w.alloc (Obj.cells #[Value.int .i64 v.f0, Value.int .i64 v.f1] 46)).alloc (Obj.cells #[Value.int .i64 0, Value.int .i64 0] 46)).alloc (Obj.cells #[Value.int .i64 0, Value.int .i64 0] 46)) w.heap.size #[.int .i64 v.f0, .int .i64 v.f1] 46) := ((Blk.new w _ _).alloc _).alloc _
  have hPW : Hid (P (((w.alloc (Obj.cells #[Value.int .i64 v.f0, Value.int .i64 v.f1] 46)).alloc (Obj.cells #[Value.int .i64 0, Value.int .i64 0] 46)).alloc (Obj.cells #[Value.int .i64 0, Value.int .i64 0] 46)) B R L f vs) := HP.out.keep ((((Chg.refl (fun _ => False) w).alloc _).alloc _).alloc _) (by simp) (by simp)
  have hW1 : Hid (Blk (((w.alloc (Obj.cells #[Value.int .i64 v.f0, Value.int .i64 v.f1] 46)).alloc (Obj.cells #[Value.int .i64 0, Value.int .i64 0] 46)).alloc (Obj.cells #[Value.int .i64 0, Value.int .i64 0] 46)) (w.heap.size + 1) #[.int .i64 0, .int .i64 0] 46) := (Blk.at_ (by simp) _ _).alloc _
  have hW2 : Hid (Blk (((w.alloc (Obj.cells #[Value.int .i64 v.f0, Value.int .i64 v.f1] 46)).alloc (Obj.cells #[Value.int .i64 0, Value.int .i64 0] 46)).alloc (Obj.cells #[Value.int .i64 0, Value.int .i64 0] 46)) (w.heap.size + 1 + 1) #[.int .i64 0, .int .i64 0] 46) := Blk.at_ (by simp) _ _
  have hCW : Hid (Chg (fun k => k = B ∨ k = R) w (((w.alloc (Obj.cells #[Value.int .i64 v.f0, Value.int .i64 v.f1] 46)).alloc (Obj.cells #[Value.int .i64 0, Value.int .i64 0] 46)).alloc (Obj.cells #[Value.int .i64 0, Value.int .i64 0] 46))) := (((Chg.refl _ w).alloc _).alloc _).alloc _
  generalize (((w.alloc (Obj.cells #[Value.int .i64 v.f0, Value.int .i64 v.f1] 46)).alloc (Obj.cells #[Value.int .i64 0, Value.int .i64 0] 46)).alloc (Obj.cells #[Value.int .i64 0, Value.int .i64 0] 46)) = W at *
  obtain ⟨N, hN⟩ : ∃ N, w.heap.size = N := ⟨_, rfl⟩
  rw [hN] at b0 hW1 hW2 hB hR
  rw [hN]
  have HNN := Lib.hid hN
  clear c0 c1 c2 g0 g1 g2 cr fr cr' fr' hB1 hB2 hR1 hR2 hN
  obtain ⟨c0, c1, c2, g0, g1, g2⟩ := head_cells hPW.out
  rw [HVN.out] at c2
  obtain ⟨z, z', cr, fr, cr', fr'⟩ := ring_cell hPW.out x hxL
  have k0 := b0.out.cell (j := 0) rfl
  have k1 := b0.out.cell (j := 1) rfl
  have r0 := hW1.out.cell (j := 0) rfl
  have r1 := hW1.out.cell (j := 1) rfl
  have q0 := hW1.out.free 0
  have q1 := hW1.out.free 1
  have t0 := hW2.out.cell (j := 0) rfl
  have t1 := hW2.out.cell (j := 1) rfl
  have n1 : B ≠ N + 1 := by omega
  have n2 : B ≠ N + 1 + 1 := by omega
  have n3 : R ≠ N + 1 := by omega
  have n4 : R ≠ N + 1 + 1 := by omega
  have n5 : B ≠ N := by omega
  have n6 : R ≠ N := by omega
  go_region_held3 (fun w' => w'.cell? ⟨B, 0, none⟩ = some (.slice (some ⟨R, 0, none⟩) L L) ∧ w'.cell? ⟨B, 1, none⟩ = some (.int .i64 f) ∧ w'.cell? ⟨B, 2, none⟩ = some (.int .i64 n) ∧ w'.cell? ⟨N, 0, none⟩ = some (.int .i64 v.f0) ∧ w'.cell? ⟨N, 1, none⟩ = some (.int .i64 v.f1)) (go_keep) (first | (go_at_call 73; refine (at_item B R L f n x _ (by omega) hL2 (by omega) (by omega) (by rw [← HVN.out]; exact HX.out) (by go_simp) (by go_simp)).mono ?_; rintro e w' ⟨rfl, m, rfl⟩))
  go_wp2
  refine bodyPost_ret (v := .tuple #[agg z46, .bool false]) (by simp [results, Try.results38, go_sem, z46, r0, r1]) rfl ⟨rfl, fin_room enc_len hPW.out HN.out ?_ (fun cs hcs hsz => ?_), ?_⟩
  · refine ⟨_, (by repeat (first | with_reducible apply Blk.drewN | with_reducible apply Blk.alloc | with_reducible apply Blk.set | (with_reducible apply Blk.far; case hp => first | exact hBR | exact n1 | exact n2 | (simp; omega)) | with_reducible exact hPW.out.head)), ?_⟩
    simp [HVN.out]
  · refine ⟨_, (by repeat (first | with_reducible apply Blk.drewN | with_reducible apply Blk.alloc | with_reducible apply Blk.set | (with_reducible apply Blk.far; case hp => first | exact hRB | exact n3 | exact n4 | (simp; omega)) | with_reducible exact hcs)), ?_⟩
    rw [HX.out]
    exact wrote_two (by omega)
  · repeat (first | with_reducible apply Chg.drewN | with_reducible apply Chg.alloc | (with_reducible refine Chg.set ?_ (by first | exact fun _ => Or.inl rfl | exact fun _ => Or.inr rfl | (intro hh; rw [HNN.out] at hh; simp at hh; omega)) _) | with_reducible exact hCW.out)

set_option maxRecDepth 100000 in
set_option maxHeartbeats 4000000 in
theorem push_full (B R L f : Nat) (vs : List S46) (v u : S46) (w : World) (h : P w B R L f vs) (hn : vs.length = L) (hu : vs.head? = some u) :
    Calls Try.prog 38 #[.pointer (some ⟨B, 0, none⟩), agg v] w fun e w' => e = .returned (.tuple #[agg u, .bool true]) ∧ P w' B R L ((f + 1) % L) (vs.tail ++ [v]) ∧ Chg (fun k => k = B ∨ k = R) w w' := by
  have hL : 0 < L := by cases vs <;> simp_all; omega
  obtain ⟨c0, c1, c2, g0, g1, g2⟩ := head_cells h
  have hL2 := h.most
  have hf : f < L := by have := h.first; omega
  have hBR := h.apart
  have hRB : R ≠ B := fun e => hBR e.symm
  have hB := h.ltB
  have hR := h.ltR
  have hB1 : B < w.heap.size + 1 := by omega
  have hB2 : B < w.heap.size + 1 + 1 := by omega
  have HU := Lib.hid (show vs[0]? = some u by rw [← hu]; cases vs <;> simp)
  have HP := Lib.hid h; clear h hu
  rw [hn] at c2
  have HN := Lib.hid hn; clear hn
  obtain ⟨n, rfl⟩ : ∃ n, L = n + 1 := ⟨L - 1, by omega⟩
  obtain ⟨y, hy⟩ : ∃ y, (f + 1) % (n + 1) = y := ⟨_, rfl⟩
  have hyL : y < n + 1 := by rw [← hy]; exact Nat.mod_lt _ (by omega)
  obtain ⟨x, hx⟩ : ∃ x, (y + n) % (n + 1) = x := ⟨_, rfl⟩
  have hxL : x < n + 1 := by rw [← hx]; exact Nat.mod_lt _ (by omega)
  have HX := Lib.hid hx; have HY := Lib.hid hy; clear hx hy
  go_enter Try.func38, Try.ntmps38
  go_wp2
  have b0 : Hid (Blk (((w.alloc (Obj.cells #[Value.int .i64 v.f0, Value.int .i64 v.f1] 46)).alloc (Obj.cells #[Value.int .i64 0, Value.int .i64 0] 46)).alloc (Obj.cells #[Value.int .i64 0, Value.int .i64 0] 46)) w.heap.size #[.int .i64 v.f0, .int .i64 v.f1] 46) := ((Blk.new w _ _).alloc _).alloc _
  have hPW : Hid (P (((w.alloc (Obj.cells #[Value.int .i64 v.f0, Value.int .i64 v.f1] 46)).alloc (Obj.cells #[Value.int .i64 0, Value.int .i64 0] 46)).alloc (Obj.cells #[Value.int .i64 0, Value.int .i64 0] 46)) B R (n + 1) f vs) := HP.out.keep ((((Chg.refl (fun _ => False) w).alloc _).alloc _).alloc _) (by simp) (by simp)
  have hW1 : Hid (Blk (((w.alloc (Obj.cells #[Value.int .i64 v.f0, Value.int .i64 v.f1] 46)).alloc (Obj.cells #[Value.int .i64 0, Value.int .i64 0] 46)).alloc (Obj.cells #[Value.int .i64 0, Value.int .i64 0] 46)) (w.heap.size + 1) #[.int .i64 0, .int .i64 0] 46) := (Blk.at_ (by simp) _ _).alloc _
  have hW2 : Hid (Blk (((w.alloc (Obj.cells #[Value.int .i64 v.f0, Value.int .i64 v.f1] 46)).alloc (Obj.cells #[Value.int .i64 0, Value.int .i64 0] 46)).alloc (Obj.cells #[Value.int .i64 0, Value.int .i64 0] 46)) (w.heap.size + 1 + 1) #[.int .i64 0, .int .i64 0] 46) := Blk.at_ (by simp) _ _
  have hCW : Hid (Chg (fun k => k = B ∨ k = R) w (((w.alloc (Obj.cells #[Value.int .i64 v.f0, Value.int .i64 v.f1] 46)).alloc (Obj.cells #[Value.int .i64 0, Value.int .i64 0] 46)).alloc (Obj.cells #[Value.int .i64 0, Value.int .i64 0] 46))) := (((Chg.refl _ w).alloc _).alloc _).alloc _
  generalize (((w.alloc (Obj.cells #[Value.int .i64 v.f0, Value.int .i64 v.f1] 46)).alloc (Obj.cells #[Value.int .i64 0, Value.int .i64 0] 46)).alloc (Obj.cells #[Value.int .i64 0, Value.int .i64 0] 46)) = W at *
  obtain ⟨N, hN⟩ : ∃ N, w.heap.size = N := ⟨_, rfl⟩
  rw [hN] at b0 hW1 hW2 hB hR
  rw [hN]
  have HNN := Lib.hid hN
  clear c0 c1 c2 g0 g1 g2 hB1 hB2 hN
  obtain ⟨c0, c1, c2, g0, g1, g2⟩ := head_cells hPW.out
  rw [HN.out] at c2
  have cu := ring_at hPW.out 0 u HU.out
  rw [Nat.add_zero, Nat.mod_eq_of_lt hf] at cu
  obtain ⟨cu0, cu1⟩ := cu
  obtain ⟨z, z', cr, fr, cr', fr'⟩ := ring_cell hPW.out x hxL
  have k0 := b0.out.cell (j := 0) rfl
  have k1 := b0.out.cell (j := 1) rfl
  have r0 := hW1.out.cell (j := 0) rfl
  have r1 := hW1.out.cell (j := 1) rfl
  have q0 := hW1.out.free 0
  have q1 := hW1.out.free 1
  have t0 := hW2.out.cell (j := 0) rfl
  have t1 := hW2.out.cell (j := 1) rfl
  have s0 := hW2.out.free 0
  have s1 := hW2.out.free 1
  have n1 : B ≠ N + 1 := by omega
  have n2 : B ≠ N + 1 + 1 := by omega
  have n3 : R ≠ N + 1 := by omega
  have n4 : R ≠ N + 1 + 1 := by omega
  have n5 : B ≠ N := by omega
  have n6 : R ≠ N := by omega
  have m2 : N + 1 + 1 ≠ B := by omega
  have m4 : N + 1 + 1 ≠ R := by omega
  have hf0 : (0 : Int) ≤ (f : Int) := by omega
  have hf1 : (f : Int) < (n : Int) + 1 := by omega
  have hx0 : (0 : Int) ≤ (x : Int) := by omega
  have hx1 : (x : Int) < (n : Int) + 1 := by omega
  go_quiet (fail)
  go_wp2
  go_region_held3 (fun w' => w'.cell? ⟨B, 0, none⟩ = some (.slice (some ⟨R, 0, none⟩) (n + 1) (n + 1)) ∧ w'.cell? ⟨B, 1, none⟩ = some (.int .i64 f) ∧ w'.cell? ⟨R, f * 2, none⟩ = some (.int .i64 u.f0) ∧ w'.cell? ⟨R, f * 2 + 1, none⟩ = some (.int .i64 u.f1)) (go_keep) (fail)
  go_wp2_with (go_at_call 73; refine (at_item B R (n + 1) f 1 y _ (by omega) hL2 (by omega) (by omega) HY.out (by go_simp) (by go_simp)).mono ?_; rintro e w' ⟨rfl, m, rfl⟩)
  have z0 : Hid (Blk ((((((W.drewN (nq + 1)).setCell ⟨N + 1 + 1, 0, none⟩ (.int .i64 u.f0)).setCell ⟨N + 1 + 1, 1, none⟩ (.int .i64 u.f1)).drewN m).setCell ⟨B, 1, none⟩ (.int .i64 y)).setCell ⟨B, 2, none⟩ (.int .i64 n)) B #[.slice (some ⟨R, 0, none⟩) (n + 1) (n + 1), .int .i64 y, .int .i64 n] 95) := by
    have := ((((((hPW.out.head.drewN (nq + 1)).far (p := ⟨N + 1 + 1, 0, none⟩) (show B ≠ N + 1 + 1 by omega) (.int .i64 u.f0)).far (p := ⟨N + 1 + 1, 1, none⟩) (show B ≠ N + 1 + 1 by omega) (.int .i64 u.f1)).drewN m).set 1 (.int .i64 y)).set 2 (.int .i64 n))
    exact this
  have z1 : Hid (Blk ((((((W.drewN (nq + 1)).setCell ⟨N + 1 + 1, 0, none⟩ (.int .i64 u.f0)).setCell ⟨N + 1 + 1, 1, none⟩ (.int .i64 u.f1)).drewN m).setCell ⟨B, 1, none⟩ (.int .i64 y)).setCell ⟨B, 2, none⟩ (.int .i64 n)) N #[.int .i64 v.f0, .int .i64 v.f1] 46) := ((((((b0.out.drewN (nq + 1)).far (p := ⟨N + 1 + 1, 0, none⟩) (show N ≠ N + 1 + 1 by omega) (.int .i64 u.f0)).far (p := ⟨N + 1 + 1, 1, none⟩) (show N ≠ N + 1 + 1 by omega) (.int .i64 u.f1)).drewN m).far (p := ⟨B, 1, none⟩) (show N ≠ B by omega) (.int .i64 y)).far (p := ⟨B, 2, none⟩) (show N ≠ B by omega) (.int .i64 n))
  have z2 : Hid (Blk ((((((W.drewN (nq + 1)).setCell ⟨N + 1 + 1, 0, none⟩ (.int .i64 u.f0)).setCell ⟨N + 1 + 1, 1, none⟩ (.int .i64 u.f1)).drewN m).setCell ⟨B, 1, none⟩ (.int .i64 y)).setCell ⟨B, 2, none⟩ (.int .i64 n)) (N + 1) #[.int .i64 0, .int .i64 0] 46) := ((((((hW1.out.drewN (nq + 1)).far (p := ⟨N + 1 + 1, 0, none⟩) (show N + 1 ≠ N + 1 + 1 by omega) (.int .i64 u.f0)).far (p := ⟨N + 1 + 1, 1, none⟩) (show N + 1 ≠ N + 1 + 1 by omega) (.int .i64 u.f1)).drewN m).far (p := ⟨B, 1, none⟩) (show N + 1 ≠ B by omega) (.int .i64 y)).far (p := ⟨B, 2, none⟩) (show N + 1 ≠ B by omega) (.int .i64 n))
  have z3 : Hid (Blk ((((((W.drewN (nq + 1)).setCell ⟨N + 1 + 1, 0, none⟩ (.int .i64 u.f0)).setCell ⟨N + 1 + 1, 1, none⟩ (.int .i64 u.f1)).drewN m).setCell ⟨B, 1, none⟩ (.int .i64 y)).setCell ⟨B, 2, none⟩ (.int .i64 n)) (N + 1 + 1) #[.int .i64 u.f0, .int .i64 u.f1] 46) := ((((((hW2.out.drewN (nq + 1)).set 0 (.int .i64 u.f0)).set 1 (.int .i64 u.f1)).drewN m).far (p := ⟨B, 1, none⟩) (show N + 1 + 1 ≠ B by omega) (.int .i64 y)).far (p := ⟨B, 2, none⟩) (show N + 1 + 1 ≠ B by omega) (.int .i64 n))
  have z4 : Hid (∀ cs, Blk W R cs 46 → Blk ((((((W.drewN (nq + 1)).setCell ⟨N + 1 + 1, 0, none⟩ (.int .i64 u.f0)).setCell ⟨N + 1 + 1, 1, none⟩ (.int .i64 u.f1)).drewN m).setCell ⟨B, 1, none⟩ (.int .i64 y)).setCell ⟨B, 2, none⟩ (.int .i64 n)) R cs 46) := fun cs hcs => ((((((hcs.drewN (nq + 1)).far (p := ⟨N + 1 + 1, 0, none⟩) (show R ≠ N + 1 + 1 by omega) (.int .i64 u.f0)).far (p := ⟨N + 1 + 1, 1, none⟩) (show R ≠ N + 1 + 1 by omega) (.int .i64 u.f1)).drewN m).far (p := ⟨B, 1, none⟩) hRB (.int .i64 y)).far (p := ⟨B, 2, none⟩) hRB (.int .i64 n))
  have z5 : Hid (Chg (fun k => k = B ∨ k = R) w ((((((W.drewN (nq + 1)).setCell ⟨N + 1 + 1, 0, none⟩ (.int .i64 u.f0)).setCell ⟨N + 1 + 1, 1, none⟩ (.int .i64 u.f1)).drewN m).setCell ⟨B, 1, none⟩ (.int .i64 y)).setCell ⟨B, 2, none⟩ (.int .i64 n))) := ((((((hCW.out.drewN _).set (by intro hh; rw [HNN.out] at hh; simp at hh; omega) _).set (by intro hh; rw [HNN.out] at hh; simp at hh; omega) _).drewN _).set (fun _ => Or.inl rfl) _).set (fun _ => Or.inl rfl) _)
  obtain ⟨cs0, hcs0, hcsz⟩ : ∃ cs, Blk W R cs 46 ∧ cs.size = (n + 1) * 2 := by
    obtain ⟨cs, hh, hh2⟩ := hPW.out.ring
    exact ⟨cs, hh, hh2.1⟩
  have z6 := z4.out cs0 hcs0
  have Z6 := Lib.hid z6
  generalize ((((((W.drewN (nq + 1)).setCell ⟨N + 1 + 1, 0, none⟩ (.int .i64 u.f0)).setCell ⟨N + 1 + 1, 1, none⟩ (.int .i64 u.f1)).drewN m).setCell ⟨B, 1, none⟩ (.int .i64 y)).setCell ⟨B, 2, none⟩ (.int .i64 n)) = W2 at *
  clear c0 c1 c2 g0 g1 g2 cu0 cu1 cr fr cr' fr' k0 k1 r0 r1 q0 q1 t0 t1 s0 s1 hcs0
  have c0 := z0.out.cell (j := 0) rfl
  have c1 := z0.out.cell (j := 1) rfl
  have c2 := z0.out.cell (j := 2) rfl
  have g2 := z0.out.free 2
  have k0 := z1.out.cell (j := 0) rfl
  have k1 := z1.out.cell (j := 1) rfl
  have r0 := z2.out.cell (j := 0) rfl
  have r1 := z2.out.cell (j := 1) rfl
  have q0 := z2.out.free 0
  have q1 := z2.out.free 1
  have s0 := z3.out.cell (j := 0) rfl
  have s1 := z3.out.cell (j := 1) rfl
  have cr := z6.cell (j := x * 2) (v := cs0[x * 2]'(by omega)) (by simp)
  have cr' := z6.cell (j := x * 2 + 1) (v := cs0[x * 2 + 1]'(by omega)) (by simp)
  have fr := z6.free (x * 2)
  have fr' := z6.free (x * 2 + 1)
  generalize cs0[x * 2]'(by omega) = e0 at *
  generalize cs0[x * 2 + 1]'(by omega) = e1 at *
  clear z6
  go_region_held3 (fun w' => w'.cell? ⟨B, 0, none⟩ = some (.slice (some ⟨R, 0, none⟩) (n + 1) (n + 1)) ∧ w'.cell? ⟨B, 1, none⟩ = some (.int .i64 y) ∧ w'.cell? ⟨B, 2, none⟩ = some (.int .i64 n) ∧ w'.cell? ⟨N, 0, none⟩ = some (.int .i64 v.f0) ∧ w'.cell? ⟨N, 1, none⟩ = some (.int .i64 v.f1)) (go_keep) (first | (go_at_call 73; refine (at_item B R (n + 1) y n x _ (by omega) hL2 (by omega) (by omega) HX.out (by go_simp) (by go_simp)).mono ?_; rintro e w' ⟨rfl, m', rfl⟩))
  go_wp2
  refine bodyPost_ret (v := .tuple #[agg u, .bool true]) (by simp [results, Try.results38, go_sem, r0, r1]) rfl ⟨rfl, fin_full enc_len hPW.out HN.out (by omega) ?_ (fun cs hcs hsz => ?_), ?_⟩
  · refine ⟨_, (by repeat (first | with_reducible apply Blk.drewN | with_reducible apply Blk.alloc | with_reducible apply Blk.set | (with_reducible apply Blk.far; case hp => first | exact hBR | exact n1 | exact n2 | (simp; omega)) | with_reducible exact z0.out)), ?_⟩
    simp [HY.out]
  · have hcs2 := z4.out cs hcs
    refine ⟨_, (by repeat (first | with_reducible apply Blk.drewN | with_reducible apply Blk.alloc | with_reducible apply Blk.set | (with_reducible apply Blk.far; case hp => first | exact hRB | exact n3 | exact n4 | (simp; omega)) | with_reducible exact hcs2)), ?_⟩
    rw [HY.out, Nat.add_sub_cancel, HX.out]
    exact wrote_two (by omega)
  · repeat (first | with_reducible apply Chg.drewN | with_reducible apply Chg.alloc | (with_reducible refine Chg.set ?_ (by first | exact fun _ => Or.inl rfl | exact fun _ => Or.inr rfl | (intro hh; rw [HNN.out] at hh; simp at hh; omega)) _) | with_reducible exact z5.out)

end Go.Proofs.Ytfkbijkmdnieiaa.PileItem
