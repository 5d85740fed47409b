/- The contracts of a pile of whole numbers: New, Len, Push, Top, Pop, Clear, over any world in which the pile lies. No conditions. -/
import Derived.Test.YtfkbijkmdnieiaaProg
import Derived.Test.YtfkbijkmdnieiaaRing
import Derived.Test.YtfkbijkmdnieiaaWMore
import Derived.Deep.QuietTactic
import Derived.BigQuiet
import Derived.Deep.RegionWith
import Derived.OwnWalk
import Derived.WalkLawsBesides
import Derived.WalkSpells
import Derived.Lib.Hide
import Derived.KernelRfl
namespace Go.Proofs.Ytfkbijkmdnieiaa.PileInt
open Go.RowKit Go.Proofs.Ytfkbijkmdnieiaa.Mem Go.Proofs.Ytfkbijkmdnieiaa.Ring
attribute [local go_sem] Go.Proofs.YtfkbijkmdnieiaaW.PrintMore.max2_int Go.Proofs.YtfkbijkmdnieiaaW.PrintMore.min2_int

abbrev enc (v : Int) : List Value := [.int .i64 v]
abbrev P := IsPile enc 1 3 93
theorem mod_int (f n L : Nat) : ((f : Int) + (n : Int)) % (L : Int) = (((f + n) % L : Nat) : Int) := by simp
theorem info3 : (Try.prog.info? 3).map (fun i => (i.zero, i.size, i.bytes)) = some (some (.int .i64 0), 1, 8) := by kernel_rfl

set_option maxHeartbeats 400000 in
/-- The place of the i-th value. -/
theorem at_int (B R L f i x : Nat) (w : World) (hL : 0 < L) (hL2 : L ≤ 10000) (hf : f ≤ 10000) (h1 : i ≤ 10000) (hx : (f + i) % L = x)
    (c0 : w.cell? ⟨B, 0, none⟩ = some (.slice (some ⟨R, 0, none⟩) L L)) (c1 : w.cell? ⟨B, 1, none⟩ = some (.int .i64 f)) :
    Calls Try.prog 72 #[.pointer (some ⟨B, 0, none⟩), .int .i64 i] w fun e w' => e = .returned (.int .i64 x) ∧ ∃ n, w' = w.drewN n := by
  have HX := Lib.hid hx; clear hx
  go_enter Try.func72, Try.ntmps72
  go_wp2
  go_quiet (fail)
  go_wp2
  go_ret
  refine ⟨?_, nq, rfl⟩
  rw [← HX.out]
  show Ending.returned (Value.int .i64 _) = _
  simp

theorem head_cells {w : World} {B R L f : Nat} {vs : List Int} (h : P w B R L f vs) :
    w.cell? ⟨B, 0, none⟩ = some (.slice (some ⟨R, 0, none⟩) L L) ∧ w.cell? ⟨B, 1, none⟩ = some (.int .i64 f) ∧ w.cell? ⟨B, 2, none⟩ = some (.int .i64 vs.length) ∧
    w.frozen? ⟨B, 0, none⟩ = false ∧ w.frozen? ⟨B, 1, none⟩ = false ∧ w.frozen? ⟨B, 2, none⟩ = false :=
  ⟨h.head.cell rfl, h.head.cell rfl, h.head.cell rfl, h.head.free _, h.head.free _, h.head.free _⟩

theorem zero_case {w : World} {B R f : Nat} {vs : List Int} (h : P w B R 0 f vs) : vs = [] := by
  have := h.le
  cases vs <;> simp_all

set_option maxHeartbeats 400000 in
theorem push_zero (B R f : Nat) (vs : List Int) (v : Int) (w : World) (h : P w B R 0 f vs) :
    Calls Try.prog 34 #[.pointer (some ⟨B, 0, none⟩), .int .i64 v] w fun e w' => e = .returned (.tuple #[.int .i64 v, .bool true]) ∧ w = w' := by
  obtain ⟨c0, c1, c2, g0, g1, g2⟩ := head_cells h
  clear h
  go_enter Try.func34, Try.ntmps34
  go_wp2
  go_ret2
  exact ⟨rfl, rfl⟩

theorem ring_cell {w : World} {B R L f : Nat} {vs : List Int} (h : P w B R L f vs) (x : Nat) (hx : x < L) : ∃ z, w.cell? ⟨R, x, none⟩ = some z ∧ w.frozen? ⟨R, x, none⟩ = false := by
  obtain ⟨cs, h1, h2⟩ := h.ring
  have hs := h2.1
  exact ⟨cs[x]'(by omega), h1.cell (by simp), h1.free _⟩

theorem ring_at {w : World} {B R L f : Nat} {vs : List Int} (h : P w B R L f vs) (i : Nat) (v : Int) (hv : vs[i]? = some v) : w.cell? ⟨R, (f + i) % L, none⟩ = some (.int .i64 v) := by
  obtain ⟨cs, h1, h2⟩ := h.ring
  have := h2.2 i v hv 0 (.int .i64 v) rfl
  exact h1.cell (by simpa using this)

theorem enc_len (v : Int) : (enc v).length = 1 := rfl

/-- What a push with room leaves. -/
theorem room_left {w : World} {B R L f : Nat} {vs : List Int} (h : P w B R L f vs) (v : Int) (hn : vs.length < L) {w' : World}
    (hw : Same w' ((w.setCell ⟨R, (f + vs.length) % L, none⟩ (.int .i64 v)).setCell ⟨B, 2, none⟩ (.int .i64 ((vs.length : Int) + 1)))) :
    P w' B R L f (vs ++ [v]) ∧ Chg (fun k => k = B ∨ k = R) w w' := by
  obtain ⟨cs, h1, h2⟩ := h.ring
  have hx : (f + vs.length) % L < cs.size := by rw [h2.1, Nat.mul_one]; exact Nat.mod_lt _ (by omega)
  refine ⟨⟨?_, ⟨_, hw.blk ?_, holds_push enc_len h2 hn (wrote_one hx)⟩, by simp; omega, h.most, h.first, h.apart⟩, hw.chg ?_⟩
  · have := (h.head.far (p := ⟨R, (f + vs.length) % L, none⟩) h.apart (.int .i64 v)).set 2 (.int .i64 ((vs.length : Int) + 1))
    have e : ((vs ++ [v]).length : Int) = (vs.length : Int) + 1 := by simp
    rw [e]
    exact hw.blk this
  · exact (h1.set ((f + vs.length) % L) (.int .i64 v)).far (p := ⟨B, 2, none⟩) (fun e => h.apart e.symm) _
  · exact (((Chg.refl _ w).set (fun _ => Or.inr rfl) _).set (fun _ => Or.inl rfl) _)

set_option maxHeartbeats 1000000 in
theorem push_room (B R L f : Nat) (vs : List Int) (v : Int) (w : World) (h : P w B R L f vs) (hn : vs.length < L) :
    Calls Try.prog 34 #[.pointer (some ⟨B, 0, none⟩), .int .i64 v] w fun e w' => e = .returned (.tuple #[.int .i64 0, .bool false]) ∧ P w' B R L f (vs ++ [v]) ∧ Chg (fun k => k = B ∨ k = R) w w' := by
  obtain ⟨c0, c1, c2, g0, g1, g2⟩ := head_cells h
  have hL2 := h.most
  have hf : f ≤ 10000 := by have := h.first; omega
  obtain ⟨z, cr, fr⟩ := ring_cell h ((f + vs.length) % L) (Nat.mod_lt _ (by omega))
  have hBR := h.apart
  have FIN := Lib.hid (fun (w' : World) => room_left h v hn (w' := w')); clear h
  obtain ⟨x, hx⟩ : ∃ x, (f + vs.length) % L = x := ⟨_, rfl⟩
  have hxL : x < L := by rw [← hx]; exact Nat.mod_lt _ (by omega)
  rw [hx] at cr fr
  have HX := Lib.hid hx; clear hx
  obtain ⟨n, hvn⟩ : ∃ n, vs.length = n := ⟨_, rfl⟩
  rw [hvn] at c2 hn
  have HVN := Lib.hid hvn; clear hvn
  have e1 : decide (L = 0) = false := by simp; omega
  have e2 : decide (n = L) = false := by simp; omega
  have e3 : ((L : Int) == 0) = false := by simp; omega
  have e4 : ((n : Int) == (L : Int)) = false := by simp; omega
  go_enter Try.func34, Try.ntmps34
  go_wp2
  go_quiet (fail)
  go_wp2_with fail
  go_region_with (go_at_call 72; refine (at_int B R L f n x _ (by omega) hL2 (by omega) (by omega) (by rw [← HVN.out]; exact HX.out) (by go_simp) (by go_simp)).mono ?_; rintro e w' ⟨rfl, m, rfl⟩)
  all_goals
    go_wp2
    go_ret2
    refine ⟨rfl, FIN.out _ ?_⟩
    rw [HX.out, HVN.out]; exact ⟨rfl, rfl, rfl, rfl⟩

theorem full_left {w : World} {B R L f : Nat} {vs : List Int} (h : P w B R L f vs) (v : Int) (hn : vs.length = L) (hL : 0 < L) {w' : World}
    (hw : Same w' ((((w.setCell ⟨B, 1, none⟩ (.int .i64 (((f + 1) % L : Nat) : Int))).setCell ⟨B, 2, none⟩ (.int .i64 ((L : Int) - 1))).setCell ⟨R, ((f + 1) % L + (L - 1)) % L, none⟩ (.int .i64 v)).setCell ⟨B, 2, none⟩ (.int .i64 (L : Int)))) :
    P w' B R L ((f + 1) % L) (vs.tail ++ [v]) ∧ Chg (fun k => k = B ∨ k = R) w w' := by
  obtain ⟨cs, h1, h2⟩ := h.ring
  have ht : vs.tail.length = L - 1 := by simp; omega
  have hx : ((f + 1) % L + vs.tail.length) % L < cs.size := by rw [h2.1, Nat.mul_one]; exact Nat.mod_lt _ (by omega)
  refine ⟨⟨?_, ⟨_, hw.blk ?_, holds_push enc_len (holds_drop h2) (by omega) (wrote_one hx)⟩, by simp; omega, h.most, Or.inl (Nat.mod_lt _ hL), h.apart⟩, hw.chg ?_⟩
  · have := ((((h.head.set 1 (.int .i64 (((f + 1) % L : Nat) : Int))).set 2 (.int .i64 ((L : Int) - 1))).far (p := ⟨R, ((f + 1) % L + (L - 1)) % L, none⟩) h.apart (.int .i64 v)).set 2 (.int .i64 (L : Int)))
    have e : ((vs.tail ++ [v]).length : Int) = (L : Int) := by simp; omega
    rw [e]
    exact hw.blk (by simpa using this)
  · rw [ht]
    exact ((((h1.far (p := ⟨B, 1, none⟩) (fun e => h.apart e.symm) _).far (p := ⟨B, 2, none⟩) (fun e => h.apart e.symm) _).set _ (.int .i64 v)).far (p := ⟨B, 2, none⟩) (fun e => h.apart e.symm) _)
  · exact (((((Chg.refl _ w).set (fun _ => Or.inl rfl) _).set (fun _ => Or.inl rfl) _).set (fun _ => Or.inr rfl) _).set (fun _ => Or.inl rfl) _)

set_option maxHeartbeats 2000000 in
theorem push_full (B R L f : Nat) (vs : List Int) (v u : Int) (w : World) (h : P w B R L f vs) (hn : vs.length = L) (hu : vs.head? = some u) :
    Calls Try.prog 34 #[.pointer (some ⟨B, 0, none⟩), .int .i64 v] w fun e w' => e = .returned (.tuple #[.int .i64 u, .bool true]) ∧ P w' B R L ((f + 1) % L) (vs.tail ++ [v]) ∧ Chg (fun k => k = B ∨ k = R) w w' := by
  have hL : 0 < L := by cases vs <;> simp_all; omega
  obtain ⟨c0, c1, c2, g0, g1, g2⟩ := head_cells h
  have hL2 := h.most
  have hf : f < L := by have := h.first; omega
  have cf := ring_at h 0 u (by cases vs <;> simp_all)
  rw [Nat.add_zero, Nat.mod_eq_of_lt hf] at cf
  have hBR := h.apart
  rw [hn] at c2
  obtain ⟨y, hy⟩ : ∃ y, (f + 1) % L = y := ⟨_, rfl⟩
  have hyL : y < L := by rw [← hy]; exact Nat.mod_lt _ (by omega)
  obtain ⟨z, cr, fr⟩ := ring_cell h ((y + (L - 1)) % L) (Nat.mod_lt _ (by omega))
  have FIN := Lib.hid (fun (w' : World) => full_left h v hn hL (w' := w')); clear h
  obtain ⟨x, hx⟩ : ∃ x, (y + (L - 1)) % L = x := ⟨_, rfl⟩
  have hxL : x < L := by rw [← hx]; exact Nat.mod_lt _ (by omega)
  rw [hx] at cr fr
  have HX := Lib.hid hx; clear hx
  have HY := Lib.hid hy; clear hy hn hu
  obtain ⟨n, rfl⟩ : ∃ n, L = n + 1 := ⟨L - 1, by omega⟩
  go_enter Try.func34, Try.ntmps34
  go_wp2
  go_quiet (fail)
  go_wp2
  go_quiet (fail)
  go_wp2_with (go_at_call 72; refine (at_int B R (n + 1) f 1 y _ (by omega) hL2 (by omega) (by omega) HY.out (by go_simp) (by go_simp)).mono ?_; rintro e w' ⟨rfl, m, rfl⟩)
  go_region_with (go_at_call 72; refine (at_int B R (n + 1) y n x _ (by omega) hL2 (by omega) (by omega) HX.out (by go_simp) (by go_simp)).mono ?_; rintro e w' ⟨rfl, m', rfl⟩)
  all_goals
    go_wp2
    go_ret2
    rw [HY.out] at FIN
    rw [HY.out]
    refine ⟨rfl, FIN.out _ ?_⟩
    rw [HX.out, show (((n + 1 : Nat) : Int) - 1) = (n : Int) from by omega, Int.natCast_succ]; exact ⟨rfl, rfl, rfl, rfl⟩

/-- Push, whatever the pile holds: what is let go, what is left. -/
theorem push (B R L f : Nat) (vs : List Int) (v : Int) (w : World) (h : P w B R L f vs) :
    Calls Try.prog 34 #[.pointer (some ⟨B, 0, none⟩), .int .i64 v] w fun e w' =>
      e = .returned (.tuple #[.int .i64 ((pushed L vs v).2.getD 0), .bool (pushed L vs v).2.isSome]) ∧ (∃ f', P w' B R L f' (pushed L vs v).1) ∧ Chg (fun k => k = B ∨ k = R) w w' := by
  unfold pushed
  by_cases h0 : L = 0
  · subst h0
    refine (push_zero B R f vs v w h).mono ?_
    rintro e w' ⟨rfl, rfl⟩
    exact ⟨rfl, ⟨f, h⟩, Chg.refl _ _⟩
  · rw [if_neg h0]
    by_cases hn : vs.length = L
    · rw [if_pos hn]
      obtain ⟨u, hu⟩ : ∃ u, vs.head? = some u := by cases vs <;> simp_all
      refine (push_full B R L f vs v u w h hn hu).mono ?_
      rintro e w' ⟨rfl, hp, hc⟩
      exact ⟨by simp [hu], ⟨_, hp⟩, hc⟩
    · rw [if_neg hn]
      refine (push_room B R L f vs v w h (by have := h.le; omega)).mono ?_
      rintro e w' ⟨rfl, hp, hc⟩
      exact ⟨rfl, ⟨_, hp⟩, hc⟩

set_option maxHeartbeats 400000 in
theorem len (B R L f : Nat) (vs : List Int) (w : World) (h : P w B R L f vs) :
    Calls Try.prog 36 #[.pointer (some ⟨B, 0, none⟩)] w fun e w' => e = .returned (.int .i64 vs.length) ∧ w = w' := by
  obtain ⟨c0, c1, c2, g0, g1, g2⟩ := head_cells h
  clear h
  go_enter Try.func36, Try.ntmps36
  go_wp2
  go_ret
  exact ⟨rfl, rfl⟩

set_option maxHeartbeats 400000 in
theorem top_none (B R L f : Nat) (w : World) (h : P w B R L f []) :
    Calls Try.prog 53 #[.pointer (some ⟨B, 0, none⟩)] w fun e w' => e = .returned (.tuple #[.int .i64 0, .bool false]) ∧ ∃ n, w' = w.drewN n := by
  obtain ⟨c0, c1, c2, g0, g1, g2⟩ := head_cells h
  clear h
  simp only [List.length_nil] at c2
  go_enter Try.func53, Try.ntmps53
  go_wp2
  go_ret2
  exact ⟨rfl, 0, rfl⟩

set_option maxHeartbeats 1000000 in
theorem top_some (B R L f : Nat) (vs : List Int) (v : Int) (w : World) (h : P w B R L f vs) (hv : vs.getLast? = some v) :
    Calls Try.prog 53 #[.pointer (some ⟨B, 0, none⟩)] w fun e w' => e = .returned (.tuple #[.int .i64 v, .bool true]) ∧ ∃ n, w' = w.drewN n := by
  obtain ⟨c0, c1, c2, g0, g1, g2⟩ := head_cells h
  have hne : vs ≠ [] := by rintro rfl; simp at hv
  have hlen : 0 < vs.length := List.length_pos_iff.2 hne
  have cr := ring_at h (vs.length - 1) v (by rw [List.getLast?_eq_getElem?] at hv; exact hv)
  have hL2 := h.most
  have hle := h.le
  have hf : f ≤ 10000 := by have := h.first; omega
  clear h hv hne
  obtain ⟨n, hvn⟩ : ∃ n, vs.length = n + 1 := ⟨vs.length - 1, by omega⟩
  rw [hvn] at c2 hle cr
  clear hlen hvn
  obtain ⟨x, hx⟩ : ∃ x, (f + (n + 1 - 1)) % L = x := ⟨_, rfl⟩
  have hxL : x < L := by rw [← hx]; exact Nat.mod_lt _ (by omega)
  rw [hx] at cr
  have HX := Lib.hid hx; clear hx
  go_enter Try.func53, Try.ntmps53
  go_wp2
  go_quiet ((go_at_call 72; refine Calls.quiet_of (at_int B R L f n x _ (by omega) hL2 (by omega) (by omega) HX.out (by go_simp) (by go_simp))))
  go_wp2
  go_ret2
  exact ⟨rfl, _, rfl⟩

end Go.Proofs.Ytfkbijkmdnieiaa.PileInt
