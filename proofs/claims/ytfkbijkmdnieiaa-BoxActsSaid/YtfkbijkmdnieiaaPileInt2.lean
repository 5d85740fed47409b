/- The contracts of a pile of whole numbers: Pop, New, Clear. No conditions. -/
import Derived.Test.YtfkbijkmdnieiaaPileInt
import Derived.Lib.SliceRun
import Derived.Outline
namespace Go.Proofs.Ytfkbijkmdnieiaa.PileInt
open Go.RowKit Go.Proofs.Ytfkbijkmdnieiaa.Mem Go.Proofs.Ytfkbijkmdnieiaa.Ring
attribute [local go_sem] Go.Proofs.YtfkbijkmdnieiaaW.PrintMore.max2_int Go.Proofs.YtfkbijkmdnieiaaW.PrintMore.min2_int

set_option maxHeartbeats 400000 in
theorem pop_none (B R L f : Nat) (w : World) (h : P w B R L f []) :
    Calls Try.prog 35 #[.pointer (some ⟨B, 0, none⟩)] w fun e w' => e = .returned (.tuple #[.int .i64 0, .bool false]) ∧ P w' B R L f [] ∧ Chg (fun k => k = B ∨ k = R) w w' := by
  have HP := Lib.hid h; clear h
  go_enter Try.func35, Try.ntmps35
  go_wp2_with (go_at_call 53; refine (top_none B R L f _ HP.out).mono ?_; rintro e w' ⟨rfl, m, rfl⟩)
  go_ret2
  exact ⟨rfl, HP.out.drewN _, (Chg.refl _ w).drewN _⟩

theorem pop_left {w : World} {B R L f : Nat} {vs : List Int} (h : P w B R L f vs) (h0 : 0 < vs.length) {w' : World}
    (hw : Same w' ((w.setCell ⟨B, 2, none⟩ (.int .i64 ((vs.length : Int) - 1))).setCell ⟨R, (f + (vs.length - 1)) % L, none⟩ (.int .i64 0))) :
    P w' B R L f vs.dropLast ∧ Chg (fun k => k = B ∨ k = R) w w' := by
  obtain ⟨cs, h1, h2⟩ := h.ring
  have hle := h.le
  have hx : (f + (vs.length - 1)) % L < cs.size := by rw [h2.1, Nat.mul_one]; exact Nat.mod_lt _ (by omega)
  refine ⟨⟨?_, ⟨_, hw.blk ?_, holds_pop enc_len h2 h.le h0 (wrote_one (u := .int .i64 0) hx)⟩, by simp; omega, h.most, h.first, h.apart⟩, hw.chg ?_⟩
  · have := (h.head.set 2 (.int .i64 ((vs.length : Int) - 1))).far (p := ⟨R, (f + (vs.length - 1)) % L, none⟩) h.apart (.int .i64 0)
    have e : (vs.dropLast.length : Int) = (vs.length : Int) - 1 := by simp; omega
    rw [e]
    exact hw.blk this
  · exact (h1.far (p := ⟨B, 2, none⟩) (fun e => h.apart e.symm) _).set _ _
  · exact (((Chg.refl _ w).set (fun _ => Or.inl rfl) _).set (fun _ => Or.inr rfl) _)

set_option maxHeartbeats 1000000 in
theorem pop_some (B R L f : Nat) (vs : List Int) (v : Int) (w : World) (h : P w B R L f vs) (hv : vs.getLast? = some v) :
    Calls Try.prog 35 #[.pointer (some ⟨B, 0, none⟩)] w fun e w' => e = .returned (.tuple #[.int .i64 v, .bool true]) ∧ P w' B R L f vs.dropLast ∧ Chg (fun k => k = B ∨ k = R) w w' := by
  obtain ⟨c0, c1, c2, g0, g1, g2⟩ := head_cells h
  have hne : vs ≠ [] := by rintro rfl; simp at hv
  have hlen : 0 < vs.length := List.length_pos_iff.2 hne
  have hL2 := h.most
  have hle := h.le
  have hf : f ≤ 10000 := by have := h.first; omega
  have hBR := h.apart
  obtain ⟨z, cr, fr⟩ := ring_cell h ((f + (vs.length - 1)) % L) (Nat.mod_lt _ (by omega))
  have TOP := Lib.hid (fun (w : World) (h : P w B R L f vs) => top_some B R L f vs v w h hv)
  have FIN := Lib.hid (fun (w' : World) => pop_left h hlen (w' := w'))
  have HP := Lib.hid h
  clear h hv hne
  obtain ⟨n, hvn⟩ : ∃ n, vs.length = n + 1 := ⟨vs.length - 1, by omega⟩
  rw [hvn] at c2 hle cr fr FIN
  clear hlen
  have HVN := Lib.hid hvn; clear hvn
  obtain ⟨x, hx⟩ : ∃ x, (f + (n + 1 - 1)) % L = x := ⟨_, rfl⟩
  have hxL : x < L := by rw [← hx]; exact Nat.mod_lt _ (by omega)
  rw [hx] at cr fr FIN
  have HX := Lib.hid hx; clear hx
  go_enter Try.func35, Try.ntmps35
  go_wp2_with (go_at_call 53; refine (TOP.out _ HP.out).mono ?_; rintro e w' ⟨rfl, m, rfl⟩)
  go_region_with (go_at_call 72; refine (at_int B R L f n x _ (by omega) hL2 (by omega) (by omega) HX.out (by go_simp) (by go_simp)).mono ?_; rintro e w' ⟨rfl, m', rfl⟩)
  all_goals
    go_wp2
    go_ret2
    refine ⟨rfl, FIN.out _ ?_⟩
    rw [show (((n + 1 : Nat) : Int) - 1) = (n : Int) from by omega]; exact ⟨rfl, rfl, rfl, rfl⟩

/-- What may be made of a limit. -/
def limit (l : Int) : Nat := if l < 0 then 0 else if 10000 < l then 10000 else l.toNat

theorem nil_pile {w : World} (L : Nat) (hL : L ≤ 10000) {w1 w' : World} (ho : w1.ownsRow w.heap.size 3 1 (.slice (some ⟨w.heap.size, 0, none⟩) L L) L (madeCells #[.int .i64 0] (L * 1)).toList) (hg : w.grownBy w1 none)
    (hw : Same w' (w1.alloc (.cells #[.slice (some ⟨w.heap.size, 0, none⟩) L L, .int .i64 0, .int .i64 0] 93))) :
    P w' w1.heap.size w.heap.size L 0 [] ∧ Chg (fun _ => False) w w' ∧ w.heap.size ≤ w1.heap.size := by
  have hb : ∃ cs, Blk w1 w.heap.size cs 3 ∧ cs.size = L := by
    rcases ho.2 with ⟨h, _⟩ | ⟨g, cap, cur, he, _, hh, _, _, hs, _⟩
    · simp at h
    · simp only [Value.slice.injEq, Option.some.injEq, Addr.mk.injEq, and_true] at he
      obtain ⟨rfl, _, rfl⟩ := he
      exact ⟨cur, hh, by omega⟩
  obtain ⟨cs, hb1, hb2⟩ := hb
  have hlt := hb1.lt
  refine ⟨⟨?_, ⟨cs, hw.blk (hb1.alloc _), holds_nil (by omega)⟩, by simp, hL, Or.inr rfl, by omega⟩, ?_, by omega⟩
  · exact hw.blk (Blk.new w1 #[.slice (some ⟨w.heap.size, 0, none⟩) L L, .int .i64 0, .int .i64 0] 93)
  · exact hw.chg (Chg.alloc ⟨hg.os, hg.tape, hg.output, hg.size, fun k hk _ => hg.block k hk (by simp)⟩ _)

theorem run_clear {w : World} {B R L f : Nat} {vs : List Int} (h : P w B R L f vs) :
    ∃ us, ∀ ty, (Builtin.clear_ #[29] ty #[.slice (some ⟨R, 0, none⟩) L L]).run Try.prog w = .ok (.tuple #[]) (w.setCells R 0 us) := by
  obtain ⟨cs, h1, h2⟩ := h.ring
  by_cases hL : L = 0
  · subst hL
    refine ⟨[], fun ty => ?_⟩
    kernel_rfl
  · refine ⟨_, fun ty => Lib.run_clear_slice w 29 3 ty (.int .i64 0) Try.underlying29 (fun _ => by kernel_rfl) rfl rfl R 0 L L (by omega) (fun j hj => ?_) (fun j _ => h1.free _)⟩
    have := h2.1
    rw [h1.cell (v := cs[0 + j]'(by omega)) (by simp)]; rfl

theorem clear_left {w : World} {B R L f : Nat} {vs : List Int} (h : P w B R L f vs) (us : List Value) {w' : World}
    (hw : Same w' (((w.setCells R 0 us).setCell ⟨B, 1, none⟩ (.int .i64 0)).setCell ⟨B, 2, none⟩ (.int .i64 0))) :
    P w' B R L 0 [] ∧ Chg (fun k => k = B ∨ k = R) w w' := by
  obtain ⟨cs, h1, h2⟩ := h.ring
  obtain ⟨cs', h3, h4⟩ := h1.setCells us 0
  refine ⟨⟨?_, ⟨cs', hw.blk ?_, holds_nil (by rw [h4]; exact h2.1)⟩, by simp, h.most, Or.inr rfl, h.apart⟩, hw.chg ?_⟩
  · exact hw.blk (((h.head.farCells us h.apart 0).set 1 (.int .i64 0)).set 2 (.int .i64 0))
  · exact (h3.far (p := ⟨B, 1, none⟩) (fun e => h.apart e.symm) _).far (p := ⟨B, 2, none⟩) (fun e => h.apart e.symm) _
  · exact (((Chg.refl _ w).setCells us (fun _ => Or.inr rfl) 0).set (fun _ => Or.inl rfl) _).set (fun _ => Or.inl rfl) _

/-- What New leaves. -/
def Made (L : Nat) (w : World) (e : Ending) (w' : World) : Prop := ∃ B R, e = .returned (.pointer (some ⟨B, 0, none⟩)) ∧ P w' B R L 0 [] ∧ Chg (fun _ => False) w w' ∧ w.heap.size ≤ B ∧ w.heap.size ≤ R

set_option maxRecDepth 100000 in
set_option maxHeartbeats 400000 in
theorem new_low (l : Int) (w : World) (h1 : l < 0) : Calls Try.prog 33 #[.int .i64 l] w (Made 0 w) := by
  obtain ⟨i0, hi, hz0, hz1, hz2⟩ := info_parts info3
  have FIN := Lib.hid (fun (L : Nat) (hL : L ≤ 10000) (w1 w' : World) ho hg hw => nil_pile (w := w) L hL (w1 := w1) (w' := w') ho hg hw)
  go_enter Try.func33, Try.ntmps33
  go_wp2_with (at_make; refine wpList_make_full _ rfl (.tmp 5) (.tmp 5) 29 rfl w.heap.size 3 i0 (.int .i64 0) 1 Try.underlying29 hi hz0 hz1 .i64 .i64 0 0 0 rfl rfl rfl rfl (by omega) (by decide) (by simp) ?_; intro w1 ho hg)
  go_ret
  obtain ⟨a, b, c⟩ := FIN.out 0 (by decide) _ _ ho hg ⟨rfl, rfl, rfl, rfl⟩
  exact ⟨_, _, rfl, a, b, c, Nat.le_refl _⟩

set_option maxRecDepth 100000 in
set_option maxHeartbeats 400000 in
theorem new_high (l : Int) (w : World) (h1 : 10000 < l) : Calls Try.prog 33 #[.int .i64 l] w (Made 10000 w) := by
  obtain ⟨i0, hi, hz0, hz1, hz2⟩ := info_parts info3
  have FIN := Lib.hid (fun (L : Nat) (hL : L ≤ 10000) (w1 w' : World) ho hg hw => nil_pile (w := w) L hL (w1 := w1) (w' := w') ho hg hw)
  have h0 : ¬ l < 0 := by omega
  go_enter Try.func33, Try.ntmps33
  go_wp2_with (at_make; refine wpList_make_full _ rfl (.tmp 5) (.tmp 5) 29 rfl w.heap.size 3 i0 (.int .i64 0) 1 Try.underlying29 hi hz0 hz1 .i64 .i64 10000 10000 10000 rfl rfl rfl rfl (by omega) (by unfold maxLen; omega) (by simp) ?_; intro w1 ho hg)
  go_ret
  obtain ⟨a, b, c⟩ := FIN.out 10000 (by decide) _ _ ho hg ⟨rfl, rfl, rfl, rfl⟩
  exact ⟨_, _, rfl, a, b, c, Nat.le_refl _⟩

set_option maxRecDepth 100000 in
set_option maxHeartbeats 400000 in
theorem new_mid (n : Nat) (w : World) (h1 : n ≤ 10000) : Calls Try.prog 33 #[.int .i64 n] w (Made n w) := by
  obtain ⟨i0, hi, hz0, hz1, hz2⟩ := info_parts info3
  have FIN := Lib.hid (fun (L : Nat) (hL : L ≤ 10000) (w1 w' : World) ho hg hw => nil_pile (w := w) L hL (w1 := w1) (w' := w') ho hg hw)
  have h0 : ¬ (n : Int) < 0 := by omega
  have h3 : ¬ 10000 < (n : Int) := by omega
  have h4 : ¬ 10000 < n := by omega
  go_enter Try.func33, Try.ntmps33
  have hbytes : i0.bytes * n ≤ 281474976710656 := by rw [hz2]; omega
  have hmax : n ≤ maxLen := by unfold maxLen; omega
  go_wp2_with (at_make; refine wpList_make_full _ rfl (.tmp 5) (.tmp 5) 29 rfl w.heap.size 3 i0 (.int .i64 0) 1 Try.underlying29 hi hz0 hz1 .i64 .i64 n n n rfl rfl rfl rfl hbytes hmax (by simp) ?_; intro w1 ho hg)
  go_ret
  obtain ⟨a, b, c⟩ := FIN.out n (by omega) _ _ ho hg ⟨rfl, rfl, rfl, rfl⟩
  exact ⟨_, _, rfl, a, b, c, Nat.le_refl _⟩

theorem new (l : Int) (w : World) : Calls Try.prog 33 #[.int .i64 l] w (Made (limit l) w) := by
  unfold limit
  by_cases h1 : l < 0
  · rw [if_pos h1]; exact new_low l w h1
  · rw [if_neg h1]
    by_cases h2 : 10000 < l
    · rw [if_pos h2]; exact new_high l w h2
    · rw [if_neg h2]
      have := new_mid l.toNat w (by omega)
      rwa [Int.toNat_of_nonneg (by omega)] at this

set_option maxRecDepth 100000 in
set_option maxHeartbeats 400000 in
theorem clear_ (B R L f : Nat) (vs : List Int) (w : World) (h : P w B R L f vs) :
    Calls Try.prog 54 #[.pointer (some ⟨B, 0, none⟩)] w fun e w' => e = .returned (.tuple #[]) ∧ P w' B R L 0 [] ∧ Chg (fun k => k = B ∨ k = R) w w' := by
  obtain ⟨c0, c1, c2, g0, g1, g2⟩ := head_cells h
  obtain ⟨us, hrun⟩ := run_clear h
  have FIN := Lib.hid (fun (w' : World) => clear_left h us (w' := w'))
  have hB := h.head.farCells us h.apart 0
  have d1 := hB.cell (j := 1) rfl
  have d2 := hB.cell (j := 2) rfl
  have k1 := hB.free 1
  have k2 := hB.free 2
  clear hB h
  generalize w.setCells R 0 us = w1 at *
  go_enter Try.func54, Try.ntmps54
  go_wp2
  go_end0
  exact ⟨rfl, FIN.out _ ⟨rfl, rfl, rfl, rfl⟩⟩

end Go.Proofs.Ytfkbijkmdnieiaa.PileInt
