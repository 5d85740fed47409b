/- The contracts of a pile of items: New, List. No conditions. -/
import Derived.Test.YtfkbijkmdnieiaaPileItem2
import Derived.Test.YtfkbijkmdnieiaaPileInt3
namespace Go.Proofs.Ytfkbijkmdnieiaa.PileItem
open Go.RowKit Go.Proofs.Ytfkbijkmdnieiaa.Mem Go.Proofs.Ytfkbijkmdnieiaa.Ring Go.Proofs.Ytfkbijkmdnieiaa.PPileItems Go.Proofs.YtfkbijkmdnieiaaW.PrintWords
attribute [local go_sem] Go.Proofs.YtfkbijkmdnieiaaW.PrintMore.max2_int Go.Proofs.YtfkbijkmdnieiaaW.PrintMore.min2_int

theorem infoS : (Try.prog.info? 46).map (fun i => (i.zero, i.size, i.bytes)) = some (some (.agg #[.int .i64 0, .int .i64 0]), 2, 16) := by kernel_rfl

abbrev Own (w : World) (base : Nat) (v : Value) (xs : List S46) : Prop := k46.R 46 w base (fun k => base ≤ k) v xs

theorem nil_pile {w : World} (L : Nat) (hL : L ≤ 10000) {w1 w' : World} {xs : List Value} (ho : w1.ownsRow w.heap.size 46 2 (.slice (some ⟨w.heap.size, 0, none⟩) L L) L xs) (hg : w.grownBy w1 none)
    (hw : Same w' (w1.alloc (.cells #[.slice (some ⟨w.heap.size, 0, none⟩) L L, .int .i64 0, .int .i64 0] 95))) :
    P w' w1.heap.size w.heap.size L 0 [] ∧ Chg (fun _ => False) w w' ∧ w.heap.size ≤ w1.heap.size := by
  have hb : ∃ cs, Blk w1 w.heap.size cs 46 ∧ cs.size = L * 2 := by
    rcases ho.2 with ⟨h, _⟩ | ⟨g, cap, cur, he, _, hh, _, _, hs, _⟩
    · simp at h
    · simp only [Value.slice.injEq, Option.some.injEq, Addr.mk.injEq, and_true] at he
      obtain ⟨rfl, _, rfl⟩ := he
      exact ⟨cur, hh, hs⟩
  obtain ⟨cs, hb1, hb2⟩ := hb
  have hlt := hb1.lt
  refine ⟨⟨?_, ⟨cs, hw.blk (hb1.alloc _), holds_nil hb2⟩, by simp, hL, Or.inr rfl, by omega⟩, ?_, by omega⟩
  · exact hw.blk (Blk.new w1 #[.slice (some ⟨w.heap.size, 0, none⟩) L L, .int .i64 0, .int .i64 0] 95)
  · exact hw.chg (Chg.alloc ⟨hg.os, hg.tape, hg.output, hg.size, fun k hk _ => hg.block k hk (by simp)⟩ _)

/-- What New leaves. -/
def Made (L : Nat) (w : World) (e : Ending) (w' : World) : Prop := ∃ B R, e = .returned (.pointer (some ⟨B, 0, none⟩)) ∧ P w' B R L 0 [] ∧ Chg (fun _ => False) w w' ∧ w.heap.size ≤ B ∧ w.heap.size ≤ R

set_option maxRecDepth 100000 in
set_option maxHeartbeats 400000 in
theorem new (n : Nat) (w : World) (h1 : n ≤ 10000) : Calls Try.prog 37 #[.int .i64 n] w (Made n w) := by
  obtain ⟨i0, hi, hz0, hz1, hz2⟩ := info_parts infoS
  have FIN := Lib.hid (fun (L : Nat) (hL : L ≤ 10000) (w1 w' : World) (xs : List Value) ho hg hw => nil_pile (w := w) L hL (w1 := w1) (w' := w') (xs := xs) ho hg hw)
  have h0 : ¬ (n : Int) < 0 := by omega
  have h3 : ¬ 10000 < (n : Int) := by omega
  have h4 : ¬ 10000 < n := by omega
  have hbytes : i0.bytes * n ≤ 281474976710656 := by rw [hz2]; omega
  have hmax : n ≤ maxLen := by unfold maxLen; omega
  go_enter Try.func37, Try.ntmps37
  go_wp2_with (at_make; refine wpList_make_full _ rfl (.tmp 5) (.tmp 5) 42 rfl w.heap.size 46 i0 (.agg #[.int .i64 0, .int .i64 0]) 2 Try.underlying42 hi hz0 hz1 .i64 .i64 n n n rfl rfl rfl rfl hbytes hmax (by simp) ?_; intro w1 ho hg)
  go_ret
  obtain ⟨a, b, c⟩ := FIN.out n (by omega) _ _ _ ho hg ⟨rfl, rfl, rfl, rfl⟩
  exact ⟨_, _, rfl, a, b, c, Nat.le_refl _⟩

set_option maxRecDepth 100000 in
set_option maxHeartbeats 2000000 in
theorem list (B R L f : Nat) (vs : List S46) (w : World) (h : P w B R L f vs) :
    Calls Try.prog 40 #[.pointer (some ⟨B, 0, none⟩)] w fun e w' => ∃ v, e = .returned v ∧ Own w' w.heap.size v vs ∧ Below w.heap.size w w' := by
  obtain ⟨c0, c1, c2, g0, g1, g2⟩ := head_cells h
  have hle := h.le
  have hL2 := h.most
  have hf : f ≤ 10000 := by have := h.first; omega
  have HP := Lib.hid h; clear h
  obtain ⟨n, hvn⟩ : ∃ n, vs.length = n := ⟨_, rfl⟩
  rw [hvn] at c2 hle
  have HVN := Lib.hid hvn; clear hvn
  go_enter Try.func40, Try.ntmps40
  go_wp2
  clear c0 c1 c2 g0 g1 g2
  go_loopw [3, 9] (fun v k wr => ∃ i : Nat, i ≤ n ∧ k = .int .i64 i ∧ Own wr w.heap.size v (vs.take i) ∧ Below w.heap.size w wr) (fun _ k _ => n - (intOf k).toNat)
  case atStart => exact ⟨0, by omega, rfl, Kd.R_nil _ _ _ _ _, Below.refl _ _⟩
  case round =>
    obtain ⟨i, hi, rfl, hown, hb⟩ := hrel
    by_cases hlt : i < n
    · obtain ⟨c0, c1, c2, g0, g1, g2⟩ := head_cells (HP.out.keep (Chg.of_below (S := fun _ => False) hb) (by simp) (by simp))
      obtain ⟨x, hx⟩ : ∃ x, vs[i]? = some x := ⟨vs[i]'(by rw [HVN.out]; exact hlt), by simp⟩
      have cr := ring_at (HP.out.keep (Chg.of_below (S := fun _ => False) hb) (by simp) (by simp)) i x hx
      obtain ⟨y, hy⟩ : ∃ y, (f + i) % L = y := ⟨_, rfl⟩
      have hyL : y < L := by rw [← hy]; exact Nat.mod_lt _ (by omega)
      rw [hy] at cr
      obtain ⟨cr0, cr1⟩ := cr
      have HY := Lib.hid hy; clear hy
      have HO := Lib.hid hown; clear hown
      have HB := Lib.hid hb; clear hb
      have HX := Lib.hid hx; clear hx
      have hsz : w.heap.size ≤ wr.heap.size := HB.out.size
      have hl8 : ((vs.take i).length + 1) * 16 ≤ 140737488355328 := by simp; omega
      go_wp2_with fail
      go_region_law (first | (refine Kd.R_append_step k46 (w0 := w) w.heap.size rfl (.tmp 12) (.tmp 22) 42 46 (.agg #[.int .i64 0, .int .i64 0]) 16 rfl Try.underlying42 infoS rfl (by decide) (by decide) u3 (vs.take i) x [.int .i64 x.f0, .int .i64 x.f1] (fun k => w.heap.size ≤ k) (fun _ => False) rfl rfl (k46_mkM _ _ _ _) (fun k hk => hk.elim) ?_ ?_ ?_ ?_ ?_ ?_; exact (fun k hk => Nat.le_trans hsz hk); exact Kd.R_drewN HO.out _; exact pw_below_drewN HB.out _; exact hsz; exact hl8; intro v1 w1 hR1 hB1 _ _) | (go_simp; go_at_call 73; refine (at_item B R L f i y _ (by omega) hL2 (by omega) (by omega) HY.out (by go_simp) (by go_simp)).mono ?_; rintro e w' ⟨rfl, m, rfl⟩))
      all_goals go_wp2
      all_goals go_roundw
      all_goals first
        | exact ⟨i + 1, by omega, by go_num, by rw [PileInt.take_snoc' HX.out]; exact hR1, hB1⟩
        | (simp [intOf]; omega)
    · have e : i = n := by omega
      subst e
      have HO := Lib.hid hown; clear hown
      have HB := Lib.hid hb; clear hb
      go_wp2
      go_ret
      refine ⟨_, rfl, ?_, HB.out⟩
      have := HO.out
      rwa [List.take_of_length_le (by rw [HVN.out]; exact Nat.le_refl _)] at this

end Go.Proofs.Ytfkbijkmdnieiaa.PileItem
