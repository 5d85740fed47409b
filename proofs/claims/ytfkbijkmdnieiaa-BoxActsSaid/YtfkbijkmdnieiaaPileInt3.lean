/- The contract of a pile of whole numbers: List. No conditions. -/
import Derived.Test.YtfkbijkmdnieiaaPileInt2
import Derived.Deep.RegionLaw
import Derived.Deep.LoopGhost
import Derived.Test.YtfkbijkmdnieiaaWLast
namespace Go.Proofs.Ytfkbijkmdnieiaa.PileInt
open Go.RowKit Go.Proofs.Ytfkbijkmdnieiaa.Mem Go.Proofs.Ytfkbijkmdnieiaa.Ring Go.Proofs.YtfkbijkmdnieiaaW.PrintWords

abbrev Own (w : World) (base : Nat) (v : Value) (xs : List Int) : Prop := (Kd.int .i64).R 3 w base (fun k => base ≤ k) v xs

theorem take_snoc' {α : Type} {l : List α} {i : Nat} {x : α} (h : l[i]? = some x) : l.take (i + 1) = l.take i ++ [x] := by
  obtain ⟨hi, rfl⟩ := List.getElem?_eq_some_iff.1 h
  rw [List.take_succ_eq_append_getElem hi]

set_option maxRecDepth 100000 in
set_option maxHeartbeats 2000000 in
theorem list (B R L f : Nat) (vs : List Int) (w : World) (h : P w B R L f vs) :
    Calls Try.prog 43 #[.pointer (some ⟨B, 0, none⟩)] w fun e w' => ∃ v, e = .returned v ∧ Own w' w.heap.size v vs ∧ Below w.heap.size w w' := by
  obtain ⟨c0, c1, c2, g0, g1, g2⟩ := head_cells h
  have hle := h.le
  have hL2 := h.most
  have hf : f ≤ 10000 := by have := h.first; omega
  have HP := Lib.hid h; clear h
  obtain ⟨n, hvn⟩ : ∃ n, vs.length = n := ⟨_, rfl⟩
  rw [hvn] at c2 hle
  have HVN := Lib.hid hvn; clear hvn
  go_enter Try.func43, Try.ntmps43
  go_wp2
  clear c0 c1 c2 g0 g1 g2
  go_loopw [3, 9] (fun v k wr => ∃ i : Nat, i ≤ n ∧ k = .int .i64 i ∧ Own wr w.heap.size v (vs.take i) ∧ Below w.heap.size w wr) (fun _ k _ => n - (intOf k).toNat)
  case atStart => exact ⟨0, by omega, rfl, Kd.R_nil _ _ _ _ _, Below.refl _ _⟩
  case round =>
    obtain ⟨i, hi, rfl, hown, hb⟩ := hrel
    by_cases hlt : i < n
    · obtain ⟨c0, c1, c2, g0, g1, g2⟩ := head_cells (HP.out.keep (Chg.of_below (S := fun _ => False) hb) (by simp) (by simp))
      obtain ⟨x, hx⟩ : ∃ x, vs[i]? = some x := ⟨vs[i]'(by rw [HVN.out]; exact hlt), by simp⟩
      have cr := ring_at (HP.out.keep (Chg.of_below (S := fun _ => False) hb) (by simp) (by simp)) i x hx
      obtain ⟨y, hy⟩ : ∃ y, (f + i) % L = y := ⟨_, rfl⟩
      have hyL : y < L := by rw [← hy]; exact Nat.mod_lt _ (by omega)
      rw [hy] at cr
      have HY := Lib.hid hy; clear hy
      have HO := Lib.hid hown; clear hown
      have HB := Lib.hid hb; clear hb
      have HX := Lib.hid hx; clear hx
      have hsz : w.heap.size ≤ wr.heap.size := HB.out.size
      have hl8 : ((vs.take i).length + 1) * 8 ≤ 140737488355328 := by simp; omega
      go_wp2_with fail
      go_region_law (first | (refine Kd.R_append_step (Kd.int .i64) (w0 := w) w.heap.size rfl (.tmp 12) (.tmp 22) 29 3 (.int .i64 0) 8 rfl Try.underlying29 info3 rfl (by decide) (by decide) u3 (vs.take i) x [.int .i64 x] (fun k => w.heap.size ≤ k) (fun _ => False) rfl rfl rfl (fun k hk => hk.elim) ?_ ?_ ?_ ?_ ?_ ?_; exact (fun k hk => Nat.le_trans hsz hk); exact Kd.R_drewN HO.out _; exact pw_below_drewN HB.out _; exact hsz; exact hl8; intro v1 w1 hR1 hB1 _ _) | (go_simp; go_at_call 72; refine (at_int B R L f i y _ (by omega) hL2 (by omega) (by omega) HY.out (by go_simp) (by go_simp)).mono ?_; rintro e w' ⟨rfl, m, rfl⟩))
      all_goals go_wp2
      all_goals go_roundw
      all_goals first
        | exact ⟨i + 1, by omega, by go_num, by rw [take_snoc' HX.out]; exact hR1, hB1⟩
        | (simp [intOf]; omega)
    · have e : i = n := by omega
      subst e
      have HO := Lib.hid hown; clear hown
      have HB := Lib.hid hb; clear hb
      go_wp2
      go_ret
      refine ⟨_, rfl, ?_, HB.out⟩
      have := HO.out
      rwa [List.take_of_length_le (by rw [HVN.out]; exact Nat.le_refl _)] at this

end Go.Proofs.Ytfkbijkmdnieiaa.PileInt
