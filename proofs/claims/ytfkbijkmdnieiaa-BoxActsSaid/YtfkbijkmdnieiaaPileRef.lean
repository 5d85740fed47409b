/- The contract of the document's own push on a list. No conditions. -/
import Derived.Test.YtfkbijkmdnieiaaPileAwake
import Derived.Test.YtfkbijkmdnieiaaWLast
namespace Go.Proofs.Ytfkbijkmdnieiaa.PileRef
open Go.RowKit Go.Proofs.Ytfkbijkmdnieiaa.Mem Go.Proofs.Ytfkbijkmdnieiaa.Ring Go.Proofs.Ytfkbijkmdnieiaa.PileInt Go.Proofs.YtfkbijkmdnieiaaW.PrintWords

/-- A slice that reads as a list, from block lo on. -/
def Seg (w : World) (lo : Nat) (A : Option Addr) (xs : List Int) : Prop :=
  xs.length ≤ 9223372036854775807 ∧ (0 < xs.length → ∃ g o, A = some ⟨g, o, none⟩ ∧ lo ≤ g ∧ ∀ i v, xs[i]? = some v → w.cell? ⟨g, o + i, none⟩ = some (.int .i64 v))

theorem Seg.nil (w : World) (lo : Nat) (A : Option Addr) : Seg w lo A [] := ⟨by simp, by simp⟩
theorem Seg.toC {w : World} {lo : Nat} {A : Option Addr} {xs : List Int} (h : Seg w lo A xs) : (Kd.int .i64).C w A xs.length xs := by
  refine ⟨rfl, h.1, fun hp => ?_⟩
  obtain ⟨g, o, rfl, _, hc⟩ := h.2 hp
  refine ⟨_, rfl, fun j p hj => ⟨[.int .i64 p], rfl, rfl, fun i u hu => ?_⟩⟩
  match i, hu with
  | 0, hu =>
    simp at hu; subst hu
    have := hc j p hj
    simp only [Kd.int, Kd.scalar, Nat.mul_one, Nat.add_zero]
    rw [add_at]; exact this
theorem Seg.chg {w w' : World} {lo : Nat} {A : Option Addr} {xs : List Int} {S : Nat → Prop} (h : Seg w lo A xs) (hc : Chg S w w') (hs : ∀ k, lo ≤ k → ¬ S k) : Seg w' lo A xs := by
  refine ⟨h.1, fun hp => ?_⟩
  obtain ⟨g, o, rfl, hg, hcell⟩ := h.2 hp
  refine ⟨g, o, rfl, hg, fun i v hv => ?_⟩
  have h1 := hcell i v hv
  exact (hc.cell (p := ⟨g, o + i, none⟩) (World.block_lt_of_cell? w _ h1) (hs g hg)).trans h1
theorem Seg.below {w w' : World} {lo : Nat} {A : Option Addr} {xs : List Int} (h : Seg w lo A xs) (hc : Below w.heap.size w w') : Seg w' lo A xs := h.chg (Chg.of_below (S := fun _ => False) hc) (by simp)
theorem Seg.tail {w : World} {lo g o : Nat} {x : Int} {xs : List Int} (h : Seg w lo (some ⟨g, o, none⟩) (x :: xs)) : Seg w lo (some ⟨g, o + 1, none⟩) xs := by
  refine ⟨by have := h.1; simp at this; omega, fun _ => ?_⟩
  obtain ⟨g', o', he, hg, hcell⟩ := h.2 (by simp)
  simp only [Option.some.injEq, Addr.mk.injEq, and_true] at he
  obtain ⟨rfl, rfl⟩ := he
  refine ⟨g, o + 1, rfl, hg, fun i v hv => ?_⟩
  have := hcell (i + 1) v (by simpa using hv)
  rwa [show o + (i + 1) = o + 1 + i from by omega] at this
theorem Seg.take {w : World} {lo : Nat} {A : Option Addr} {xs : List Int} (h : Seg w lo A xs) (n : Nat) : Seg w lo A (xs.take n) := by
  refine ⟨by have := h.1; simp; omega, fun hp => ?_⟩
  obtain ⟨g, o, rfl, hg, hcell⟩ := h.2 (by simp at hp; omega)
  refine ⟨g, o, rfl, hg, fun i v hv => hcell i v ?_⟩
  rw [List.getElem?_take] at hv
  split at hv
  · exact hv
  · simp at hv

theorem seg_of_own {w : World} {lo c : Nat} {A : Option Addr} {xs : List Int} (h : Own w lo (.slice A xs.length c) xs) : Seg w lo A xs := by
  have hm := Kd.C_max (Kd.R_reads' h).2.2
  refine ⟨hm, fun hp => ?_⟩
  obtain ⟨g, cap, hv, h1, _, _⟩ := Kd.R_form h hp
  injection hv with hA _ hcap
  subst hA; subst hcap
  refine ⟨g, 0, rfl, h1, fun i v hv => ?_⟩
  have hi := (List.getElem?_eq_some_iff.1 hv).1
  have := (Kd.R_cell 0 h i (by omega) (by omega)).1
  rw [Int.toNat_natCast] at this
  rw [Nat.zero_add, this]
  unfold rdOf
  rw [Int.toNat_natCast, List.getD, hv]; rfl

/-- What the document's push answers. -/
def Told (L : Nat) (vs : List Int) (v : Int) (w : World) (e : Ending) (w' : World) : Prop :=
  ∃ A1 c1 A2 c2, e = .returned (.tuple #[.slice A1 (pushed L vs v).1.length c1, .slice A2 (pushed L vs v).2.toList.length c2]) ∧
      (pushed L vs v).1.length ≤ c1 ∧ (pushed L vs v).2.toList.length ≤ c2 ∧ Seg w' w.heap.size A1 (pushed L vs v).1 ∧ Seg w' w.heap.size A2 (pushed L vs v).2.toList ∧ Below w.heap.size w w'

theorem told_room {L : Nat} {vs : List Int} {v : Int} {w w' : World} {A : Option Addr} {c : Nat} (h : vs.length < L) (hs : Seg w' w.heap.size A (vs ++ [v])) (hc : vs.length + 1 ≤ c) (hb : Below w.heap.size w w') :
    Told L vs v w (.returned (.tuple #[.slice A (vs.length + 1) c, .slice none 0 0])) w' := by
  have e : pushed L vs v = (vs ++ [v], none) := by unfold pushed; rw [if_neg (by omega), if_neg (by omega)]
  unfold Told
  rw [e]
  exact ⟨A, c, none, 0, by simp, by simpa using hc, by simp, hs, Seg.nil _ _ _, hb⟩

theorem told_full {L : Nat} {vs : List Int} {v : Int} {w w' : World} {g o : Nat} {c c1 c2 : Nat} {A1 : Option Addr} (h : vs.length = L) (hs : Seg w' w.heap.size (some ⟨g, o, none⟩) (vs ++ [v])) (hA : 0 < L → A1 = some ⟨g, o + 1, none⟩) (_hc : vs.length + 1 ≤ c) (h1 : vs.length ≤ c1) (h2 : 1 ≤ c2) (hb : Below w.heap.size w w') :
    Told L vs v w (.returned (.tuple #[.slice A1 vs.length c1, .slice (some ⟨g, o, none⟩) 1 c2])) w' := by
  unfold Told
  cases vs with
  | nil =>
    simp at h; subst h
    exact ⟨A1, c1, some ⟨g, o, none⟩, c2, rfl, by simp [pushed], by simpa [pushed] using h2, by simpa [pushed] using Seg.nil _ _ _, by simpa [pushed] using hs, hb⟩
  | cons x xs =>
    have e : pushed L (x :: xs) v = (xs ++ [v], some x) := by unfold pushed; rw [if_neg (by simp at h; omega), if_pos h]; rfl
    rw [e]
    have hA := hA (by simp at h; omega)
    subst hA
    refine ⟨_, c1, some ⟨g, o, none⟩, c2, by simp, by simpa using h1, by simpa using h2, (Seg.tail hs : Seg w' w.heap.size _ (xs ++ [v])), ?_, hb⟩
    exact (Seg.take hs 1 : Seg w' w.heap.size _ [x])

set_option maxRecDepth 100000 in
set_option maxHeartbeats 2000000 in
theorem push_room (L : Nat) (v : Int) (A : Option Addr) (c : Nat) (vs : List Int) (w : World) (lo : Nat) (hs : Seg w lo A vs) (hle : vs.length < L) (hL : L ≤ 10000) :
    Calls Try.prog 52 #[.slice A vs.length c, .int .i64 L, .int .i64 v] w (Told L vs v w) := by
  have HC := Lib.hid hs.toC; clear hs
  have HLE := Lib.hid (Nat.le_of_lt hle)
  have hno : ¬ L < vs.length + 1 := by omega
  go_enter Try.func52, Try.ntmps52
  go_wp2_with (first
    | (refine gate_dst (N := 8) rfl ?_; refine Kd.R_lit (Kd.int .i64) w.heap.size 3 ?_ (N := 8) ?_ (xs := ([] : List Int)) (inner := []) (ok := fun k => w.heap.size ≤ k) (okp := fun _ => False) ?_ ?_ (fun _ hk => hk.elim) (Nat.le_refl _) (Below.refl _ _) (Nat.le_refl _) (by simp) ?_; rfl; rfl; (next => first | (go_simp; done) | (go_simp; rfl)); exact Reps.none _ _; intro ve we hE hbE _ _; have HCl2 := Lib.hid (Kd.C_below HC.out hbE))
    | (refine gate_dst (N := 10) rfl ?_; refine Kd.R_append_row (Value.int .i64) 0 (w0 := w) w.heap.size ?_ (.tmp 8) (.tmp 9) 29 3 (.int .i64 0) 8 ?_ Try.underlying29 PileInt.info3 rfl (by decide) _ [] vs A vs.length c (fun k => w.heap.size ≤ k) rfl rfl ?_ hE HCl2.out hbE hbE.size ?_ ?_; rfl; rfl; exact (fun k hk => Nat.le_trans hbE.size hk); (have := HLE.out; simp; omega); intro v6 w6 hR6 hB6 _ _)
    | (refine gate_dst (N := 13) rfl ?_; refine Kd.R_append (Kd.int .i64) (w0 := w) w.heap.size ?_ (.tmp 10) (.tmp 12) 29 3 (.int .i64 0) 8 ?_ Try.underlying29 PileInt.info3 rfl (by decide) (by decide) _ ([] ++ vs) v [.int .i64 v] (fun k => w.heap.size ≤ k) (fun _ => False) rfl rfl rfl (fun k hk => hk.elim) ?_ hR6 hB6 hB6.size ?_ ?_; rfl; rfl; exact (fun k hk => Nat.le_trans hB6.size hk); (have := HLE.out; simp; omega); intro v7 w7 hR7 hB7 _ _; obtain ⟨A7, c7, rfl, hc7, _⟩ := Kd.R_reads hR7))
  go_ret2
  refine told_room hle ?_ (by simpa using hc7) hB7
  exact seg_of_own hR7

set_option maxRecDepth 100000 in
set_option maxHeartbeats 2000000 in
theorem push_full (L : Nat) (v : Int) (A : Option Addr) (c : Nat) (vs : List Int) (w : World) (lo : Nat) (hs : Seg w lo A vs) (hle : vs.length = L) (hL : L ≤ 10000) :
    Calls Try.prog 52 #[.slice A vs.length c, .int .i64 L, .int .i64 v] w (Told L vs v w) := by
  have HC := Lib.hid hs.toC; clear hs
  have HLE := Lib.hid (Nat.le_of_eq hle)
  have HEQ := Lib.hid hle
  have hno : L < vs.length + 1 := by omega
  clear hle
  go_enter Try.func52, Try.ntmps52
  go_wp2_with (first
    | (refine gate_dst (N := 8) rfl ?_; refine Kd.R_lit (Kd.int .i64) w.heap.size 3 ?_ (N := 8) ?_ (xs := ([] : List Int)) (inner := []) (ok := fun k => w.heap.size ≤ k) (okp := fun _ => False) ?_ ?_ (fun _ hk => hk.elim) (Nat.le_refl _) (Below.refl _ _) (Nat.le_refl _) (by simp) ?_; rfl; rfl; (next => first | (go_simp; done) | (go_simp; rfl)); exact Reps.none _ _; intro ve we hE hbE _ _; have HCl2 := Lib.hid (Kd.C_below HC.out hbE))
    | (refine gate_dst (N := 10) rfl ?_; refine Kd.R_append_row (Value.int .i64) 0 (w0 := w) w.heap.size ?_ (.tmp 8) (.tmp 9) 29 3 (.int .i64 0) 8 ?_ Try.underlying29 PileInt.info3 rfl (by decide) _ [] vs A vs.length c (fun k => w.heap.size ≤ k) rfl rfl ?_ hE HCl2.out hbE hbE.size ?_ ?_; rfl; rfl; exact (fun k hk => Nat.le_trans hbE.size hk); (have := HLE.out; simp; omega); intro v6 w6 hR6 hB6 _ _)
    | (refine gate_dst (N := 13) rfl ?_; refine Kd.R_append (Kd.int .i64) (w0 := w) w.heap.size ?_ (.tmp 10) (.tmp 12) 29 3 (.int .i64 0) 8 ?_ Try.underlying29 PileInt.info3 rfl (by decide) (by decide) _ ([] ++ vs) v [.int .i64 v] (fun k => w.heap.size ≤ k) (fun _ => False) rfl rfl rfl (fun k hk => hk.elim) ?_ hR6 hB6 hB6.size ?_ ?_; rfl; rfl; exact (fun k hk => Nat.le_trans hB6.size hk); (have := HLE.out; simp; omega); intro v7 w7 hR7 hB7 _ _; obtain ⟨A7, c7, rfl, hc7, _⟩ := Kd.R_reads hR7))
  have hS : Hid (Seg w7 w.heap.size A7 (vs ++ [v])) := seg_of_own hR7
  have hc8 : vs.length + 1 ≤ c7 := by simpa using hc7
  obtain ⟨g, o, rfl, _, _⟩ := hS.out.2 (by simp)
  have HB7 := Lib.hid hB7
  clear hR7 hB7 hc7
  by_cases hcc : c7 = 1
  · subst hcc
    have hv0 : vs.length = 0 := by omega
    have HV0 := Lib.hid hv0; clear hv0
    go_quiet (fail)
    go_wp2
    go_ret2
    have hz := HV0.out
    have e0 : L = 0 := by rw [← HEQ.out]; exact hz
    have := told_full (c := 1) (c1 := 0) (c2 := 1) (A1 := some ⟨g, o, none⟩) HEQ.out ((hS.out).chg ((Chg.refl (fun _ => False) w7).drewN nq) (by simp)) (by intro h; omega) (by omega) (by omega) (by omega) (HB7.out.trans ((((Chg.refl (fun _ => False) w7).drewN nq).below (by simp) HB7.out.size)))
    rw [hz] at this
    exact this
  · have h1c : 1 < c7 := by omega
    go_quiet (fail)
    go_wp2
    go_ret2
    exact told_full (c := c7) (c1 := c7 - 1) (c2 := c7) HEQ.out ((hS.out).chg ((Chg.refl (fun _ => False) w7).drewN nq) (by simp)) (fun _ => rfl) (by omega) (by omega) (by omega) (HB7.out.trans ((((Chg.refl (fun _ => False) w7).drewN nq).below (by simp) HB7.out.size)))

theorem push (L : Nat) (v : Int) (A : Option Addr) (c : Nat) (vs : List Int) (w : World) (lo : Nat) (hs : Seg w lo A vs) (hle : vs.length ≤ L) (hL : L ≤ 10000) :
    Calls Try.prog 52 #[.slice A vs.length c, .int .i64 L, .int .i64 v] w (Told L vs v w) := by
  by_cases h : vs.length = L
  · exact push_full L v A c vs w lo hs h hL
  · exact push_room L v A c vs w lo hs (by omega) hL

end Go.Proofs.Ytfkbijkmdnieiaa.PileRef
