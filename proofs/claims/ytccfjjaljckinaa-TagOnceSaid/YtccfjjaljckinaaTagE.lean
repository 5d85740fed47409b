/- The handle of a time. -/
import Derived.Test.YtccfjjaljckinaaTagD
namespace Go.Proofs.Ytccfjjaljckinaa.Tag
open Go.RowKit Go.Lib Go.Proofs.Ytccfjjaljckinaa.Mem Go.Proofs.Ytccfjjaljckinaa.IMap Go.Proofs.YtccfjjaljckinaaW.PrintWords

theorem timesOf_some {l : List Slot} {x y : Int} (h : timesOf l x = some y) : ∃ (i : Nat) (s : Slot), y = (i : Int) ∧ l[i]? = some s ∧ 0 < s.gen ∧ s.op.time = x := by
  unfold timesOf at h
  cases hf : l.findIdx? (fun s => decide (0 < s.gen) && decide (s.op.time = x)) with
  | none => rw [hf] at h; cases h
  | some i =>
    rw [hf] at h
    injection h with h
    obtain ⟨hi, hp, _⟩ := List.findIdx?_eq_some_iff_getElem.1 hf
    simp only [Bool.and_eq_true, decide_eq_true_eq] at hp
    exact ⟨i, l[i], h.symm, List.getElem?_eq_getElem hi, hp.1, hp.2⟩
theorem timesOf_none {l : List Slot} {x : Int} (h : timesOf l x = none) : ∀ s ∈ l, 0 < s.gen → s.op.time ≠ x := by
  unfold timesOf at h
  cases hf : l.findIdx? (fun s => decide (0 < s.gen) && decide (s.op.time = x)) with
  | some i => rw [hf] at h; cases h
  | none =>
    intro s hs hg ht
    have := List.findIdx?_eq_none_iff.1 hf s hs
    simp [hg, ht] at this

section
variable {w : World} {B M : Nat} {v : Value} {t : Tab}
set_option maxRecDepth 100000 in
set_option maxHeartbeats 1000000 in
theorem at_none (h : TabV w B M v t) {x : Int} (hx : In64 x) (hf : timesOf t.slots x = none) :
    Calls Try.prog 22 #[.pointer (some ⟨B, 0, none⟩), .int .i64 x] w fun e w' => e = .returned (.tuple #[.agg #[.int .i64 0, .int .i64 0], .bool false]) ∧ Below w.heap.size w w' := by
  have c3 := h.c3
  have hlk := (h.fresh ((Below.refl _ _).alloc (Nat.le_refl _) (.cells #[.int .i64 0, .int .i64 0] 28))).look hx
  have hB := h.head.lt
  have hu28 := Try.underlying28
  rw [hf] at hlk
  clear h hf
  go_enter Try.func22, Try.ntmps22
  go_wp2
  refine bodyPost_ret (results_ct rfl _ _ w.heap.size 28 _ (0, 0) _ rfl (Blk.new _ _ _) Try.underlying28 rfl (by kernel_rfl)) rfl ?_
  exact ⟨rfl, (Below.refl _ _).alloc (Nat.le_refl _) _⟩

set_option maxRecDepth 100000 in
set_option maxHeartbeats 1000000 in
theorem at_some (h : TabV w B M v t) {x : Int} (hx : In64 x) {i : Nat} {s : Slot} (hf : timesOf t.slots x = some (i : Int)) (hs : t.slots[i]? = some s) :
    Calls Try.prog 22 #[.pointer (some ⟨B, 0, none⟩), .int .i64 x] w fun e w' => e = .returned (.tuple #[.agg #[.int .i64 i, .int .i64 s.gen], .bool true]) ∧ Below w.heap.size w w' := by
  obtain ⟨R, cap, hv, hR, hle, hRB, hRM, hc, hfr⟩ := h.cells hs
  have c3 := h.c3
  have c2 := h.c2
  rw [hv] at c2
  have hlk := (h.fresh ((Below.refl _ _).alloc (Nat.le_refl _) (.cells #[.int .i64 0, .int .i64 0] 28))).look hx
  have hB := h.head.lt
  have hu28 := Try.underlying28
  have hfew := h.good.few
  have hlt := (List.getElem?_eq_some_iff.1 hs).1
  have k1 : w.cell? ⟨R, i * 6 + 1, none⟩ = some (.int .i64 s.gen) := hc 1 _ rfl
  rw [hf] at hlk
  have hi0 : (0 : Int) ≤ i := by omega
  have e1 : (i : Int).toNat = i := by omega
  clear h hf hs hc hfr hv
  generalize t.slots.length = N at *
  have hiN : (i : Int) < N := by omega
  go_enter Try.func22, Try.ntmps22
  go_wp2
  refine bodyPost_ret (results_ct rfl _ _ w.heap.size 28 _ (0, 0) _ rfl (Blk.new _ _ _) Try.underlying28 rfl (by kernel_rfl)) rfl ?_
  exact ⟨rfl, (Below.refl _ _).alloc (Nat.le_refl _) _⟩
end
end Go.Proofs.Ytccfjjaljckinaa.Tag
