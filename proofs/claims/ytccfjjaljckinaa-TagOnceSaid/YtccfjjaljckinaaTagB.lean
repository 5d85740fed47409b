/- Finding a slot. -/
import Derived.Test.YtccfjjaljckinaaTagA
import Derived.WalkKit
import Derived.Below
import Derived.Lib.Hide
import Derived.Deep.QuietTactic
import Derived.BigQuiet
import Derived.Outline
namespace Go.Proofs.Ytccfjjaljckinaa.Tag
open Go.RowKit Go.Lib Go.Proofs.Ytccfjjaljckinaa.Mem Go.Proofs.Ytccfjjaljckinaa.IMap
set_option maxRecDepth 100000 in
set_option maxHeartbeats 1000000 in
theorem find_some {w : World} {B M : Nat} {v : Value} {t : Tab} {s : Slot} {ri rg : Int} {i : Nat} (h : TabV w B M v t) (hs : t.slots[i]? = some s) (hi : ri = i) (hg : s.gen = rg) (h1 : 1 ≤ rg) :
    ∃ R cap, v = .slice (some ⟨R, 0, none⟩) t.slots.length cap ∧ Calls Try.prog 32 #[.pointer (some ⟨B, 0, none⟩), .agg #[.int .i64 ri, .int .i64 rg]] w fun e w' =>
      e = .returned (.pointer (some ⟨R, i * 6, none⟩)) ∧ Below w.heap.size w w' := by
  obtain ⟨R, cap, hv, hR, hle, hRB, hRM, hc, hf⟩ := h.cells hs
  refine ⟨R, cap, hv, ?_⟩
  have hlt := (List.getElem?_eq_some_iff.1 hs).1
  have hfew := h.good.few
  have hB := h.head.lt
  have c2 : w.cell? ⟨B, 2, none⟩ = some (.slice (some ⟨R, 0, none⟩) t.slots.length cap) := by rw [← hv]; exact h.head.cell (j := 2) rfl
  have k1 : w.cell? ⟨R, i * 6 + 1, none⟩ = some (.int .i64 rg) := by rw [← hg]; exact hc 1 _ rfl
  have hu28 := Try.underlying28
  subst hi
  generalize t.slots.length = N at *
  clear h hs hg hc hv hf hle
  go_enter Try.func32, Try.ntmps32
  go_wp2
  have t1 : decide ((i : Int) < 0) = false := decide_eq_false (by omega)
  have t2 : decide ((N : Int) ≤ (i : Int)) = false := decide_eq_false (by omega)
  have t3 : decide (rg < 1) = false := decide_eq_false (by omega)
  have hi0 : (0 : Int) ≤ i := by omega
  have hiN : (i : Int) < N := by omega
  have e1 : (i : Int).toNat = i := by omega
  go_quiet (fail)
  go_wp2
  go_quiet (fail)
  go_wp2
  go_ret
  exact ⟨rfl, by (repeat (refine bdn ?_ _)); exact (Below.refl _ _).alloc (Nat.le_refl _) _⟩

set_option maxRecDepth 100000 in
set_option maxHeartbeats 2000000 in
theorem find_none {w : World} {B M : Nat} {v : Value} {t : Tab} {ri rg : Int} (h : TabV w B M v t) (hn : findOf t ri rg = none) :
    Calls Try.prog 32 #[.pointer (some ⟨B, 0, none⟩), .agg #[.int .i64 ri, .int .i64 rg]] w fun e w' => e = .returned (.pointer none) ∧ Below w.heap.size w w' := by
  have hfew := h.good.few
  have hB := h.head.lt
  obtain ⟨A, cap, hv⟩ : ∃ A cap, v = .slice A t.slots.length cap := by
    rcases h.row.2 with ⟨rfl, h0⟩ | ⟨R, cap, cur, rfl, _⟩
    · exact ⟨none, 0, by rw [h0]⟩
    · exact ⟨_, _, rfl⟩
  have c2 : w.cell? ⟨B, 2, none⟩ = some (.slice A t.slots.length cap) := by rw [← hv]; exact h.head.cell (j := 2) rfl
  have hu28 := Try.underlying28
  by_cases a1 : ri < 0
  · have t1 : decide (ri < 0) = true := decide_eq_true a1
    generalize t.slots.length = N at *
    clear h hv hn
    go_enter Try.func32, Try.ntmps32
    go_wp2
    go_quiet (fail)
    go_wp2
    go_ret
    exact ⟨rfl, by (repeat (refine bdn ?_ _)); exact (Below.refl _ _).alloc (Nat.le_refl _) _⟩
  have t1 : decide (ri < 0) = false := decide_eq_false a1
  by_cases a2 : (t.slots.length : Int) ≤ ri
  · have t2 : decide ((t.slots.length : Int) ≤ ri) = true := decide_eq_true a2
    generalize t.slots.length = N at *
    clear h hv hn
    go_enter Try.func32, Try.ntmps32
    go_wp2
    go_quiet (fail)
    go_wp2
    go_ret
    exact ⟨rfl, by (repeat (refine bdn ?_ _)); exact (Below.refl _ _).alloc (Nat.le_refl _) _⟩
  have t2 : decide ((t.slots.length : Int) ≤ ri) = false := decide_eq_false a2
  by_cases a3 : rg < 1
  · have t3 : decide (rg < 1) = true := decide_eq_true a3
    generalize t.slots.length = N at *
    clear h hv hn
    go_enter Try.func32, Try.ntmps32
    go_wp2
    go_quiet (fail)
    go_wp2
    go_ret
    exact ⟨rfl, by (repeat (refine bdn ?_ _)); exact (Below.refl _ _).alloc (Nat.le_refl _) _⟩
  have t3 : decide (rg < 1) = false := decide_eq_false a3
  obtain ⟨i, rfl⟩ : ∃ i : Nat, ri = i := ⟨ri.toNat, by omega⟩
  have hi : i < t.slots.length := by omega
  obtain ⟨R, cap', hv', hR, hle, hRB, hRM, hc, hf⟩ := h.cells (List.getElem?_eq_getElem hi)
  rw [hv] at hv'
  injection hv' with hA _ hcap
  subst hA; subst hcap
  have hne : t.slots[i].gen ≠ rg := by
    intro e
    unfold findOf at hn
    rw [if_pos ⟨by omega, by omega, by omega, by rw [Int.toNat_natCast, List.getElem?_eq_getElem hi]; simp [e]⟩] at hn
    cases hn
  have k1 : w.cell? ⟨R, i * 6 + 1, none⟩ = some (.int .i64 t.slots[i].gen) := hc 1 _ rfl
  have hi0 : (0 : Int) ≤ i := by omega
  have hiN : (i : Int) < t.slots.length := by omega
  have e1 : (i : Int).toNat = i := by omega
  clear h hv hn hc hf hle
  generalize t.slots[i].gen = G at *
  have t4 : (G == rg) = false := beq_eq_false_iff_ne.2 hne
  have t5 : (G != rg) = true := by rw [bne, t4]; rfl
  clear hne
  generalize t.slots.length = N at *
  go_enter Try.func32, Try.ntmps32
  go_wp2
  go_quiet (fail)
  go_wp2
  go_ret
  exact ⟨rfl, by (repeat (refine bdn ?_ _)); exact (Below.refl _ _).alloc (Nat.le_refl _) _⟩
end Go.Proofs.Ytccfjjaljckinaa.Tag
