/- What every table keeps that was made by acts: plain facts. No conditions. -/
import Derived.Test.YtccfjjaljckinaaRMh
namespace Go.Proofs.Ytccfjjaljckinaa.Tag
open Go.RowKit Go.Lib Go.Proofs.Ytccfjjaljckinaa.Mem Go.Proofs.Ytccfjjaljckinaa.IMap
set_option linter.unusedVariables false

structure Inv (t : Tab) : Prop where
  pos : ∀ s ∈ t.slots, 1 ≤ s.last
  ids : ∀ (i : Nat) (s : Slot), t.slots[i]? = some s → 0 < s.gen → 0 ≤ s.op.id ∧ s.op.id < t.serial ∧ (s.op.ins = false → s.op.key = 0)
  apart : ∀ (i j : Nat) (s u : Slot), t.slots[i]? = some s → t.slots[j]? = some u → 0 < s.gen → 0 < u.gen → s.op.id = u.op.id → i = j
theorem Inv.new (c : Int) : Inv (newT c) := ⟨fun s hs => (by cases hs), fun i s hs => (by simp [newT] at hs), fun i j s u hs => (by simp [newT] at hs)⟩
theorem Inv.put {t : Tab} (h : Inv t) {i : Nat} {s s' : Slot} (hs : t.slots[i]? = some s) (c n : Int) (hn : t.serial ≤ n) (hl : 1 ≤ s'.last) (hid : 0 < s'.gen → 0 ≤ s'.op.id ∧ s'.op.id < n ∧ (s'.op.ins = false → s'.op.key = 0))
    (hd : 0 < s'.gen → ∀ (j : Nat) (u : Slot), j ≠ i → t.slots[j]? = some u → 0 < u.gen → u.op.id ≠ s'.op.id) : Inv ⟨c, n, t.slots.set i s'⟩ := by
  refine ⟨fun u hu => ?_, fun j u hu hg => ?_, fun j k u v hu hv hg hg' e => ?_⟩
  · obtain ⟨j, hj⟩ := List.getElem?_of_mem hu
    by_cases hji : j = i
    · subst hji; rw [set_at hs] at hj; injection hj with hj; subst hj; exact hl
    · rw [set_off hji] at hj; exact h.pos u (List.mem_of_getElem? hj)
  · by_cases hji : j = i
    · subst hji; simp only at hu; rw [set_at hs] at hu; injection hu with hu; subst hu; exact hid hg
    · simp only at hu; rw [set_off hji] at hu
      obtain ⟨a, b, c⟩ := h.ids j u hu hg
      exact ⟨a, Int.lt_of_lt_of_le b hn, c⟩
  · simp only at hu hv
    by_cases hji : j = i
    · subst hji
      rw [set_at hs] at hu; injection hu with hu; subst hu
      by_cases hki : k = j
      · exact hki.symm
      · rw [set_off hki] at hv; exact absurd e.symm (hd hg k v hki hv hg')
    · rw [set_off hji] at hu
      by_cases hki : k = i
      · subst hki
        rw [set_at hs] at hv; injection hv with hv; subst hv
        exact absurd e (hd hg' j u hji hu hg)
      · rw [set_off hki] at hv; exact h.apart j k u v hu hv hg hg' e
theorem Inv.free {t : Tab} (h : Inv t) (g : Good t) {x : Int} {ins : Bool} {key : Int} (hs0 : 0 ≤ t.serial) : Inv (issueT t x ins key) := by
  obtain ⟨s, hs, hsg, _, hla⟩ := free_slot t
  have hl0 : 0 ≤ lastI t := by
    rw [← hla]
    unfold freeT at hs
    cases hf : t.slots.findIdx? pFree with
    | some i => rw [hf] at hs; exact (g.slots s (List.mem_of_getElem? hs)).last0
    | none =>
      rw [hf] at hs
      rcases List.mem_append.1 (List.mem_of_getElem? hs) with hm | hm
      · exact (g.slots s hm).last0
      · simp at hm; subst hm; exact Int.le_refl _
  have low : ∀ (j : Nat) (u : Slot), (freeT t).slots[j]? = some u → 0 < u.gen → t.slots[j]? = some u := by
    intro j u hu hg
    unfold freeT at hu
    cases hf : t.slots.findIdx? pFree with
    | some i => rw [hf] at hu; exact hu
    | none =>
      rw [hf] at hu
      simp only at hu
      rw [List.getElem?_append] at hu
      split at hu
      · exact hu
      · have := List.mem_of_getElem? hu
        rw [List.mem_singleton] at this
        subst this
        exact absurd hg (by decide)
  have low2 : ∀ (j : Nat) (u : Slot), j ≠ freeI t → (freeT t).slots[j]? = some u → t.slots[j]? = some u := by
    intro j u hj hu
    unfold freeT at hu
    unfold freeI at hj
    cases hf : t.slots.findIdx? pFree with
    | some i => rw [hf] at hu; exact hu
    | none =>
      rw [hf] at hu hj
      simp only at hu hj
      rw [List.getElem?_append] at hu
      split at hu
      · exact hu
      · have := (List.getElem?_eq_some_iff.1 hu).1
        simp at this; omega
  unfold issueT
  refine ⟨fun u hu => ?_, fun j u hu hg => ?_, fun j k u v hu hv hg hg' e => ?_⟩
  · obtain ⟨j, hj⟩ := List.getElem?_of_mem hu
    by_cases hji : j = freeI t
    · subst hji; rw [set_at hs] at hj; injection hj with hj; subst hj; simp only; omega
    · rw [set_off hji] at hj; exact h.pos u (List.mem_of_getElem? (low2 j u hji hj))
  · simp only at hu
    by_cases hji : j = freeI t
    · subst hji; rw [set_at hs] at hu; injection hu with hu; subst hu
      simp only [issueOp]
      exact ⟨hs0, by omega, fun hi => by rw [hi]; rfl⟩
    · rw [set_off hji] at hu
      obtain ⟨a, b, c⟩ := h.ids j u (low j u hu hg) hg
      exact ⟨a, by simp only; omega, c⟩
  · simp only at hu hv
    by_cases hji : j = freeI t
    · subst hji
      rw [set_at hs] at hu; injection hu with hu; subst hu
      by_cases hki : k = freeI t
      · exact hki.symm
      · rw [set_off hki] at hv
        have := (h.ids k v (low k v hv hg') hg').2.1
        simp only [issueOp] at e
        omega
    · rw [set_off hji] at hu
      by_cases hki : k = freeI t
      · subst hki
        rw [set_at hs] at hv; injection hv with hv; subst hv
        have := (h.ids j u (low j u hu hg) hg).2.1
        simp only [issueOp] at e
        omega
      · rw [set_off hki] at hv
        exact h.apart j k u v (low j u hu hg) (low k v hv hg') hg hg' e
/-- No more live than may. -/
def Fits (t : Tab) : Prop := (liveN t.slots : Int) ≤ t.cap
end Go.Proofs.Ytccfjjaljckinaa.Tag
