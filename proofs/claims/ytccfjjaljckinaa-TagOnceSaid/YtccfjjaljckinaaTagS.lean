/- No handle and no number is issued twice: plain facts on tables. No conditions. -/
import Derived.Test.YtccfjjaljckinaaTagR
namespace Go.Proofs.Ytccfjjaljckinaa.Tag
open Go.RowKit Go.Proofs.Ytccfjjaljckinaa.Mem Go.Proofs.Ytccfjjaljckinaa.IMap

/-- Slots stay, and what was issued of each stays or grows. -/
def Grows (t t' : Tab) : Prop := t.slots.length ≤ t'.slots.length ∧ ∀ (i : Nat) (s : Slot), t.slots[i]? = some s → ∃ s', t'.slots[i]? = some s' ∧ s.last ≤ s'.last
theorem Grows.refl (t : Tab) : Grows t t := ⟨Nat.le_refl _, fun _ s h => ⟨s, h, Int.le_refl _⟩⟩
theorem Grows.trans {a b c : Tab} (h : Grows a b) (h' : Grows b c) : Grows a c := ⟨Nat.le_trans h.1 h'.1, fun i s hs => by
  obtain ⟨s1, h1, l1⟩ := h.2 i s hs
  obtain ⟨s2, h2, l2⟩ := h'.2 i s1 h1
  exact ⟨s2, h2, Int.le_trans l1 l2⟩⟩
theorem Grows.set {t : Tab} {i : Nat} {s : Slot} (s' : Slot) (hs : t.slots[i]? = some s) (hl : s.last ≤ s'.last) (c d : Int) : Grows t ⟨c, d, t.slots.set i s'⟩ := by
  refine ⟨by simp, fun j x hx => ?_⟩
  by_cases hj : j = i
  · subst hj
    rw [hs] at hx; injection hx with hx; subst hx
    exact ⟨s', set_at hs, hl⟩
  · exact ⟨x, by rw [← hx]; exact set_off hj, Int.le_refl _⟩
theorem Grows.free (t : Tab) : Grows t (freeT t) := by
  unfold freeT
  split
  · exact Grows.refl t
  · exact ⟨by simp, fun i s hs => ⟨s, by rw [← hs]; exact List.getElem?_append_left (List.getElem?_eq_some_iff.1 hs).1, Int.le_refl _⟩⟩
theorem freeT_len (t : Tab) : (freeT t).slots.length ≤ t.slots.length + 1 := by unfold freeT; split <;> simp

theorem drop_grows (t : Tab) (r : Ref) : Grows t (dropR t r).2.2 ∧ (dropR t r).2.2.serial = t.serial ∧ (dropR t r).2.2.slots.length = t.slots.length := by
  unfold dropR
  split
  · exact ⟨Grows.refl t, rfl, rfl⟩
  · split
    · rename_i i _ s hs
      exact ⟨Grows.set (⟨s.last, 0, op0⟩ : Slot) hs (Int.le_refl _) _ _, rfl, by simp⟩
    · exact ⟨Grows.refl t, rfl, rfl⟩
theorem move_grows (t : Tab) (r : Ref) (x : Int) : Grows t (moveR t r x).2 ∧ (moveR t r x).2.serial = t.serial ∧ (moveR t r x).2.slots.length = t.slots.length := by
  unfold moveR
  split
  · exact ⟨Grows.refl t, rfl, rfl⟩
  · split
    · rename_i i _ s hs
      split
      · exact ⟨Grows.refl t, rfl, rfl⟩
      · exact ⟨Grows.set (moveSlot s x) hs (Int.le_refl _) _ _, rfl, by simp⟩
    · exact ⟨Grows.refl t, rfl, rfl⟩
theorem revive_grows (t : Tab) (l : Listed) : Grows t (reviveT t l) ∧ (reviveT t l).serial = t.serial ∧ (reviveT t l).slots.length = t.slots.length := by
  unfold reviveT
  split
  · cases hs : t.slots[l.r.i.toNat]? with
    | none =>
      refine ⟨⟨by simp, fun j x hx => ⟨x, ?_, Int.le_refl _⟩⟩, rfl, by simp⟩
      have hn := List.getElem?_eq_none_iff.1 hs
      have hj := (List.getElem?_eq_some_iff.1 hx).1
      rw [← hx]
      exact set_off (by omega)
    | some s => exact ⟨Grows.set (⟨s.last, l.r.g, l.o⟩ : Slot) hs (Int.le_refl _) _ _, rfl, by simp⟩
  · exact ⟨Grows.refl t, rfl, rfl⟩
theorem issue_grows {t : Tab} {x : Int} {ins : Bool} {key : Int} : Grows t (issueT t x ins key) ∧ (issueT t x ins key).slots.length ≤ t.slots.length + 1 := by
  obtain ⟨s, hs, _, _, hl⟩ := free_slot t
  unfold issueT
  exact ⟨(Grows.free t).trans (Grows.set _ hs (by show s.last ≤ lastI t + 1; omega) _ _), by simp; exact freeT_len t⟩

/-- Whatever was told is of this table. -/
structure Told (told : List Listed) (t : Tab) : Prop where
  serial : t.serial = told.length
  each : ∀ l ∈ told, 0 ≤ l.r.i ∧ l.o.id < t.serial ∧ ∃ s, t.slots[l.r.i.toNat]? = some s ∧ l.r.g ≤ s.last
  fits : ∀ l ∈ told, In64 l.r.i ∧ In64 l.r.g ∧ In64O l.o
theorem Told.grow {told : List Listed} {t t' : Tab} (h : Told told t) (hg : Grows t t') (hs : t'.serial = t.serial) : Told told t' := by
  refine ⟨hs.trans h.serial, fun l hl => ?_, h.fits⟩
  obtain ⟨a, b, s, c, d⟩ := h.each l hl
  obtain ⟨s', c', d'⟩ := hg.2 _ s c
  exact ⟨a, by rw [hs]; exact b, s', c', Int.le_trans d d'⟩
theorem Told.new {told : List Listed} {t : Tab} (h : Told told t) (x : Int) (ins : Bool) (key : Int) : ∀ l ∈ told, (l.r.i = (freeI t : Int) → l.r.g ≠ lastI t + 1) ∧ l.o.id ≠ (issueOp t x ins key).id := by
  intro l hl
  obtain ⟨a, b, s, c, d⟩ := h.each l hl
  refine ⟨fun e hg => ?_, fun e => ?_⟩
  · obtain ⟨s1, c1, d1⟩ := (Grows.free t).2 _ s c
    rw [e, Int.toNat_natCast] at c1
    obtain ⟨s2, c2, _, _, e2⟩ := free_slot t
    rw [c1] at c2
    injection c2 with c2
    subst c2
    omega
  · unfold issueOp at e
    simp only at e
    omega
theorem Told.issued {told : List Listed} {t : Tab} (h : Told told t) (g : Good t) {x : Int} {ins : Bool} {key : Int} (hx : In64 x) (hk : In64 key) (hl : t.slots.length ≤ 1000000) (_ : t.serial ≤ 1000000) : Told (told ++ [⟨⟨freeI t, lastI t + 1⟩, issueOp t x ins key⟩]) (issueT t x ins key) := by
  obtain ⟨s, hs, _, hlt, hla⟩ := free_slot t
  have hlen : freeI t < (freeT t).slots.length := (List.getElem?_eq_some_iff.1 hs).1
  have hf := freeT_len t
  have l0 : 0 ≤ s.last := by
    unfold freeT at hs
    split at hs
    · exact (g.slots s (List.mem_of_getElem? hs)).last0
    · rcases List.mem_append.1 (List.mem_of_getElem? hs) with h1 | h1
      · exact (g.slots s h1).last0
      · rw [List.mem_singleton] at h1; subst h1; decide
  refine ⟨?_, fun l hl => ?_, fun l hl => ?_⟩
  · show t.serial + 1 = _
    rw [h.serial]; simp
  · rcases List.mem_append.1 hl with hl | hl
    · obtain ⟨a, b, s1, c, d⟩ := h.each l hl
      obtain ⟨s', c', d'⟩ := (issue_grows (t := t) (x := x) (ins := ins) (key := key)).1.2 _ s1 c
      exact ⟨a, by show l.o.id < t.serial + 1; omega, s', c', Int.le_trans d d'⟩
    · rw [List.mem_singleton] at hl
      subst hl
      refine ⟨by show 0 ≤ (freeI t : Int); omega, by show t.serial < t.serial + 1; omega, ⟨lastI t + 1, lastI t + 1, issueOp t x ins key⟩, ?_, Int.le_refl _⟩
      show ((freeT t).slots.set (freeI t) _)[(freeI t : Int).toNat]? = _
      rw [Int.toNat_natCast]
      exact set_at hs
  · rcases List.mem_append.1 hl with hl | hl
    · exact h.fits l hl
    · rw [List.mem_singleton] at hl
      subst hl
      refine ⟨⟨by show _ ≤ (freeI t : Int); omega, by show (freeI t : Int) ≤ _; omega⟩, ⟨by show _ ≤ lastI t + 1; omega, by show lastI t + 1 ≤ _; omega⟩, hx, ?_, ?_⟩
      · show In64 (if ins then key else 0)
        split
        · exact hk
        · unfold In64; omega
      · exact g.serial
end Go.Proofs.Ytccfjjaljckinaa.Tag
