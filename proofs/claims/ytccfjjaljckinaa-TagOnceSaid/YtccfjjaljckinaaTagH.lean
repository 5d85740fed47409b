/- Looking for a slot by a predicate. -/
import Derived.Test.YtccfjjaljckinaaTagG
import Derived.Test.YtccfjjaljckinaaShelfT
namespace Go.Proofs.Ytccfjjaljckinaa.Tag
open Go.RowKit Go.Lib Go.Shelf Go.Proofs.Ytccfjjaljckinaa.Mem Go.Proofs.Ytccfjjaljckinaa.IMap Go.Proofs.YtccfjjaljckinaaW.PrintWords

def aggSlot (s : Slot) : Value := .agg (encSlot s).toArray
def pFree (s : Slot) : Bool := decide (s.gen = 0) && decide (s.last < 4294967295)
def pKnown (id : Int) (s : Slot) : Bool := decide (0 < s.gen) && decide (s.op.id = id)

set_option maxRecDepth 100000 in
set_option maxHeartbeats 1000000 in
theorem closure46 (s : Slot) (w : World) : Calls Try.prog 46 #[aggSlot s] w fun e w' => e = .returned (.bool (pFree s)) ∧ Below w.heap.size w w' := by
  have hu73 := Try.underlying73
  unfold aggSlot encSlot pFree
  by_cases a1 : s.gen = 0
  · have t1 : (s.gen == 0) = true := beq_iff_eq.2 a1
    rw [decide_eq_true a1, Bool.true_and]
    clear a1
    go_enter Try.func46, Try.ntmps46
    go_wp2
    go_ret
    exact ⟨rfl, (Below.refl _ _).alloc (Nat.le_refl _) _⟩
  · have t1 : (s.gen == 0) = false := beq_eq_false_iff_ne.2 a1
    rw [decide_eq_false a1, Bool.false_and]
    clear a1
    go_enter Try.func46, Try.ntmps46
    go_wp2
    go_ret
    exact ⟨rfl, (Below.refl _ _).alloc (Nat.le_refl _) _⟩

set_option maxRecDepth 100000 in
set_option maxHeartbeats 1000000 in
theorem closure48 (s : Slot) (id : Int) (b : Nat) (w : World) (hb : w.cell? ⟨b, 0, none⟩ = some (.int .i64 id)) (hlt : b < w.heap.size) :
    Calls Try.prog 48 #[aggSlot s, .pointer (some ⟨b, 0, none⟩)] w fun e w' => e = .returned (.bool (pKnown id s)) ∧ Below w.heap.size w w' := by
  have hu73 := Try.underlying73
  have hu32 := Try.underlying32
  unfold aggSlot encSlot pKnown
  by_cases a1 : 0 < s.gen
  · have t1 : decide (0 < s.gen) = true := decide_eq_true a1
    rw [t1, Bool.true_and]
    by_cases a2 : s.op.id = id
    · have t2 : (s.op.id == id) = true := beq_iff_eq.2 a2
      rw [decide_eq_true a2]
      clear a2
      go_enter Try.func48, Try.ntmps48
      go_wp2
      go_ret
      exact ⟨rfl, (Below.refl _ _).alloc (Nat.le_refl _) _⟩
    · have t2 : (s.op.id == id) = false := beq_eq_false_iff_ne.2 a2
      rw [decide_eq_false a2]
      clear a2
      go_enter Try.func48, Try.ntmps48
      go_wp2
      go_ret
      exact ⟨rfl, (Below.refl _ _).alloc (Nat.le_refl _) _⟩
  · have t1 : decide (0 < s.gen) = false := decide_eq_false a1
    rw [t1, Bool.false_and]
    clear a1
    go_enter Try.func48, Try.ntmps48
    go_wp2
    go_ret
    exact ⟨rfl, (Below.refl _ _).alloc (Nat.le_refl _) _⟩

theorem idx_is (p : Slot → Bool) (l : List Slot) : Lib.idxBy (fun _ y => p y) l default = match l.findIdx? p with | some i => (i : Int) | none => -1 := by
  cases hf : l.findIdx? p with
  | some i =>
    obtain ⟨hi, hp, hn⟩ := List.findIdx?_eq_some_iff_getElem.1 hf
    have := Lib.idxBy_hit (fun _ y => p y) l l.length i default hi (Nat.le_refl _) (by simpa [hi] using hp) (fun j hj => by have := hn j hj; simpa [show j < l.length by omega] using this)
    rwa [List.take_length] at this
  | none =>
    have := Lib.idxBy_miss (fun _ y => p y) l l.length default (fun j hj => by
      have := List.findIdx?_eq_none_iff.1 hf l[j] (List.getElem_mem hj)
      simpa [hj] using this)
    rwa [List.take_length] at this

section
variable {w : World} {B M : Nat} {v : Value} {t : Tab}
theorem TabV.row0 (h : TabV w B M v t) (h0 : t.slots = []) : ∃ A cap, v = .slice A 0 cap := by
  rcases h.row.2 with ⟨rfl, _⟩ | ⟨R, cap, cur, rfl, _⟩
  · exact ⟨none, 0, rfl⟩
  · rw [h0]; exact ⟨_, _, rfl⟩

set_option maxRecDepth 100000 in
set_option maxHeartbeats 1000000 in
theorem idx_empty (A : Option Addr) (cap : Nat) (f : Value) (w : World) : Calls Try.prog 45 #[.slice A 0 cap, f] w fun e w' => e = .returned (.int .i64 (-1)) ∧ w' = w := by
  go_enter Try.func45, Try.ntmps45
  go_wp2
  refine wp_loop_rounds 1 ?_
  rw [rounds_succ]
  go_wp2
  go_ret
  exact ⟨rfl, rfl⟩

theorem idx45 (h : TabV w B M v t) : Calls Try.prog 45 #[v, .func (.func 46) #[] #[]] w fun e w' => e = .returned (.int .i64 (Lib.idxBy (fun _ y => pFree y) t.slots default)) ∧ Below w.heap.size w w' := by
  rcases Nat.eq_zero_or_pos t.slots.length with h0 | h0
  · obtain ⟨A, cap, rfl⟩ := h.row0 (List.length_eq_zero_iff.1 h0)
    refine (idx_empty A cap _ w).mono ?_
    rintro e w' ⟨rfl, rfl⟩
    rw [List.length_eq_zero_iff.1 h0]
    exact ⟨rfl, Below.refl _ _⟩
  · obtain ⟨R, cap, hv, hR, hle, hRB, hRM, hc, hfr⟩ := h.cells (List.getElem?_eq_getElem h0)
    have hfew := h.good.few
    have := AnyQ.slices_IndexFunc Try.lIdx 6 (fun w => by kernel_rfl) (fun w => by kernel_rfl) encSlot (fun _ => rfl) pFree 46 #[] (enters_of Try.func46 (by kernel_rfl) rfl) R 0 t.slots.length cap t.slots w
      (fun W x hb => (closure46 x W).mono (fun e w' ⟨he, hb'⟩ => ⟨he, btrans' hb hb'⟩)) (Nat.le_refl _) (by omega) hR (fun j hj i u hu => by
        rw [Nat.zero_add]
        obtain ⟨R', cap', hv', _, _, _, _, hc', _⟩ := h.cells (List.getElem?_eq_getElem hj)
        rw [hv] at hv'
        injection hv' with hv' _ _
        injection hv' with hv'
        injection hv' with hv' _ _
        subst hv'
        exact hc' i u (by simpa [hj] using hu))
    rw [List.take_length] at this
    rw [hv]
    exact this
end
end Go.Proofs.Ytccfjjaljckinaa.Tag
