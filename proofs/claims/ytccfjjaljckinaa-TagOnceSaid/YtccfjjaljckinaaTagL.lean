/- A new table; moving; what is known. -/
import Derived.Test.YtccfjjaljckinaaTagK
import Derived.Deep.RegionWith
namespace Go.Proofs.Ytccfjjaljckinaa.Tag
open Go.RowKit Go.Lib Go.Shelf Go.Proofs.Ytccfjjaljckinaa.Mem Go.Proofs.Ytccfjjaljckinaa.IMap Go.Proofs.YtccfjjaljckinaaW.PrintWords

def capC (c : Int) : Int := min (max c 0) 65536
def newT (c : Int) : Tab := ⟨capC c, 0, []⟩
theorem newT_good (c : Int) : Good (newT c) := by
  refine ⟨?_, ?_, by unfold In64 newT; simp, fun s hs => (by cases hs), fun i j a b ha => (by simp [newT] at ha), (by simp [newT])⟩ <;> (unfold newT capC; simp only; omega)

set_option maxRecDepth 100000 in
set_option maxHeartbeats 1000000 in
theorem new_ (c : Int) (w : World) : Calls Try.prog 9 #[.int .i64 c] w fun e w' => e = .returned (.pointer (some ⟨w.heap.size + 1, 0, none⟩)) ∧ TabV w' (w.heap.size + 1) w.heap.size (.slice none 0 0) (newT c) ∧ Below w.heap.size w w' := by
  have fin : ∀ w', w' = (w.alloc (.map #[] 0)).alloc (.cells #[.int .i64 (capC c), .int .i64 0, .slice none 0 0, .map (some w.heap.size)] 70) →
      TabV w' (w.heap.size + 1) w.heap.size (.slice none 0 0) (newT c) ∧ Below w.heap.size w w' := by
    rintro w' rfl
    refine ⟨⟨Blk.at_ (by simp) _ _, World.ownsRow_nil _ _ _ _, ?_, newT_good c⟩, ((Below.refl _ _).alloc (Nat.le_refl _) _).alloc (by simp) _⟩
    have h : IMap Try.prog 3 3 (w.alloc (.map #[] 0)) w.heap.size 0 (fun _ => none) 0 := IMap.made w
    exact h.keep (Below.heap_alloc _ _ _ (by simp))
  have hmm := @run_makeMap Try.prog
  have Fin := Lib.hid fin
  clear fin
  go_enter Try.func9, Try.ntmps9
  go_wp2
  go_ret
  exact ⟨rfl, Fin.out _ rfl⟩

section
variable {w : World} {B M : Nat} {v : Value} {t : Tab}
def knownOf (t : Tab) (id : Int) : Bool := decide (0 ≤ id) && decide (id < t.serial) && !(t.slots.any (pKnown id))

theorem cont47 (h : TabV w B M v t) (id : Int) (b : Nat) (hb : w.cell? ⟨b, 0, none⟩ = some (.int .i64 id)) (hlt : b < w.heap.size) :
    Calls Try.prog 47 #[v, .func (.func 48) #[] #[.pointer (some ⟨b, 0, none⟩)]] w fun e w' => e = .returned (.bool (t.slots.any (pKnown id))) ∧ Below w.heap.size w w' := by
  rcases Nat.eq_zero_or_pos t.slots.length with h0 | h0
  · obtain ⟨A, cap, rfl⟩ := h.row0 (List.length_eq_zero_iff.1 h0)
    rw [List.length_eq_zero_iff.1 h0]
    have HI := Lib.hid (idx_empty A cap (.func (.func 48) #[] #[.pointer (some ⟨b, 0, none⟩)]) w)
    clear h h0 hb hlt
    go_enter Try.func47, Try.ntmps47
    go_wp2_with fail
    refine HI.out.mono ?_
    rintro e w' ⟨rfl, rfl⟩
    go_wp2
    go_ret
    exact ⟨rfl, Below.refl _ _⟩
  · obtain ⟨R, cap, hv, hR, hle, hRB, hRM, hc, hfr⟩ := h.cells (List.getElem?_eq_getElem h0)
    have hfew := h.good.few
    have := AnyQ.slices_ContainsFunc Try.lCont 6 (fun w => by kernel_rfl) (fun w => by kernel_rfl) encSlot (fun _ => rfl) (pKnown id) 48 #[.pointer (some ⟨b, 0, none⟩)] (enters_of Try.func48 (by kernel_rfl) rfl) R 0 t.slots.length cap t.slots w
      (fun W x hbl => (closure48 x id b W (bcell hbl hb hlt) (Nat.lt_of_lt_of_le hlt hbl.size)).mono (fun e w' ⟨he, hb'⟩ => ⟨he, btrans' hbl hb'⟩)) (Nat.le_refl _) (by omega) hR (fun j hj i u hu => by
        rw [Nat.zero_add]
        obtain ⟨R', cap', hv', _, _, _, _, hc', _⟩ := h.cells (List.getElem?_eq_getElem hj)
        rw [hv] at hv'
        injection hv' with hv' _ _
        injection hv' with hv'
        injection hv' with hv' _ _
        subst hv'
        exact hc' i u (by simpa [hj] using hu))
    rw [List.take_length] at this
    rw [hv]
    exact this

set_option maxRecDepth 100000 in
set_option maxHeartbeats 2000000 in
theorem known (h : TabV w B M v t) (id : Int) : Calls Try.prog 33 #[.pointer (some ⟨B, 0, none⟩), .int .i64 id] w fun e w' => e = .returned (.bool (knownOf t id)) ∧ Below w.heap.size w w' := by
  have c1 := h.c1
  have c2 := h.c2
  have hBl := h.head.lt
  unfold knownOf
  by_cases a1 : 0 ≤ id
  · have t1 : decide (0 ≤ id) = true := decide_eq_true a1
    rw [t1, Bool.true_and]
    by_cases a2 : id < t.serial
    · have t2 : decide (id < t.serial) = true := decide_eq_true a2
      rw [t2, Bool.true_and]
      have CC : Hid (Calls Try.prog 47 #[v, .func (.func 48) #[] #[.pointer (some ⟨w.heap.size, 0, none⟩)]] (w.alloc (.cells #[.int .i64 id] 3)).drew fun e w' => e = .returned (.bool (t.slots.any (pKnown id))) ∧ Below w.heap.size w w') := Lib.hid (by
        have hB : Below w.heap.size w (w.alloc (.cells #[.int .i64 id] 3)).drew := ((Below.refl _ _).alloc (Nat.le_refl _) _).drew
        have hX : Blk (w.alloc (.cells #[.int .i64 id] 3)).drew w.heap.size #[.int .i64 id] 3 := (Blk.new _ _ _).drew
        exact (cont47 (h.fresh hB) id w.heap.size (hX.cell (j := 0) rfl) hX.lt).mono (fun e w' ⟨he, hb⟩ => ⟨he, btrans' hB hb⟩))
      generalize t.slots.any (pKnown id) = A at *
      clear h
      go_enter Try.func33, Try.ntmps33
      go_wp2
      go_region_with (go_at_call 47; refine CC.out.mono ?_; rintro e w' ⟨rfl, hb⟩; have HB := Lib.hid hb; clear hb)
      all_goals (go_wp2; go_ret; exact ⟨rfl, HB.out⟩)
    · have t2 : decide (id < t.serial) = false := decide_eq_false a2
      rw [t2, Bool.false_and]
      clear h
      go_enter Try.func33, Try.ntmps33
      go_wp2
      go_quiet (fail)
      go_wp2
      go_ret
      exact ⟨rfl, by (repeat (refine bdn ?_ _)); exact (Below.refl _ _).alloc (Nat.le_refl _) _⟩
  · have t1 : decide (0 ≤ id) = false := decide_eq_false a1
    rw [t1, Bool.false_and, Bool.false_and]
    clear h
    go_enter Try.func33, Try.ntmps33
    go_wp2
    go_quiet (fail)
    go_wp2
    go_ret
    exact ⟨rfl, by (repeat (refine bdn ?_ _)); exact (Below.refl _ _).alloc (Nat.le_refl _) _⟩
end
end Go.Proofs.Ytccfjjaljckinaa.Tag
