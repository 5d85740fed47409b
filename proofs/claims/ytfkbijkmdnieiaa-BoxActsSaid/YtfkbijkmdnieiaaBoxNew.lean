/- A box of ints: what it is, and New. No conditions. -/
import Derived.Test.YtfkbijkmdnieiaaPileInt3
import Derived.Conc.SmallLaws
namespace Go.Proofs.Ytfkbijkmdnieiaa.BoxInt
open Go.RowKit Go.Conc Go.Proofs.Ytfkbijkmdnieiaa.Mem Go.Proofs.YtfkbijkmdnieiaaW.PrintWords
attribute [local go_sem] Go.Proofs.YtfkbijkmdnieiaaW.PrintMore.max2_int Go.Proofs.YtfkbijkmdnieiaaW.PrintMore.min2_int

theorem bytes3 : ∃ i, Try.prog.info? 3 = some i ∧ i.bytes = 8 := by
  have h : (Try.prog.info? 3).map (·.bytes) = some 8 := by kernel_rfl
  obtain ⟨i, hi, hb⟩ := Option.map_eq_some_iff.1 h
  exact ⟨i, hi, hb⟩
theorem bytes103 : ∃ i, Try.prog.info? 103 = some i ∧ i.bytes = 0 := by
  have h : (Try.prog.info? 103).map (·.bytes) = some 0 := by kernel_rfl
  obtain ⟨i, hi, hb⟩ := Option.map_eq_some_iff.1 h
  exact ⟨i, hi, hb⟩
theorem mk96 (k : Nat) (hk : k ≤ 1000) (w : World) : (Instr.makeChan 96 (.int .i64 k)).run Try.prog w = .ok (.chan (some w.heap.size)) (w.alloc (.chan k #[] false 0 0 false)) := by
  obtain ⟨i, hi, hb⟩ := bytes3
  exact run_makeChan (P := Try.prog) (w := w) Try.underlying96 hi .i64 k (by omega) (by rw [hb]; omega)
theorem mk97 (w : World) : (Instr.makeChan 97 (.int .i64 0)).run Try.prog w = .ok (.chan (some w.heap.size)) (w.alloc (.chan 0 #[] false 0 0 false)) := by
  obtain ⟨i, hi, hb⟩ := bytes103
  simpa using run_makeChan (P := Try.prog) (w := w) Try.underlying97 hi .i64 0 (by omega) (by omega)

/-- A channel: so much room, these values, closed or not. -/
def Ch (w : World) (C cap : Nat) (buf : List Value) (closed : Bool) : Prop := ∃ s r, w.heap[C]? = some (.chan cap buf.toArray closed s r false)
theorem Ch.lt {w : World} {C cap : Nat} {buf : List Value} {closed : Bool} (h : Ch w C cap buf closed) : C < w.heap.size := by
  obtain ⟨s, r, h⟩ := h
  exact lt_of_block h
theorem Ch.keep {S : Nat → Prop} {w w1 : World} {C cap : Nat} {buf : List Value} {closed : Bool} (h : Ch w C cap buf closed) (hc : Chg S w w1) (hs : ¬ S C) : Ch w1 C cap buf closed := by
  have hl := h.lt
  obtain ⟨s, r, h⟩ := h
  exact ⟨s, r, (hc.block C hl hs).trans h⟩

/-- An open or closed box of ints. -/
structure IsBox (w : World) (B C D cap : Nat) (vs : List Int) (closed : Bool) : Prop where
  head : Blk w B #[.chan (some C), .chan (some D)] 99
  vals : Ch w C cap (vs.map (.int .i64)) false
  done : Ch w D 0 [] closed
  apart : B ≠ C ∧ B ≠ D ∧ C ≠ D
  le : vs.length ≤ cap
  room : 1 ≤ cap
  most : cap ≤ 1000

/-- The size that New gives. -/
def sizeOf (n : Int) : Nat := if n < 1 then 1 else if 1000 < n then 1000 else n.toNat

theorem sameDrew (X : World) : Same X.drew X := ⟨rfl, rfl, rfl, rfl⟩
theorem push3 {α : Type} (h : Array α) (x y z : α) : (((h.push x).push y).push z)[h.size]? = some x ∧ (((h.push x).push y).push z)[h.size + 1]? = some y ∧ (((h.push x).push y).push z)[h.size + 1 + 1]? = some z ∧ (∀ k, k < h.size → (((h.push x).push y).push z)[k]? = h[k]?) ∧ h.size ≤ (((h.push x).push y).push z).size := by
  refine ⟨?_, ?_, ?_, fun k hk => ?_, ?_⟩
  · rw [Array.getElem?_push, if_neg (by simp; omega), Array.getElem?_push, if_neg (by simp), Array.getElem?_push, if_pos rfl]
  · rw [Array.getElem?_push, if_neg (by simp), Array.getElem?_push, if_pos (by simp)]
  · rw [Array.getElem?_push, if_pos (by simp)]
  · rw [Array.getElem?_push, if_neg (by simp; omega), Array.getElem?_push, if_neg (by simp; omega), Array.getElem?_push, if_neg (by omega)]
  · simp; omega

theorem made {w w' : World} {s : Nat} (h1 : 1 ≤ s) (h2 : s ≤ 1000)
    (hw : Same w' (((w.alloc (.chan s #[] false 0 0 false)).alloc (.chan 0 #[] false 0 0 false)).alloc (.cells #[.chan (some w.heap.size), .chan (some (w.heap.size + 1))] 99))) :
    IsBox w' (w.heap.size + 1 + 1) w.heap.size (w.heap.size + 1) s [] false ∧ Chg (fun _ => False) w w' := by
  have hh := hw.heap
  simp only [World.alloc] at hh
  obtain ⟨a0, a1, a2, a3, a4⟩ := push3 w.heap (.chan s #[] false 0 0 false) (.chan 0 #[] false 0 0 false) (.cells #[.chan (some w.heap.size), .chan (some (w.heap.size + 1))] 99)
  rw [← hh] at a0 a1 a2 a3 a4
  exact ⟨⟨a2, ⟨0, 0, a0⟩, ⟨0, 0, a1⟩, by omega, by simp, h1, h2⟩, ⟨hw.os, hw.tape, hw.output, a4, fun k hk _ => a3 k hk⟩⟩

theorem made' {w w' : World} {s : Nat} (h1 : 1 ≤ s) (h2 : s ≤ 1000)
    (hw : Same w' (((w.alloc (.chan 0 #[] false 0 0 false)).alloc (.chan s #[] false 0 0 false)).alloc (.cells #[.chan (some (w.heap.size + 1)), .chan (some w.heap.size)] 99))) :
    IsBox w' (w.heap.size + 1 + 1) (w.heap.size + 1) w.heap.size s [] false ∧ Chg (fun _ => False) w w' := by
  have hh := hw.heap
  simp only [World.alloc] at hh
  obtain ⟨a0, a1, a2, a3, a4⟩ := push3 w.heap (.chan 0 #[] false 0 0 false) (.chan s #[] false 0 0 false) (.cells #[.chan (some (w.heap.size + 1)), .chan (some w.heap.size)] 99)
  rw [← hh] at a0 a1 a2 a3 a4
  exact ⟨⟨a2, ⟨0, 0, a1⟩, ⟨0, 0, a0⟩, by omega, by simp, h1, h2⟩, ⟨hw.os, hw.tape, hw.output, a4, fun k hk _ => a3 k hk⟩⟩

/-- What New leaves. -/
def Made (s : Nat) (w : World) (e : Ending) (w' : World) : Prop := ∃ B C D, e = .returned (.pointer (some ⟨B, 0, none⟩)) ∧ IsBox w' B C D s [] false ∧ Chg (fun _ => False) w w' ∧ w.heap.size ≤ B ∧ w.heap.size ≤ C ∧ w.heap.size ≤ D

set_option maxRecDepth 100000 in
set_option maxHeartbeats 400000 in
theorem new_mid (n : Nat) (w : World) (h1 : 1 ≤ n) (h2 : n ≤ 1000) : Calls Try.prog 45 #[.int .i64 n] w (Made n w) := by
  have c1 : ¬ (n : Int) < 1 := by omega
  have c2 : ¬ 1000 < (n : Int) := by omega
  have m1 := mk96 n h2
  have m2 := mk97
  have FIN := Lib.hid (fun (w' : World) hw => made (w := w) (w' := w') (s := n) h1 h2 hw)
  have FIN' := Lib.hid (fun (w' : World) hw => made' (w := w) (w' := w') (s := n) h1 h2 hw)
  clear h1 h2
  go_enter Try.func45, Try.ntmps45
  go_wp2_with fail
  go_region
  · go_wp2
    go_ret
    exact ⟨_, _, _, rfl, (FIN.out _ (sameDrew _)).1, (FIN.out _ (sameDrew _)).2, by omega, by omega, by omega⟩
  · go_wp2
    go_ret
    exact ⟨_, _, _, rfl, (FIN'.out _ (sameDrew _)).1, (FIN'.out _ (sameDrew _)).2, by omega, by omega, by omega⟩

set_option maxRecDepth 100000 in
set_option maxHeartbeats 400000 in
theorem new_low (n : Int) (w : World) (h : n < 1) : Calls Try.prog 45 #[.int .i64 n] w (Made 1 w) := by
  have h1 : 1 ≤ 1 := by omega
  have h2 : 1 ≤ 1000 := by omega
  have m1 : ∀ w, (Instr.makeChan 96 (.int .i64 1)).run Try.prog w = .ok (.chan (some w.heap.size)) (w.alloc (.chan 1 #[] false 0 0 false)) := mk96 1 (by omega)
  have m2 := mk97
  have FIN := Lib.hid (fun (w' : World) hw => made (w := w) (w' := w') (s := 1) h1 h2 hw)
  have FIN' := Lib.hid (fun (w' : World) hw => made' (w := w) (w' := w') (s := 1) h1 h2 hw)
  clear h1 h2
  go_enter Try.func45, Try.ntmps45
  go_wp2_with fail
  go_region
  · go_wp2
    go_ret
    exact ⟨_, _, _, rfl, (FIN.out _ (sameDrew _)).1, (FIN.out _ (sameDrew _)).2, by omega, by omega, by omega⟩
  · go_wp2
    go_ret
    exact ⟨_, _, _, rfl, (FIN'.out _ (sameDrew _)).1, (FIN'.out _ (sameDrew _)).2, by omega, by omega, by omega⟩

set_option maxRecDepth 100000 in
set_option maxHeartbeats 400000 in
theorem new_high (n : Int) (w : World) (h : 1000 < n) : Calls Try.prog 45 #[.int .i64 n] w (Made 1000 w) := by
  have c1 : ¬ n < 1 := by omega
  have h1 : 1 ≤ 1000 := by omega
  have h2 : 1000 ≤ 1000 := by omega
  have m1 : ∀ w, (Instr.makeChan 96 (.int .i64 1000)).run Try.prog w = .ok (.chan (some w.heap.size)) (w.alloc (.chan 1000 #[] false 0 0 false)) := mk96 1000 (by omega)
  have m2 := mk97
  have FIN := Lib.hid (fun (w' : World) hw => made (w := w) (w' := w') (s := 1000) h1 h2 hw)
  have FIN' := Lib.hid (fun (w' : World) hw => made' (w := w) (w' := w') (s := 1000) h1 h2 hw)
  clear h1 h2
  go_enter Try.func45, Try.ntmps45
  go_wp2_with fail
  go_region
  · go_wp2
    go_ret
    exact ⟨_, _, _, rfl, (FIN.out _ (sameDrew _)).1, (FIN.out _ (sameDrew _)).2, by omega, by omega, by omega⟩
  · go_wp2
    go_ret
    exact ⟨_, _, _, rfl, (FIN'.out _ (sameDrew _)).1, (FIN'.out _ (sameDrew _)).2, by omega, by omega, by omega⟩

theorem new (n : Int) (w : World) : Calls Try.prog 45 #[.int .i64 n] w (Made (sizeOf n) w) := by
  unfold sizeOf
  by_cases h : n < 1
  · rw [if_pos h]; exact new_low n w h
  · rw [if_neg h]
    by_cases h' : 1000 < n
    · rw [if_pos h']; exact new_high n w h'
    · rw [if_neg h']
      obtain ⟨k, rfl⟩ := Int.eq_ofNat_of_zero_le (show 0 ≤ n by omega)
      exact new_mid k w (by omega) (by omega)
end Go.Proofs.Ytfkbijkmdnieiaa.BoxInt
