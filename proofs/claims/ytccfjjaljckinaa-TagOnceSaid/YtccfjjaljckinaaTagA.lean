/- Tables of operations: what they hold, and how they lie in memory. No conditions. -/
import Derived.Test.YtccfjjaljckinaaProg
import Derived.Test.YtccfjjaljckinaaMem
import Derived.Test.YtccfjjaljckinaaIMap
import Derived.Laws.OwnMore
import Derived.Laws.AppendOwn
import Derived.KernelRfl
namespace Go.Proofs.Ytccfjjaljckinaa.Tag
open Go.RowKit Go.Proofs.Ytccfjjaljckinaa.Mem Go.Proofs.Ytccfjjaljckinaa.IMap

structure TOp where
  time : Int
  ins : Bool
  key : Int
  id : Int
structure Slot where
  last : Int
  gen : Int
  op : TOp
structure Tab where
  cap : Int
  serial : Int
  slots : List Slot
def op0 : TOp := ⟨0, false, 0, 0⟩
instance : Inhabited Slot := ⟨⟨0, 0, op0⟩⟩
def encOp (o : TOp) : List Value := [.int .i64 o.time, .bool o.ins, .int .i64 o.key, .int .i64 o.id]
def encSlot (s : Slot) : List Value := [.int .i64 s.last, .int .i64 s.gen, .int .i64 s.op.time, .bool s.op.ins, .int .i64 s.op.key, .int .i64 s.op.id]
def cellsOf (l : List Slot) : List Value := l.flatMap encSlot
theorem encSlot_len (s : Slot) : (encSlot s).length = 6 := rfl
theorem cellsOf_len : ∀ l : List Slot, (cellsOf l).length = l.length * 6
  | [] => rfl
  | s :: l => by unfold cellsOf; rw [List.flatMap_cons, List.length_append, encSlot_len]; have := cellsOf_len l; unfold cellsOf at this; rw [this, List.length_cons]; omega
theorem cellsOf_at : ∀ (l : List Slot) (i : Nat) (s : Slot) (j : Nat) (u : Value), l[i]? = some s → (encSlot s)[j]? = some u → (cellsOf l)[i * 6 + j]? = some u
  | [], i, s, j, u, h, _ => by simp at h
  | x :: l, 0, s, j, u, h, hj => by
    simp at h; subst h
    unfold cellsOf
    rw [List.flatMap_cons, Nat.zero_mul, Nat.zero_add, List.getElem?_append_left (List.getElem?_eq_some_iff.1 hj).1]; exact hj
  | x :: l, i + 1, s, j, u, h, hj => by
    have ih := cellsOf_at l i s j u (by simpa using h) hj
    unfold cellsOf at ih ⊢
    rw [List.flatMap_cons, List.getElem?_append_right (by rw [encSlot_len]; omega), encSlot_len]
    have e : (i + 1) * 6 + j - 6 = i * 6 + j := by omega
    rw [e]; exact ih

/-- Which slot a time is taken by. -/
def timesOf (l : List Slot) (x : Int) : Option Int := (l.findIdx? (fun s => decide (0 < s.gen) && decide (s.op.time = x))).map (fun i => (i : Int))
def liveN (l : List Slot) : Nat := (l.filter (fun s => decide (0 < s.gen))).length

structure GoodSlot (s : Slot) : Prop where
  last0 : 0 ≤ s.last
  last1 : s.last ≤ 4294967295
  gen0 : 0 ≤ s.gen
  gen1 : s.gen ≤ s.last
  time : In64 s.op.time
  key : In64 s.op.key
  id : In64 s.op.id
structure Good (t : Tab) : Prop where
  cap0 : 0 ≤ t.cap
  cap1 : t.cap ≤ 65536
  serial : In64 t.serial
  slots : ∀ s ∈ t.slots, GoodSlot s
  times : ∀ (i j : Nat) (a b : Slot), t.slots[i]? = some a → t.slots[j]? = some b → 0 < a.gen → 0 < b.gen → a.op.time = b.op.time → i = j
  few : t.slots.length ≤ 1000000

/-- A table at block B: its map M, its slots v. -/
structure TabV (w : World) (B M : Nat) (v : Value) (t : Tab) : Prop where
  head : Blk w B #[.int .i64 t.cap, .int .i64 t.serial, v, .map (some M)] 70
  row : w.ownsRow 0 73 6 v t.slots.length (cellsOf t.slots)
  map : IMap Try.prog 3 3 w M (liveN t.slots) (timesOf t.slots) (liveN t.slots)
  good : Good t

def findOf (t : Tab) (ri rg : Int) : Option Nat :=
  if 0 ≤ ri ∧ ri < t.slots.length ∧ 1 ≤ rg ∧ (t.slots[ri.toNat]?).map Slot.gen = some rg then some ri.toNat else none

theorem TabV.cells {w : World} {B M : Nat} {v : Value} {t : Tab} (h : TabV w B M v t) {i : Nat} {s : Slot} (hi : t.slots[i]? = some s) :
    ∃ R cap, v = .slice (some ⟨R, 0, none⟩) t.slots.length cap ∧ R < w.heap.size ∧ t.slots.length ≤ cap ∧ R ≠ B ∧ R ≠ M ∧ (∀ j u, (encSlot s)[j]? = some u → w.cell? ⟨R, i * 6 + j, none⟩ = some u) ∧ (∀ j, w.frozen? ⟨R, j, none⟩ = false) := by
  have hlt := (List.getElem?_eq_some_iff.1 hi).1
  obtain ⟨hlen, ⟨rfl, h0⟩ | ⟨R, cap, cur, rfl, _, hb, hle, hm, hsz, htake⟩⟩ := h.row
  · omega
  · refine ⟨R, cap, rfl, lt_of_block hb, hle, ?_, ?_, fun j u hj => ?_, fun j => by simp [World.frozen?, hb]⟩
    · rintro rfl
      have := h.head
      unfold Blk at this
      rw [hb] at this
      injection this with this
      injection this with _ this
      exact absurd this (by decide)
    · rintro rfl
      obtain ⟨es, clock, hM⟩ := h.map.block
      rw [hb] at hM
      cases hM
    · have hc := cellsOf_at t.slots i s j u hi hj
      have hj6 : j < 6 := by have := (List.getElem?_eq_some_iff.1 hj).1; rw [encSlot_len] at this; exact this
      rw [← htake] at hc
      rw [List.getElem?_take] at hc
      split at hc
      · simp [World.cell?, hb]
        simpa using hc
      · cases hc
theorem btrans' {N : Nat} {w W W2 : World} (h : Below N w W) (hb : Below W.heap.size W W2) (hN : N ≤ w.heap.size := by exact Nat.le_refl _) : Below N w W2 := h.trans (hb.mono (Nat.le_trans hN h.size))
theorem bdn {B : Nat} {a w : World} (h : Below B a w) (n : Nat) : Below B a (w.drewN n) := ⟨h.os, h.tape, h.output, h.size, h.block⟩
theorem bcell {N b o : Nat} {w w' : World} {v : Value} (hb : Below N w w') (h : w.cell? ⟨b, o, none⟩ = some v) (hlt : b < N) : w'.cell? ⟨b, o, none⟩ = some v := (hb.cell (p := ⟨b, o, none⟩) hlt).trans h
theorem bfree {N b o : Nat} {w w' : World} {v : Bool} (hb : Below N w w') (h : w.frozen? ⟨b, o, none⟩ = v) (hlt : b < N) : w'.frozen? ⟨b, o, none⟩ = v := (hb.frozen (p := ⟨b, o, none⟩) hlt).trans h
theorem btrans {w w1 w2 : World} (h : Below w.heap.size w w1) (hb : Below w1.heap.size w1 w2) : Below w.heap.size w w2 := h.trans (hb.mono h.size)
theorem gw {P : Program} {f : FuncId} {args : Array Value} {W : World} {R : Ending → World → Prop} (h : ∀ wa, W = wa → Calls P f args wa R) : Calls P f args W R := h _ rfl
end Go.Proofs.Ytccfjjaljckinaa.Tag
