/- Tables and their document, part Ma of this seat's texts: plain facts and walks. No conditions. -/
import Derived.Test.YtccfjjaljckinaaProg
import Derived.Test.YtccfjjaljckinaaRMem
import Derived.Test.YtccfjjaljckinaaRIMap
import Derived.Laws.OwnMore
import Derived.Laws.AppendOwn
import Derived.KernelRfl
import Derived.WalkKit
import Derived.Below
import Derived.Lib.Hide
import Derived.Deep.QuietTactic
import Derived.BigQuiet
import Derived.Outline
import Derived.Test.YtccfjjaljckinaaRWWords
import Derived.RegionTactic
import Derived.StillTailTactics
import Derived.BigRegion
import Derived.ChangeAlike
/- Tables of operations: what they hold, and how they lie in memory. No conditions. -/
namespace Go.Proofs.Ytccfjjaljckinaa.Tag
open Go.RowKit Go.Proofs.Ytccfjjaljckinaa.Mem Go.Proofs.Ytccfjjaljckinaa.IMap

structure TOp where
  time : Int
  ins : Bool
  key : Int
  id : Int
structure Slot where
  last : Int
  gen : Int
  op : TOp
structure Tab where
  cap : Int
  serial : Int
  slots : List Slot
def op0 : TOp := ⟨0, false, 0, 0⟩
instance : Inhabited Slot := ⟨⟨0, 0, op0⟩⟩
def encSlot (s : Slot) : List Value := [.int .i64 s.last, .int .i64 s.gen, .int .i64 s.op.time, .bool s.op.ins, .int .i64 s.op.key, .int .i64 s.op.id]
def cellsOf (l : List Slot) : List Value := l.flatMap encSlot
theorem encSlot_len (s : Slot) : (encSlot s).length = 6 := rfl
theorem cellsOf_at : ∀ (l : List Slot) (i : Nat) (s : Slot) (j : Nat) (u : Value), l[i]? = some s → (encSlot s)[j]? = some u → (cellsOf l)[i * 6 + j]? = some u
  | [], i, s, j, u, h, _ => by simp at h
  | x :: l, 0, s, j, u, h, hj => by
    simp at h; subst h
    unfold cellsOf
    rw [List.flatMap_cons, Nat.zero_mul, Nat.zero_add, List.getElem?_append_left (List.getElem?_eq_some_iff.1 hj).1]; exact hj
  | x :: l, i + 1, s, j, u, h, hj => by
    have ih := cellsOf_at l i s j u (by simpa using h) hj
    unfold cellsOf at ih ⊢
    rw [List.flatMap_cons, List.getElem?_append_right (by rw [encSlot_len]; omega), encSlot_len]
    have e : (i + 1) * 6 + j - 6 = i * 6 + j := by omega
    rw [e]; exact ih

/-- Which slot a time is taken by. -/
def timesOf (l : List Slot) (x : Int) : Option Int := (l.findIdx? (fun s => decide (0 < s.gen) && decide (s.op.time = x))).map (fun i => (i : Int))
def liveN (l : List Slot) : Nat := (l.filter (fun s => decide (0 < s.gen))).length

structure GoodSlot (s : Slot) : Prop where
  last0 : 0 ≤ s.last
  last1 : s.last ≤ 4294967295
  gen0 : 0 ≤ s.gen
  gen1 : s.gen ≤ s.last
  time : In64 s.op.time
  key : In64 s.op.key
  id : In64 s.op.id
structure Good (t : Tab) : Prop where
  cap0 : 0 ≤ t.cap
  cap1 : t.cap ≤ 65536
  serial : In64 t.serial
  slots : ∀ s ∈ t.slots, GoodSlot s
  times : ∀ (i j : Nat) (a b : Slot), t.slots[i]? = some a → t.slots[j]? = some b → 0 < a.gen → 0 < b.gen → a.op.time = b.op.time → i = j
  few : t.slots.length ≤ 1000000

/-- A table at block B: its map M, its slots v. -/
structure TabV (w : World) (B M : Nat) (v : Value) (t : Tab) : Prop where
  head : Blk w B #[.int .i64 t.cap, .int .i64 t.serial, v, .map (some M)] 70
  row : w.ownsRow 0 73 6 v t.slots.length (cellsOf t.slots)
  map : IMap Try.prog 3 3 w M (liveN t.slots) (timesOf t.slots) (liveN t.slots)
  good : Good t

def findOf (t : Tab) (ri rg : Int) : Option Nat :=
  if 0 ≤ ri ∧ ri < t.slots.length ∧ 1 ≤ rg ∧ (t.slots[ri.toNat]?).map Slot.gen = some rg then some ri.toNat else none

theorem TabV.cells {w : World} {B M : Nat} {v : Value} {t : Tab} (h : TabV w B M v t) {i : Nat} {s : Slot} (hi : t.slots[i]? = some s) :
    ∃ R cap, v = .slice (some ⟨R, 0, none⟩) t.slots.length cap ∧ R < w.heap.size ∧ t.slots.length ≤ cap ∧ R ≠ B ∧ R ≠ M ∧ (∀ j u, (encSlot s)[j]? = some u → w.cell? ⟨R, i * 6 + j, none⟩ = some u) ∧ (∀ j, w.frozen? ⟨R, j, none⟩ = false) := by
  have hlt := (List.getElem?_eq_some_iff.1 hi).1
  obtain ⟨hlen, ⟨rfl, h0⟩ | ⟨R, cap, cur, rfl, _, hb, hle, hm, hsz, htake⟩⟩ := h.row
  · omega
  · refine ⟨R, cap, rfl, lt_of_block hb, hle, ?_, ?_, fun j u hj => ?_, fun j => by simp [World.frozen?, hb]⟩
    · rintro rfl
      have := h.head
      unfold Blk at this
      rw [hb] at this
      injection this with this
      injection this with _ this
      exact absurd this (by decide)
    · rintro rfl
      obtain ⟨es, clock, hM⟩ := h.map.block
      rw [hb] at hM
      cases hM
    · have hc := cellsOf_at t.slots i s j u hi hj
      have hj6 : j < 6 := by have := (List.getElem?_eq_some_iff.1 hj).1; rw [encSlot_len] at this; exact this
      rw [← htake] at hc
      rw [List.getElem?_take] at hc
      split at hc
      · simp [World.cell?, hb]
        simpa using hc
      · cases hc
theorem btrans' {N : Nat} {w W W2 : World} (h : Below N w W) (hb : Below W.heap.size W W2) (hN : N ≤ w.heap.size := by exact Nat.le_refl _) : Below N w W2 := h.trans (hb.mono (Nat.le_trans hN h.size))
theorem bdn {B : Nat} {a w : World} (h : Below B a w) (n : Nat) : Below B a (w.drewN n) := ⟨h.os, h.tape, h.output, h.size, h.block⟩
theorem bcell {N b o : Nat} {w w' : World} {v : Value} (hb : Below N w w') (h : w.cell? ⟨b, o, none⟩ = some v) (hlt : b < N) : w'.cell? ⟨b, o, none⟩ = some v := (hb.cell (p := ⟨b, o, none⟩) hlt).trans h
theorem bfree {N b o : Nat} {w w' : World} {v : Bool} (hb : Below N w w') (h : w.frozen? ⟨b, o, none⟩ = v) (hlt : b < N) : w'.frozen? ⟨b, o, none⟩ = v := (hb.frozen (p := ⟨b, o, none⟩) hlt).trans h
theorem btrans {w w1 w2 : World} (h : Below w.heap.size w w1) (hb : Below w1.heap.size w1 w2) : Below w.heap.size w w2 := h.trans (hb.mono h.size)
theorem gw {P : Program} {f : FuncId} {args : Array Value} {W : World} {R : Ending → World → Prop} (h : ∀ wa, W = wa → Calls P f args wa R) : Calls P f args W R := h _ rfl
end Go.Proofs.Ytccfjjaljckinaa.Tag
/- Finding a slot. -/
namespace Go.Proofs.Ytccfjjaljckinaa.Tag
open Go.RowKit Go.Lib Go.Proofs.Ytccfjjaljckinaa.Mem Go.Proofs.Ytccfjjaljckinaa.IMap
set_option maxRecDepth 100000 in
set_option maxHeartbeats 1000000 in
theorem find_some {w : World} {B M : Nat} {v : Value} {t : Tab} {s : Slot} {ri rg : Int} {i : Nat} (h : TabV w B M v t) (hs : t.slots[i]? = some s) (hi : ri = i) (hg : s.gen = rg) (h1 : 1 ≤ rg) :
    ∃ R cap, v = .slice (some ⟨R, 0, none⟩) t.slots.length cap ∧ Calls Try.prog 32 #[.pointer (some ⟨B, 0, none⟩), .agg #[.int .i64 ri, .int .i64 rg]] w fun e w' =>
      e = .returned (.pointer (some ⟨R, i * 6, none⟩)) ∧ Below w.heap.size w w' := by
  obtain ⟨R, cap, hv, hR, hle, hRB, hRM, hc, hf⟩ := h.cells hs
  refine ⟨R, cap, hv, ?_⟩
  have hlt := (List.getElem?_eq_some_iff.1 hs).1
  have hfew := h.good.few
  have hB := h.head.lt
  have c2 : w.cell? ⟨B, 2, none⟩ = some (.slice (some ⟨R, 0, none⟩) t.slots.length cap) := by rw [← hv]; exact h.head.cell (j := 2) rfl
  have k1 : w.cell? ⟨R, i * 6 + 1, none⟩ = some (.int .i64 rg) := by rw [← hg]; exact hc 1 _ rfl
  have hu28 := Try.underlying28
  subst hi
  generalize t.slots.length = N at *
  clear h hs hg hc hv hf hle
  go_enter Try.func32, Try.ntmps32
  go_wp2
  have t1 : decide ((i : Int) < 0) = false := decide_eq_false (by omega)
  have t2 : decide ((N : Int) ≤ (i : Int)) = false := decide_eq_false (by omega)
  have t3 : decide (rg < 1) = false := decide_eq_false (by omega)
  have hi0 : (0 : Int) ≤ i := by omega
  have hiN : (i : Int) < N := by omega
  have e1 : (i : Int).toNat = i := by omega
  go_quiet (fail)
  go_wp2
  go_quiet (fail)
  go_wp2
  go_ret
  exact ⟨rfl, by (repeat (refine bdn ?_ _)); exact (Below.refl _ _).alloc (Nat.le_refl _) _⟩

set_option maxRecDepth 100000 in
set_option maxHeartbeats 2000000 in
theorem find_none {w : World} {B M : Nat} {v : Value} {t : Tab} {ri rg : Int} (h : TabV w B M v t) (hn : findOf t ri rg = none) :
    Calls Try.prog 32 #[.pointer (some ⟨B, 0, none⟩), .agg #[.int .i64 ri, .int .i64 rg]] w fun e w' => e = .returned (.pointer none) ∧ Below w.heap.size w w' := by
  have hfew := h.good.few
  have hB := h.head.lt
  obtain ⟨A, cap, hv⟩ : ∃ A cap, v = .slice A t.slots.length cap := by
    rcases h.row.2 with ⟨rfl, h0⟩ | ⟨R, cap, cur, rfl, _⟩
    · exact ⟨none, 0, by rw [h0]⟩
    · exact ⟨_, _, rfl⟩
  have c2 : w.cell? ⟨B, 2, none⟩ = some (.slice A t.slots.length cap) := by rw [← hv]; exact h.head.cell (j := 2) rfl
  have hu28 := Try.underlying28
  by_cases a1 : ri < 0
  · have t1 : decide (ri < 0) = true := decide_eq_true a1
    generalize t.slots.length = N at *
    clear h hv hn
    go_enter Try.func32, Try.ntmps32
    go_wp2
    go_quiet (fail)
    go_wp2
    go_ret
    exact ⟨rfl, by (repeat (refine bdn ?_ _)); exact (Below.refl _ _).alloc (Nat.le_refl _) _⟩
  have t1 : decide (ri < 0) = false := decide_eq_false a1
  by_cases a2 : (t.slots.length : Int) ≤ ri
  · have t2 : decide ((t.slots.length : Int) ≤ ri) = true := decide_eq_true a2
    generalize t.slots.length = N at *
    clear h hv hn
    go_enter Try.func32, Try.ntmps32
    go_wp2
    go_quiet (fail)
    go_wp2
    go_ret
    exact ⟨rfl, by (repeat (refine bdn ?_ _)); exact (Below.refl _ _).alloc (Nat.le_refl _) _⟩
  have t2 : decide ((t.slots.length : Int) ≤ ri) = false := decide_eq_false a2
  by_cases a3 : rg < 1
  · have t3 : decide (rg < 1) = true := decide_eq_true a3
    generalize t.slots.length = N at *
    clear h hv hn
    go_enter Try.func32, Try.ntmps32
    go_wp2
    go_quiet (fail)
    go_wp2
    go_ret
    exact ⟨rfl, by (repeat (refine bdn ?_ _)); exact (Below.refl _ _).alloc (Nat.le_refl _) _⟩
  have t3 : decide (rg < 1) = false := decide_eq_false a3
  obtain ⟨i, rfl⟩ : ∃ i : Nat, ri = i := ⟨ri.toNat, by omega⟩
  have hi : i < t.slots.length := by omega
  obtain ⟨R, cap', hv', hR, hle, hRB, hRM, hc, hf⟩ := h.cells (List.getElem?_eq_getElem hi)
  rw [hv] at hv'
  injection hv' with hA _ hcap
  subst hA; subst hcap
  have hne : t.slots[i].gen ≠ rg := by
    intro e
    unfold findOf at hn
    rw [if_pos ⟨by omega, by omega, by omega, by rw [Int.toNat_natCast, List.getElem?_eq_getElem hi]; simp [e]⟩] at hn
    cases hn
  have k1 : w.cell? ⟨R, i * 6 + 1, none⟩ = some (.int .i64 t.slots[i].gen) := hc 1 _ rfl
  have hi0 : (0 : Int) ≤ i := by omega
  have hiN : (i : Int) < t.slots.length := by omega
  have e1 : (i : Int).toNat = i := by omega
  clear h hv hn hc hf hle
  generalize t.slots[i].gen = G at *
  have t4 : (G == rg) = false := beq_eq_false_iff_ne.2 hne
  have t5 : (G != rg) = true := by rw [bne, t4]; rfl
  clear hne
  generalize t.slots.length = N at *
  go_enter Try.func32, Try.ntmps32
  go_wp2
  go_quiet (fail)
  go_wp2
  go_ret
  exact ⟨rfl, by (repeat (refine bdn ?_ _)); exact (Below.refl _ _).alloc (Nat.le_refl _) _⟩
end Go.Proofs.Ytccfjjaljckinaa.Tag
/- The small questions to a table. -/
namespace Go.Proofs.Ytccfjjaljckinaa.Tag
open Go.RowKit Go.Lib Go.Proofs.Ytccfjjaljckinaa.Mem Go.Proofs.Ytccfjjaljckinaa.IMap

theorem zero3 (w : World) : (zeroValue 3).run Try.prog w = .ok (.int .i64 0) w := by kernel_rfl

section
variable {w : World} {B M : Nat} {v : Value} {t : Tab}
theorem TabV.look (h : TabV w B M v t) {x : Int} (hx : In64 x) : (Instr.lookup 67 (.map (some M)) (.int .i64 x) true).run Try.prog w = .ok (.tuple #[.int .i64 ((timesOf t.slots x).getD 0), .bool (timesOf t.slots x).isSome]) w :=
  h.map.look Try.underlying67 Try.underlying3 Try.underlying3 (zero3 w) hx
theorem TabV.c0 (h : TabV w B M v t) : w.cell? ⟨B, 0, none⟩ = some (.int .i64 t.cap) := h.head.cell (j := 0) rfl
theorem TabV.c1 (h : TabV w B M v t) : w.cell? ⟨B, 1, none⟩ = some (.int .i64 t.serial) := h.head.cell (j := 1) rfl
theorem TabV.c2 (h : TabV w B M v t) : w.cell? ⟨B, 2, none⟩ = some v := h.head.cell (j := 2) rfl
theorem TabV.c3 (h : TabV w B M v t) : w.cell? ⟨B, 3, none⟩ = some (.map (some M)) := h.head.cell (j := 3) rfl
/-- What keeps a table. -/
theorem TabV.keep {w' : World} (h : TabV w B M v t) (hb : w'.heap[B]? = w.heap[B]?) (hm : w'.heap[M]? = w.heap[M]?) (hv : ∀ k, v.ownBlock = some k → w'.heap[k]? = w.heap[k]?) : TabV w' B M v t := by
  refine ⟨hb.trans h.head, ?_, h.map.keep hm, h.good⟩
  obtain ⟨hlen, ⟨rfl, h0⟩ | ⟨R, cap, cur, rfl, hge, hb, hle, hm, hsz, htake⟩⟩ := h.row
  · exact ⟨hlen, .inl ⟨rfl, h0⟩⟩
  · exact ⟨hlen, .inr ⟨R, cap, cur, rfl, hge, (hv R rfl).trans hb, hle, hm, hsz, htake⟩⟩
theorem TabV.ltV (h : TabV w B M v t) {k : Nat} (hk : v.ownBlock = some k) : k < w.heap.size := (h.row.lt k hk).2
theorem TabV.below {w' : World} {N : Nat} (h : TabV w B M v t) (hb : Below N w w') (hB : B < N) (hM : M < N) (hv : ∀ k, v.ownBlock = some k → k < N) : TabV w' B M v t :=
  h.keep (hb.block B hB) (hb.block M hM) (fun k hk => hb.block k (hv k hk))
theorem TabV.fresh {w' : World} (h : TabV w B M v t) (hb : Below w.heap.size w w') : TabV w' B M v t :=
  h.below hb h.head.lt h.map.lt (fun _ hk => h.ltV hk)

set_option maxRecDepth 100000 in
theorem len (h : TabV w B M v t) : Calls Try.prog 24 #[.pointer (some ⟨B, 0, none⟩)] w fun e w' => e = .returned (.int .i64 (liveN t.slots)) ∧ w' = w := by
  have c3 := h.c3
  have hl := h.map.len Try.underlying67
  clear h
  go_enter Try.func24, Try.ntmps24
  go_wp2
  go_ret
  exact ⟨rfl, rfl⟩

set_option maxRecDepth 100000 in
theorem capOf (h : TabV w B M v t) : Calls Try.prog 28 #[.pointer (some ⟨B, 0, none⟩)] w fun e w' => e = .returned (.int .i64 t.cap) ∧ w' = w := by
  have c0 := h.c0
  clear h
  go_enter Try.func28, Try.ntmps28
  go_wp2
  go_ret
  exact ⟨rfl, rfl⟩

set_option maxRecDepth 100000 in
theorem serialOf (h : TabV w B M v t) : Calls Try.prog 15 #[.pointer (some ⟨B, 0, none⟩)] w fun e w' => e = .returned (.int .i64 t.serial) ∧ w' = w := by
  have c1 := h.c1
  clear h
  go_enter Try.func15, Try.ntmps15
  go_wp2
  go_ret
  exact ⟨rfl, rfl⟩

/-- The error of an operation more. -/
def mayE (t : Tab) (x : Int) : Int := if (liveN t.slots : Int) = t.cap then 10 else if (timesOf t.slots x).isSome then 11 else 0

set_option maxRecDepth 100000 in
set_option maxHeartbeats 1000000 in
theorem may (h : TabV w B M v t) {x : Int} (hx : In64 x) : Calls Try.prog 29 #[.pointer (some ⟨B, 0, none⟩), .int .i64 x] w fun e w' => e = .returned (.int .i64 (mayE t x)) ∧ ∃ n, w' = w.drewN n := by
  have c0 := h.c0
  have c3 := h.c3
  have hlk := h.look hx
  have hlen : Hid (∀ n, Calls Try.prog 24 #[.pointer (some ⟨B, 0, none⟩)] (w.drewN n) fun e w' => e = .returned (.int .i64 (liveN t.slots)) ∧ w' = w.drewN n) := Lib.hid (fun n => len (h.keep rfl rfl (fun _ _ => rfl)))
  have hlk' : ∀ n, (Instr.lookup 67 (.map (some M)) (.int .i64 x) true).run Try.prog (w.drewN n) = .ok (.tuple #[.int .i64 ((timesOf t.slots x).getD 0), .bool (timesOf t.slots x).isSome]) (w.drewN n) := fun n => (h.keep (w' := w.drewN n) rfl rfl (fun _ _ => rfl)).look hx
  clear h hlk
  unfold mayE
  generalize hL : liveN t.slots = L at *
  generalize timesOf t.slots x = F at *
  by_cases a1 : (L : Int) = t.cap
  · rw [if_pos a1]
    have t1 : ((L : Int) == t.cap) = true := beq_iff_eq.2 a1
    clear a1
    go_enter Try.func29, Try.ntmps29
    go_wp2
    go_quiet ((go_at_call 24; exact Calls.quiet_of_same (hlen.out _)))
    go_wp2
    go_ret
    exact ⟨rfl, _, rfl⟩
  · rw [if_neg a1]
    have t1 : ((L : Int) == t.cap) = false := beq_eq_false_iff_ne.2 a1
    clear a1
    cases F with
    | none =>
      go_enter Try.func29, Try.ntmps29
      go_wp2
      go_quiet ((go_at_call 24; exact Calls.quiet_of_same (hlen.out _)))
      have hlk := hlk' nq
      clear hlk'
      go_wp2
      go_ret
      exact ⟨rfl, _, rfl⟩
    | some i =>
      go_enter Try.func29, Try.ntmps29
      go_wp2
      go_quiet ((go_at_call 24; exact Calls.quiet_of_same (hlen.out _)))
      have hlk := hlk' nq
      clear hlk'
      go_wp2
      go_ret
      exact ⟨rfl, _, rfl⟩
end
end Go.Proofs.Ytccfjjaljckinaa.Tag
/- Finding an operation; the handle of a time. -/
namespace Go.Proofs.Ytccfjjaljckinaa.Tag
open Go.RowKit Go.Lib Go.Proofs.Ytccfjjaljckinaa.Mem Go.Proofs.Ytccfjjaljckinaa.IMap Go.Proofs.YtccfjjaljckinaaW.PrintWords

section
variable {w : World} {B M : Nat} {v : Value} {t : Tab}
def aggOp (o : TOp) : Value := .agg #[.int .i64 o.time, .bool o.ins, .int .i64 o.key, .int .i64 o.id]

theorem findOf_some {ri rg : Int} {i : Nat} (h : findOf t ri rg = some i) : ∃ s, t.slots[i]? = some s ∧ ri = i ∧ s.gen = rg ∧ 1 ≤ rg := by
  unfold findOf at h
  split at h
  · rename_i hc
    obtain ⟨h0, h1, h2, h3⟩ := hc
    injection h with h
    cases hs : t.slots[ri.toNat]? with
    | none => rw [hs] at h3; cases h3
    | some s =>
      rw [hs] at h3
      injection h3 with h3
      exact ⟨s, by rw [← h]; exact hs, by omega, h3, h2⟩
  · cases h

end
end Go.Proofs.Ytccfjjaljckinaa.Tag
/- The handle of a time. -/
namespace Go.Proofs.Ytccfjjaljckinaa.Tag
open Go.RowKit Go.Lib Go.Proofs.Ytccfjjaljckinaa.Mem Go.Proofs.Ytccfjjaljckinaa.IMap Go.Proofs.YtccfjjaljckinaaW.PrintWords

theorem timesOf_some {l : List Slot} {x y : Int} (h : timesOf l x = some y) : ∃ (i : Nat) (s : Slot), y = (i : Int) ∧ l[i]? = some s ∧ 0 < s.gen ∧ s.op.time = x := by
  unfold timesOf at h
  cases hf : l.findIdx? (fun s => decide (0 < s.gen) && decide (s.op.time = x)) with
  | none => rw [hf] at h; cases h
  | some i =>
    rw [hf] at h
    injection h with h
    obtain ⟨hi, hp, _⟩ := List.findIdx?_eq_some_iff_getElem.1 hf
    simp only [Bool.and_eq_true, decide_eq_true_eq] at hp
    exact ⟨i, l[i], h.symm, List.getElem?_eq_getElem hi, hp.1, hp.2⟩
theorem timesOf_none {l : List Slot} {x : Int} (h : timesOf l x = none) : ∀ s ∈ l, 0 < s.gen → s.op.time ≠ x := by
  unfold timesOf at h
  cases hf : l.findIdx? (fun s => decide (0 < s.gen) && decide (s.op.time = x)) with
  | some i => rw [hf] at h; cases h
  | none =>
    intro s hs hg ht
    have := List.findIdx?_eq_none_iff.1 hf s hs
    simp [hg, ht] at this

section
variable {w : World} {B M : Nat} {v : Value} {t : Tab}
end
end Go.Proofs.Ytccfjjaljckinaa.Tag
/- Plain facts on lists of slots: which times are taken, how many live, when one slot turns. No conditions. -/
namespace Go.Proofs.Ytccfjjaljckinaa.Tag
open Go.RowKit Go.Proofs.Ytccfjjaljckinaa.Mem Go.Proofs.Ytccfjjaljckinaa.IMap

def Distinct (l : List Slot) : Prop := ∀ (i j : Nat) (a b : Slot), l[i]? = some a → l[j]? = some b → 0 < a.gen → 0 < b.gen → a.op.time = b.op.time → i = j

theorem T_none {l : List Slot} {x : Int} (h : ∀ (i : Nat) (s : Slot), l[i]? = some s → 0 < s.gen → s.op.time ≠ x) : timesOf l x = none := by
  cases hf : timesOf l x with
  | none => rfl
  | some y =>
    obtain ⟨i, s, _, hs, hg, ht⟩ := timesOf_some hf
    exact absurd ht (h i s hs hg)
theorem T_some {l : List Slot} (D : Distinct l) {x : Int} {i : Nat} {s : Slot} (hs : l[i]? = some s) (hg : 0 < s.gen) (ht : s.op.time = x) : timesOf l x = some (i : Int) := by
  cases hf : timesOf l x with
  | none => exact absurd ht (timesOf_none hf s (List.mem_of_getElem? hs) hg)
  | some y =>
    obtain ⟨j, b, rfl, hb, hg', ht'⟩ := timesOf_some hf
    rw [D i j s b hs hb hg hg' (ht.trans ht'.symm)]

theorem set_at {l : List Slot} {i : Nat} {s s' : Slot} (hs : l[i]? = some s) : (l.set i s')[i]? = some s' := by
  have := (List.getElem?_eq_some_iff.1 hs).1
  simp [this]
theorem set_off {l : List Slot} {i j : Nat} {s' : Slot} (h : j ≠ i) : (l.set i s')[j]? = l[j]? := List.getElem?_set_ne (Ne.symm h)

theorem timesOf_set {l : List Slot} {i : Nat} {s s' : Slot} (hs : l[i]? = some s) (D : Distinct l) (D' : Distinct (l.set i s')) (x : Int) :
    timesOf (l.set i s') x = if 0 < s'.gen ∧ s'.op.time = x then some (i : Int) else if 0 < s.gen ∧ s.op.time = x then none else timesOf l x := by
  split
  · rename_i h
    exact T_some D' (set_at hs) h.1 h.2
  · rename_i h1
    split
    · rename_i h2
      refine T_none fun j b hb hg ht => ?_
      by_cases hj : j = i
      · subst hj
        rw [set_at hs] at hb
        injection hb with hb
        subst hb
        exact h1 ⟨hg, ht⟩
      · rw [set_off hj] at hb
        exact hj (D j i b s hb hs hg h2.1 (ht.trans h2.2.symm))
    · rename_i h2
      cases hf : timesOf l x with
      | none =>
        refine T_none fun j b hb hg ht => ?_
        by_cases hj : j = i
        · subst hj
          rw [set_at hs] at hb
          injection hb with hb
          subst hb
          exact h1 ⟨hg, ht⟩
        · rw [set_off hj] at hb
          exact timesOf_none hf b (List.mem_of_getElem? hb) hg ht
      | some y =>
        obtain ⟨j, b, rfl, hb, hg, ht⟩ := timesOf_some hf
        by_cases hj : j = i
        · subst hj
          rw [hs] at hb
          injection hb with hb
          subst hb
          exact absurd ⟨hg, ht⟩ h2
        · exact T_some D' (by rw [set_off hj]; exact hb) hg ht

theorem liveN_set : ∀ {l : List Slot} {i : Nat} {s : Slot} (s' : Slot), l[i]? = some s → liveN (l.set i s') + (if 0 < s.gen then 1 else 0) = liveN l + (if 0 < s'.gen then 1 else 0)
  | [], i, s, s', h => by simp at h
  | x :: l, 0, s, s', h => by
    simp at h; subst h
    unfold liveN
    rw [List.set_cons_zero, List.filter_cons, List.filter_cons]
    by_cases h1 : 0 < x.gen <;> by_cases h2 : 0 < s'.gen <;> simp [h1, h2]
  | x :: l, i + 1, s, s', h => by
    have ih := liveN_set (l := l) (i := i) s' (by simpa using h)
    unfold liveN at ih ⊢
    rw [List.set_cons_succ, List.filter_cons, List.filter_cons]
    by_cases h1 : 0 < x.gen <;> simp [h1] <;> omega

theorem liveN_le (l : List Slot) : liveN l ≤ l.length := List.length_filter_le _ _

theorem cellsOf_cons (s : Slot) (l : List Slot) : cellsOf (s :: l) = .int .i64 s.last :: .int .i64 s.gen :: .int .i64 s.op.time :: .bool s.op.ins :: .int .i64 s.op.key :: .int .i64 s.op.id :: cellsOf l := by
  unfold cellsOf; rw [List.flatMap_cons]; rfl
theorem cellsOf_set : ∀ {l : List Slot} {i : Nat} {s : Slot} (s' : Slot), l[i]? = some s →
    cellsOf (l.set i s') = ((((((cellsOf l).set (i * 6 + 1) (.int .i64 s'.gen)).set (i * 6 + 2) (.int .i64 s'.op.time)).set (i * 6 + 3) (.bool s'.op.ins)).set (i * 6 + 4) (.int .i64 s'.op.key)).set (i * 6 + 5) (.int .i64 s'.op.id)).set (i * 6) (.int .i64 s'.last)
  | [], i, s, s', h => by simp at h
  | x :: l, 0, s, s', h => by
    rw [List.set_cons_zero, cellsOf_cons, cellsOf_cons]; rfl
  | x :: l, i + 1, s, s', h => by
    have ih := cellsOf_set (l := l) (i := i) s' (by simpa using h)
    rw [List.set_cons_succ, cellsOf_cons, cellsOf_cons, ih, show (i + 1) * 6 = i * 6 + 1 + 1 + 1 + 1 + 1 + 1 by omega]
    rfl

/-- A good table with one slot turned. -/
theorem Good.set {t : Tab} (h : Good t) {i : Nat} {s' : Slot} (hs' : GoodSlot s') (hd : 0 < s'.gen → ∀ (j : Nat) (b : Slot), j ≠ i → t.slots[j]? = some b → 0 < b.gen → b.op.time ≠ s'.op.time) : Good { t with slots := t.slots.set i s' } := by
  refine ⟨h.cap0, h.cap1, h.serial, fun s hs => ?_, fun a b x y ha hb hx hy he => ?_, by simpa using h.few⟩
  · rcases List.mem_or_eq_of_mem_set hs with hs | rfl
    · exact h.slots s hs
    · exact hs'
  · simp only at ha hb
    by_cases hai : a = i
    · by_cases hbi : b = i
      · rw [hai, hbi]
      · exfalso
        subst hai
        rw [set_off hbi] at hb
        have hlt : a < t.slots.length := by
          have := (List.getElem?_eq_some_iff.1 ha).1
          simpa using this
        have hx' : x = s' := by
          rw [List.getElem?_set_self hlt] at ha
          injection ha with ha
          exact ha.symm
        subst hx'
        exact hd hx b y hbi hb hy he.symm
    · rw [set_off hai] at ha
      by_cases hbi : b = i
      · exfalso
        subst hbi
        have hlt : b < t.slots.length := by
          have := (List.getElem?_eq_some_iff.1 hb).1
          simpa using this
        have hy' : y = s' := by
          rw [List.getElem?_set_self hlt] at hb
          injection hb with hb
          exact hb.symm
        subst hy'
        exact hd hy a x hai ha hx he
      · rw [set_off hbi] at hb
        exact h.times a b x y ha hb hx hy he
end Go.Proofs.Ytccfjjaljckinaa.Tag
/- Laying an operation into a slot. -/
namespace Go.Proofs.Ytccfjjaljckinaa.Tag
open Go.RowKit Go.Lib Go.Proofs.Ytccfjjaljckinaa.Mem Go.Proofs.Ytccfjjaljckinaa.IMap Go.Proofs.YtccfjjaljckinaaW.PrintWords

theorem chgR {R : Nat} {w w1 : World} (h : Chg (fun k => k = R) w w1) {o : Nat} {u : Value} : Chg (fun k => k = R) w (w1.setCell ⟨R, o, none⟩ u) := h.set (p := ⟨R, o, none⟩) (fun _ => rfl) u
theorem chg_alloc {S : Nat → Prop} {w w1 : World} (h : Chg S w w1) {o : Obj} : Chg S w (w1.alloc o) := h.alloc o
theorem row_set {w : World} {e : TypeId} {sz g n cap : Nat} {xs : List Value} {j : Nat} {u : Value} (h : w.ownsRow 0 e sz (.slice (some ⟨g, 0, none⟩) n cap) n xs) : (w.setCell ⟨g, j, none⟩ u).ownsRow 0 e sz (.slice (some ⟨g, 0, none⟩) n cap) n (xs.set j u) := (h.stored j u).1
theorem row_drew {w : World} {e : TypeId} {sz n : Nat} {v : Value} {xs : List Value} (h : w.ownsRow 0 e sz v n xs) : w.drew.ownsRow 0 e sz v n xs := h
theorem gwP {P : Program} {c : Code} {Q : Exit → Act → World → Prop} {a : Act} {W : World} (h : ∀ wa, W = wa → c.wp P Q a wa) : c.wp P Q a W := h _ rfl
theorem gwE {K : Act → World → Prop} {Q : Exit → Act → World → Prop} {e : Exit} {a : Act} {W : World} (h : ∀ wa, W = wa → Exit.then K Q e a wa) : Exit.then K Q e a W := h _ rfl
section
variable {w : World} {B M : Nat} {v : Value} {t : Tab}
set_option maxRecDepth 100000 in
set_option maxHeartbeats 1000000 in
theorem lay (h : TabV w B M v t) {i : Nat} {s : Slot} {g : Int} {o : TOp} (hs : t.slots[i]? = some s) (hd : ¬ 0 < s.gen) (hg : 0 < g) (hg1 : g ≤ 4294967295) (ho : In64 o.time ∧ In64 o.key ∧ In64 o.id) (hn : timesOf t.slots o.time = none) :
    Calls Try.prog 31 #[.pointer (some ⟨B, 0, none⟩), .int .i64 i, .int .i64 g, aggOp o] w fun e w' => e = .returned (.tuple #[]) ∧ TabV w' B M v { t with slots := t.slots.set i ⟨if g ≤ s.last then s.last else g, g, o⟩ } ∧
      Chg (fun k => k = M ∨ v.ownBlock = some k) w w' := by
  have hG : Good { t with slots := t.slots.set i ⟨if g ≤ s.last then s.last else g, g, o⟩ } := by
    have gs := h.good.slots s (List.mem_of_getElem? hs)
    have l0 := gs.last0
    have l1 := gs.last1
    refine h.good.set ⟨?_, ?_, by show 0 ≤ g; omega, ?_, ho.1, ho.2.1, ho.2.2⟩ (fun _ j b _ hb hbg => timesOf_none hn b (List.mem_of_getElem? hb) hbg)
    · show 0 ≤ (if g ≤ s.last then s.last else g); split <;> omega
    · show (if g ≤ s.last then s.last else g) ≤ 4294967295; split <;> omega
    · show g ≤ (if g ≤ s.last then s.last else g); split <;> omega
  have hF : ∀ x, timesOf (t.slots.set i ⟨if g ≤ s.last then s.last else g, g, o⟩) x = upd (timesOf t.slots) o.time (some (i : Int)) x := by
    intro x
    rw [timesOf_set hs h.good.times hG.times]
    unfold upd
    simp only [hg, hd, true_and, false_and, if_false]
    by_cases hx : x = o.time
    · rw [if_pos hx.symm, if_pos hx]
    · rw [if_neg (fun e => hx e.symm), if_neg hx]
  have hL : liveN (t.slots.set i ⟨if g ≤ s.last then s.last else g, g, o⟩) = liveN t.slots + 1 := by
    have := liveN_set (⟨if g ≤ s.last then s.last else g, g, o⟩ : Slot) hs
    simp only [hg, hd, if_true, if_false] at this
    omega
  generalize hmx : (if g ≤ s.last then s.last else g) = m at *
  have HMX := Lib.hid hmx
  clear hmx
  have HGood := Lib.hid hG
  have HF := Lib.hid hF
  have HL := Lib.hid hL
  have HOT := Lib.hid ho.1
  have HNone := Lib.hid hn
  clear hG hF hL ho hn hd hg1
  obtain ⟨R, cap, hv, hR, hle, hRB, hRM, hc, hfr⟩ := h.cells hs
  have c2 := h.c2
  rw [hv] at c2
  have hB := h.head.lt
  have hu32 := Try.underlying32
  have hfew := h.good.few
  have hlt := (List.getElem?_eq_some_iff.1 hs).1
  have k0 : w.cell? ⟨R, i * 6, none⟩ = some (.int .i64 s.last) := hc 0 _ rfl
  have k1 : w.cell? ⟨R, i * 6 + 1, none⟩ = some (.int .i64 s.gen) := hc 1 _ rfl
  have k2 : w.cell? ⟨R, i * 6 + 2, none⟩ = some (.int .i64 s.op.time) := hc 2 _ rfl
  have k3 : w.cell? ⟨R, i * 6 + 3, none⟩ = some (.bool s.op.ins) := hc 3 _ rfl
  have k4 : w.cell? ⟨R, i * 6 + 4, none⟩ = some (.int .i64 s.op.key) := hc 4 _ rfl
  have k5 : w.cell? ⟨R, i * 6 + 5, none⟩ = some (.int .i64 s.op.id) := hc 5 _ rfl
  have f0 : w.frozen? ⟨R, i * 6, none⟩ = false := hfr _
  have f1 : w.frozen? ⟨R, i * 6 + 1, none⟩ = false := hfr _
  have f2 : w.frozen? ⟨R, i * 6 + 2, none⟩ = false := hfr _
  have f3 : w.frozen? ⟨R, i * 6 + 3, none⟩ = false := hfr _
  have f4 : w.frozen? ⟨R, i * 6 + 4, none⟩ = false := hfr _
  have f5 : w.frozen? ⟨R, i * 6 + 5, none⟩ = false := hfr _
  have hi0 : (0 : Int) ≤ i := by omega
  have e1 : (i : Int).toNat = i := by omega
  have HT := Lib.hid h
  have HV := Lib.hid hv
  have HS := Lib.hid hs
  clear h hs hc hfr hv hle
  generalize hN : t.slots.length = N at *
  have HN := Lib.hid hN
  clear hN
  have hiN : (i : Int) < N := by omega
  unfold aggOp
  by_cases hm : g ≤ s.last
  · go_enter Try.func31, Try.ntmps31
    go_wp2
    go_region
    refine gwE (fun wa hwa => ?_)
    have HA : Hid (Chg (fun k => k = R) w wa) := Lib.hid (by rw [← hwa]; exact (chg_alloc (chgR (chgR (chgR (chgR (chgR (Chg.refl (fun k => k = R) w))))))).drew)
    have HO : Hid (Blk wa w.heap.size #[.int .i64 o.time, .bool o.ins, .int .i64 o.key, .int .i64 o.id] 32) := Lib.hid (by rw [← hwa]; exact Blk.drew (Blk.at_ (by simp [World.setCell]) _ _))
    have d2 : wa.cell? ⟨B, 2, none⟩ = some (.slice (some ⟨R, 0, none⟩) N cap) := (HA.out.cell (p := ⟨B, 2, none⟩) hB (fun e => hRB e.symm)).trans c2
    have HRow : Hid (wa.ownsRow 0 73 6 (.slice (some ⟨R, 0, none⟩) N cap) N ((((((cellsOf t.slots).set (i * 6 + 1) (.int .i64 g)).set (i * 6 + 2) (.int .i64 o.time)).set (i * 6 + 3) (.bool o.ins)).set (i * 6 + 4) (.int .i64 o.key)).set (i * 6 + 5) (.int .i64 o.id))) := Lib.hid (by
      have hr := HT.out.row
      rw [HN.out, HV.out] at hr
      rw [← hwa]
      exact row_drew ((row_set (row_set (row_set (row_set (row_set hr))))).alloc _))
    have g0 : wa.cell? ⟨R, i * 6, none⟩ = some (.int .i64 s.last) := (HRow.out.cellAt (i * 6) (by omega)).trans (by
      rw [List.getElem?_set_ne (by omega), List.getElem?_set_ne (by omega), List.getElem?_set_ne (by omega), List.getElem?_set_ne (by omega), List.getElem?_set_ne (by omega)]
      exact cellsOf_at _ i s 0 _ HS.out rfl)
    have q0 : wa.frozen? ⟨R, i * 6, none⟩ = false := HRow.out.frozenAt _
    clear hwa k0 k1 k2 k3 k4 k5 f0 f1 f2 f3 f4 f5 c2
    go_wp2
    refine gwP (fun wb hwb => ?_)
    have HB : Hid (Chg (fun k => k = R) w wb) := Lib.hid (by rw [← hwb]; exact chgR HA.out)
    have HO2 : Hid (Blk wb w.heap.size #[.int .i64 o.time, .bool o.ins, .int .i64 o.key, .int .i64 o.id] 32) := Lib.hid (by rw [← hwb]; exact HO.out.far (p := ⟨R, i * 6, none⟩) (by simp; omega) _)
    have hrow2 := row_set (j := i * 6) (u := .int .i64 s.last) HRow.out
    rw [hwb] at hrow2
    have HRow2 := Lib.hid hrow2
    have hhd : Blk wb B #[.int .i64 t.cap, .int .i64 t.serial, .slice (some ⟨R, 0, none⟩) N cap, .map (some M)] 70 := by
      have := HT.out.head
      rw [HV.out] at this
      exact this.keep HB.out (fun e => hRB e.symm)
    have hM : IMap Try.prog 3 3 wb M (liveN t.slots) (timesOf t.slots) (liveN t.slots) := HT.out.map.keep (HB.out.block M HT.out.map.lt (fun e => hRM e.symm))
    have HHd := Lib.hid hhd
    have HM := Lib.hid hM
    have d3 : wb.cell? ⟨B, 3, none⟩ = some (.map (some M)) := hhd.cell (j := 3) rfl
    have o0 : wb.cell? ⟨w.heap.size, 0, none⟩ = some (.int .i64 o.time) := HO2.out.cell (j := 0) rfl
    have hsz := HB.out.size
    clear hwb d2 hrow2 hhd hM HRow HO HA g0 q0
    go_still_tail 7, (by kernel_rfl)
    obtain ⟨w5, hrun, hm5, ht5⟩ := (show IMap Try.prog 3 3 wb.drew M (liveN t.slots) (timesOf t.slots) (liveN t.slots) from HM.out.keep rfl).store Try.underlying67 Try.underlying3 Try.underlying3 (by have := liveN_le t.slots; rw [HN.out] at this; unfold maxLen; omega) HOT.out (show In64 (i : Int) from ⟨by omega, by omega⟩)
    have HRun := Lib.hid hrun
    have HM5 := Lib.hid hm5
    have HT5 := Lib.hid ht5
    clear hrun hm5 ht5
    have hrun := HRun.out
    go_wp2
    go_end0
    clear hrun HRun
    have hch : Chg (fun k => k = M) wb w5 := by
      have := turned_chg HT5.out
      exact ⟨this.os, this.tape, this.output, this.size, this.block⟩
    have hvo : v.ownBlock = some R := by rw [HV.out]; rfl
    refine ⟨rfl, ⟨?_, ?_, ?_, HGood.out⟩, ?_⟩
    · rw [HV.out]
      exact HHd.out.keep hch (fun e => by
        obtain ⟨es, clock, hb⟩ := HT.out.map.block
        have := HT.out.head
        unfold Blk at this
        rw [e, hb] at this
        cases this)
    · rw [show (Tab.mk t.cap t.serial (t.slots.set i ⟨m, g, o⟩)).slots = t.slots.set i ⟨m, g, o⟩ from rfl, cellsOf_set _ HS.out, List.length_set, HN.out, HV.out]
      have hk := HRow2.out.kept (w' := w5) (row := some M) ⟨hch.os, hch.tape, hch.output, hch.size, fun k hk hne => hch.block k hk (fun e => hne (by rw [e]))⟩ (Or.inr (by simp [Value.ownBlock]; exact hRM))
      rw [show m = s.last by rw [← HMX.out, if_pos hm]]
      exact hk
    · show IMap Try.prog 3 3 w5 M (liveN (t.slots.set i _)) (timesOf (t.slots.set i _)) (liveN (t.slots.set i _))
      rw [HL.out, show timesOf (t.slots.set i ⟨m, g, o⟩) = upd (timesOf t.slots) o.time (some (i : Int)) from funext HF.out]
      have := HM5.out
      rw [HNone.out] at this
      exact this
    · exact (HB.out.mono (S' := fun k => k = M ∨ v.ownBlock = some k) (fun k _ hk => Or.inr (by rw [hvo, hk]))).trans hch (fun k _ hk => Or.inl hk)
  · go_enter Try.func31, Try.ntmps31
    go_wp2
    go_region
    refine gwE (fun wa hwa => ?_)
    have HA : Hid (Chg (fun k => k = R) w wa) := Lib.hid (by rw [← hwa]; exact (chg_alloc (chgR (chgR (chgR (chgR (chgR (Chg.refl (fun k => k = R) w))))))).drew)
    have HO : Hid (Blk wa w.heap.size #[.int .i64 o.time, .bool o.ins, .int .i64 o.key, .int .i64 o.id] 32) := Lib.hid (by rw [← hwa]; exact Blk.drew (Blk.at_ (by simp [World.setCell]) _ _))
    have d2 : wa.cell? ⟨B, 2, none⟩ = some (.slice (some ⟨R, 0, none⟩) N cap) := (HA.out.cell (p := ⟨B, 2, none⟩) hB (fun e => hRB e.symm)).trans c2
    have HRow : Hid (wa.ownsRow 0 73 6 (.slice (some ⟨R, 0, none⟩) N cap) N ((((((cellsOf t.slots).set (i * 6 + 1) (.int .i64 g)).set (i * 6 + 2) (.int .i64 o.time)).set (i * 6 + 3) (.bool o.ins)).set (i * 6 + 4) (.int .i64 o.key)).set (i * 6 + 5) (.int .i64 o.id))) := Lib.hid (by
      have hr := HT.out.row
      rw [HN.out, HV.out] at hr
      rw [← hwa]
      exact row_drew ((row_set (row_set (row_set (row_set (row_set hr))))).alloc _))
    have g0 : wa.cell? ⟨R, i * 6, none⟩ = some (.int .i64 s.last) := (HRow.out.cellAt (i * 6) (by omega)).trans (by
      rw [List.getElem?_set_ne (by omega), List.getElem?_set_ne (by omega), List.getElem?_set_ne (by omega), List.getElem?_set_ne (by omega), List.getElem?_set_ne (by omega)]
      exact cellsOf_at _ i s 0 _ HS.out rfl)
    have q0 : wa.frozen? ⟨R, i * 6, none⟩ = false := HRow.out.frozenAt _
    clear hwa k0 k1 k2 k3 k4 k5 f0 f1 f2 f3 f4 f5 c2
    go_wp2
    refine gwP (fun wb hwb => ?_)
    have HB : Hid (Chg (fun k => k = R) w wb) := Lib.hid (by rw [← hwb]; exact chgR HA.out)
    have HO2 : Hid (Blk wb w.heap.size #[.int .i64 o.time, .bool o.ins, .int .i64 o.key, .int .i64 o.id] 32) := Lib.hid (by rw [← hwb]; exact HO.out.far (p := ⟨R, i * 6, none⟩) (by simp; omega) _)
    have hrow2 := row_set (j := i * 6) (u := .int .i64 g) HRow.out
    rw [hwb] at hrow2
    have HRow2 := Lib.hid hrow2
    have hhd : Blk wb B #[.int .i64 t.cap, .int .i64 t.serial, .slice (some ⟨R, 0, none⟩) N cap, .map (some M)] 70 := by
      have := HT.out.head
      rw [HV.out] at this
      exact this.keep HB.out (fun e => hRB e.symm)
    have hM : IMap Try.prog 3 3 wb M (liveN t.slots) (timesOf t.slots) (liveN t.slots) := HT.out.map.keep (HB.out.block M HT.out.map.lt (fun e => hRM e.symm))
    have HHd := Lib.hid hhd
    have HM := Lib.hid hM
    have d3 : wb.cell? ⟨B, 3, none⟩ = some (.map (some M)) := hhd.cell (j := 3) rfl
    have o0 : wb.cell? ⟨w.heap.size, 0, none⟩ = some (.int .i64 o.time) := HO2.out.cell (j := 0) rfl
    have hsz := HB.out.size
    clear hwb d2 hrow2 hhd hM HRow HO HA g0 q0
    go_still_tail 7, (by kernel_rfl)
    obtain ⟨w5, hrun, hm5, ht5⟩ := (show IMap Try.prog 3 3 wb.drew M (liveN t.slots) (timesOf t.slots) (liveN t.slots) from HM.out.keep rfl).store Try.underlying67 Try.underlying3 Try.underlying3 (by have := liveN_le t.slots; rw [HN.out] at this; unfold maxLen; omega) HOT.out (show In64 (i : Int) from ⟨by omega, by omega⟩)
    have HRun := Lib.hid hrun
    have HM5 := Lib.hid hm5
    have HT5 := Lib.hid ht5
    clear hrun hm5 ht5
    have hrun := HRun.out
    go_wp2
    go_end0
    clear hrun HRun
    have hch : Chg (fun k => k = M) wb w5 := by
      have := turned_chg HT5.out
      exact ⟨this.os, this.tape, this.output, this.size, this.block⟩
    have hvo : v.ownBlock = some R := by rw [HV.out]; rfl
    refine ⟨rfl, ⟨?_, ?_, ?_, HGood.out⟩, ?_⟩
    · rw [HV.out]
      exact HHd.out.keep hch (fun e => by
        obtain ⟨es, clock, hb⟩ := HT.out.map.block
        have := HT.out.head
        unfold Blk at this
        rw [e, hb] at this
        cases this)
    · rw [show (Tab.mk t.cap t.serial (t.slots.set i ⟨m, g, o⟩)).slots = t.slots.set i ⟨m, g, o⟩ from rfl, cellsOf_set _ HS.out, List.length_set, HN.out, HV.out]
      have hk := HRow2.out.kept (w' := w5) (row := some M) ⟨hch.os, hch.tape, hch.output, hch.size, fun k hk hne => hch.block k hk (fun e => hne (by rw [e]))⟩ (Or.inr (by simp [Value.ownBlock]; exact hRM))
      rw [show m = g by rw [← HMX.out, if_neg (by omega)]]
      exact hk
    · show IMap Try.prog 3 3 w5 M (liveN (t.slots.set i _)) (timesOf (t.slots.set i _)) (liveN (t.slots.set i _))
      rw [HL.out, show timesOf (t.slots.set i ⟨m, g, o⟩) = upd (timesOf t.slots) o.time (some (i : Int)) from funext HF.out]
      have := HM5.out
      rw [HNone.out] at this
      exact this
    · exact (HB.out.mono (S' := fun k => k = M ∨ v.ownBlock = some k) (fun k _ hk => Or.inr (by rw [hvo, hk]))).trans hch (fun k _ hk => Or.inl hk)
end
end Go.Proofs.Ytccfjjaljckinaa.Tag
/- Dropping an operation. -/
namespace Go.Proofs.Ytccfjjaljckinaa.Tag
open Go.RowKit Go.Lib Go.Proofs.Ytccfjjaljckinaa.Mem Go.Proofs.Ytccfjjaljckinaa.IMap Go.Proofs.YtccfjjaljckinaaW.PrintWords

section
variable {w : World} {B M : Nat} {v : Value} {t : Tab}
theorem TabV.of {t' : Tab} {n : Nat} {f : Int → Option Int} {xs : List Value} (hh : Blk w B #[.int .i64 t'.cap, .int .i64 t'.serial, v, .map (some M)] 70) (hr : w.ownsRow 0 73 6 v t'.slots.length xs) (hx : xs = cellsOf t'.slots)
    {m : Nat} (hm : IMap Try.prog 3 3 w M m f n) (hn : n = liveN t'.slots) (hf : ∀ x, f x = timesOf t'.slots x) (hg : Good t') : TabV w B M v t' := by
  subst hx; subst hn
  rw [show f = timesOf t'.slots from funext hf] at hm
  exact ⟨hh, hr, hm.tight, hg⟩
theorem TabV.BM (h : TabV w B M v t) : B ≠ M := by
  rintro rfl
  obtain ⟨es, clock, hb⟩ := h.map.block
  have := h.head
  unfold Blk at this
  rw [hb] at this
  cases this
theorem row_chg {w' : World} {S : Nat → Prop} {e : TypeId} {sz n : Nat} {v : Value} {xs : List Value} (h : w.ownsRow 0 e sz v n xs) (hc : Chg S w w') (hs : ∀ k, v.ownBlock = some k → ¬ S k) : w'.ownsRow 0 e sz v n xs := by
  obtain ⟨hlen, ⟨rfl, h0⟩ | ⟨R, cap, cur, rfl, hge, hb, hle, hm, hsz, htake⟩⟩ := h
  · exact ⟨hlen, .inl ⟨rfl, h0⟩⟩
  · exact ⟨hlen, .inr ⟨R, cap, cur, rfl, hge, (hc.block R (lt_of_block hb) (hs R rfl)).trans hb, hle, hm, hsz, htake⟩⟩
theorem row_far {w : World} {e : TypeId} {sz g n cap : Nat} {xs : List Value} {b o : Nat} {u : Value} (h : w.ownsRow 0 e sz (.slice (some ⟨g, 0, none⟩) n cap) n xs) (hp : g ≠ b) : (w.setCell ⟨b, o, none⟩ u).ownsRow 0 e sz (.slice (some ⟨g, 0, none⟩) n cap) n xs :=
  row_chg (S := fun k => k = b) h (chgR (Chg.refl (fun k => k = b) w)) (fun k hk e => hp (by simp [Value.ownBlock] at hk; omega))
theorem blk_far {w : World} {g b o : Nat} {cs : Array Value} {ty : TypeId} {u : Value} (h : Blk w g cs ty) (hp : g ≠ b) : Blk (w.setCell ⟨b, o, none⟩ u) g cs ty := h.far (p := ⟨b, o, none⟩) hp u
theorem chg2 {a b c o : Nat} {w w1 : World} {u : Value} (h : Chg (fun k => k = a ∨ k = b) w w1) (hc : c = a ∨ c = b) : Chg (fun k => k = a ∨ k = b) w (w1.setCell ⟨c, o, none⟩ u) := h.set (p := ⟨c, o, none⟩) (fun _ => hc) u
theorem gwB {P : Program} {fn : Func} {R : Ending → World → Prop} {e : Exit} {a : Act} {W : World} (h : ∀ wa, W = wa → bodyPost P fn R e a wa) : bodyPost P fn R e a W := h _ rfl
theorem set_same {α : Type} : ∀ {l : List α} {i : Nat} {a : α}, l[i]? = some a → l.set i a = l
  | [], i, a, h => by simp at h
  | x :: l, 0, a, h => by simp at h; subst h; rfl
  | x :: l, i + 1, a, h => by rw [List.set_cons_succ, set_same (by simpa using h)]
set_option maxRecDepth 100000 in
set_option maxHeartbeats 1000000 in
theorem drop_none (h : TabV w B M v t) {ri rg : Int} (hf : findOf t ri rg = none) :
    Calls Try.prog 12 #[.pointer (some ⟨B, 0, none⟩), .agg #[.int .i64 ri, .int .i64 rg]] w fun e w' => e = .returned (.tuple #[aggOp op0, .bool false]) ∧ Below w.heap.size w w' := by
  have CF : Hid (∀ w1, Below w.heap.size w w1 → Calls Try.prog 32 #[.pointer (some ⟨B, 0, none⟩), .agg #[.int .i64 ri, .int .i64 rg]] w1 fun e w' => e = .returned (.pointer none) ∧ Below w1.heap.size w1 w') := Lib.hid (fun w1 hb => find_none (h.fresh hb) hf)
  have hu28 := Try.underlying28
  have hu32 := Try.underlying32
  unfold aggOp op0
  clear h hf
  go_enter Try.func12, Try.ntmps12
  go_wp2_with fail
  refine gw (fun wa hwa => ?_)
  have HB1 : Hid (Below w.heap.size w wa) := Lib.hid (by rw [← hwa]; exact ((Below.refl _ _).alloc (Nat.le_refl _) _).alloc (by simp) _)
  have HX1 : Hid (Blk wa (w.heap.size + 1) #[.int .i64 0, .bool false, .int .i64 0, .int .i64 0] 32) := Lib.hid (by rw [← hwa]; exact Blk.at_ (by simp) _ _)
  clear hwa
  refine (CF.out _ HB1.out).mono ?_
  rintro e w2 ⟨rfl, hb⟩
  have HX2 := Lib.hid (HX1.out.below hb)
  have HB2 : Hid (Below w.heap.size w w2) := Lib.hid (btrans HB1.out hb)
  have x0 := HX2.out.cell (j := 0) rfl
  have x1 := HX2.out.cell (j := 1) rfl
  have x2 := HX2.out.cell (j := 2) rfl
  have x3 := HX2.out.cell (j := 3) rfl
  have f0 := HX2.out.free 0
  have f1 := HX2.out.free 1
  have f2 := HX2.out.free 2
  have f3 := HX2.out.free 3
  clear hb HB1 HX1 CF
  go_wp2_with fail
  refine bodyPost_ret (results_ct rfl _ _ (w.heap.size + 1) 32 _ (0, 0) _ rfl ((((HX2.out.set 0 (.int .i64 0)).set 1 (.bool false)).set 2 (.int .i64 0)).set 3 (.int .i64 0)) Try.underlying32 rfl (by kernel_rfl)) rfl ?_
  exact ⟨rfl, (((HB2.out.setCell (by simp) _).setCell (by simp) _).setCell (by simp) _).setCell (by simp) _⟩

set_option maxRecDepth 100000 in
set_option maxHeartbeats 1000000 in
theorem drop_some (h : TabV w B M v t) {ri rg : Int} {i : Nat} {s : Slot} (hf : findOf t ri rg = some i) (hs : t.slots[i]? = some s) :
    Calls Try.prog 12 #[.pointer (some ⟨B, 0, none⟩), .agg #[.int .i64 ri, .int .i64 rg]] w fun e w' => e = .returned (.tuple #[aggOp s.op, .bool true]) ∧ TabV w' B M v { t with slots := t.slots.set i ⟨s.last, 0, op0⟩ } ∧
      Chg (fun k => k = M ∨ v.ownBlock = some k) w w' := by
  obtain ⟨s', hs', hi, hg, h1⟩ := findOf_some hf
  rw [hs] at hs'
  injection hs' with hs'
  subst hs'
  have gs := h.good.slots s (List.mem_of_getElem? hs)
  have hG : Good { t with slots := t.slots.set i ⟨s.last, 0, op0⟩ } :=
    h.good.set ⟨gs.last0, gs.last1, Int.le_refl 0, gs.last0, by unfold In64 op0; simp, by unfold In64 op0; simp, by unfold In64 op0; simp⟩ (fun hx => absurd hx (Int.lt_irrefl 0))
  have hgp : 0 < s.gen := by omega
  have hL : liveN t.slots = liveN (t.slots.set i ⟨s.last, 0, op0⟩) + 1 := by
    have := liveN_set (⟨s.last, 0, op0⟩ : Slot) hs
    simp only [hgp, if_true, show ¬ (0 : Int) < 0 by decide, if_false] at this
    omega
  have hFF : ∀ x, upd (timesOf t.slots) s.op.time none x = timesOf (t.slots.set i ⟨s.last, 0, op0⟩) x := by
    intro x
    rw [timesOf_set hs h.good.times hG.times]
    unfold upd
    simp only [hgp, show ¬ (0 : Int) < 0 by decide, true_and, false_and, if_false]
    by_cases hx : x = s.op.time
    · rw [if_pos hx, if_pos hx.symm]
    · rw [if_neg hx, if_neg (fun e => hx e.symm)]
  have hTs : (timesOf t.slots s.op.time).isSome = true := by rw [T_some h.good.times hs hgp rfl]; rfl
  obtain ⟨R, cap, hv, hR, hle, hRB, hRM, hc, hfr⟩ := h.cells hs
  have CF : Hid (∀ w1, Below w.heap.size w w1 → Calls Try.prog 32 #[.pointer (some ⟨B, 0, none⟩), .agg #[.int .i64 ri, .int .i64 rg]] w1 fun e w' => e = .returned (.pointer (some ⟨R, i * 6, none⟩)) ∧ Below w1.heap.size w1 w') := Lib.hid (fun w1 hb => by
    obtain ⟨R', cap', hv', hcall⟩ := find_some (h.fresh hb) hs hi hg h1
    rw [hv] at hv'
    injection hv' with hv' _ _
    injection hv' with hv'
    injection hv' with hv' _ _
    subst hv'
    exact hcall)
  have HC : Hid (∀ j u, (encSlot s)[j]? = some u → w.cell? ⟨R, i * 6 + j, none⟩ = some u) := Lib.hid hc
  have HFr : Hid (∀ j, w.frozen? ⟨R, j, none⟩ = false) := Lib.hid hfr
  have hu28 := Try.underlying28
  have hu32 := Try.underlying32
  have HG := Lib.hid hG
  have HL := Lib.hid hL
  have HF := Lib.hid hFF
  have HTs := Lib.hid hTs
  have HT := Lib.hid h
  have HV := Lib.hid hv
  have HS := Lib.hid hs
  have HTime := Lib.hid gs.time
  have hBl := h.head.lt
  have hMl := h.map.lt
  have hBM := h.BM
  unfold aggOp
  clear h hf hs hc hfr hv hi hg h1 hle hG hL hFF hTs gs hgp
  go_enter Try.func12, Try.ntmps12
  go_wp2_with fail
  refine gw (fun wa hwa => ?_)
  have HB1 : Hid (Below w.heap.size w wa) := Lib.hid (by rw [← hwa]; exact ((Below.refl _ _).alloc (Nat.le_refl _) _).alloc (by simp) _)
  have HX1 : Hid (Blk wa (w.heap.size + 1) #[.int .i64 0, .bool false, .int .i64 0, .int .i64 0] 32) := Lib.hid (by rw [← hwa]; exact Blk.at_ (by simp) _ _)
  clear hwa
  refine (CF.out _ HB1.out).mono ?_
  rintro e w2 ⟨rfl, hb⟩
  have HX2 := Lib.hid (HX1.out.below hb)
  have HB2 : Hid (Below w.heap.size w w2) := Lib.hid (btrans HB1.out hb)
  have k2 : w2.cell? ⟨R, i * 6 + 2, none⟩ = some (.int .i64 s.op.time) := bcell HB2.out (HC.out 2 _ rfl) hR
  have k3 : w2.cell? ⟨R, i * 6 + 3, none⟩ = some (.bool s.op.ins) := bcell HB2.out (HC.out 3 _ rfl) hR
  have k4 : w2.cell? ⟨R, i * 6 + 4, none⟩ = some (.int .i64 s.op.key) := bcell HB2.out (HC.out 4 _ rfl) hR
  have k5 : w2.cell? ⟨R, i * 6 + 5, none⟩ = some (.int .i64 s.op.id) := bcell HB2.out (HC.out 5 _ rfl) hR
  clear hb HB1 HX1 CF
  go_wp2_with fail
  refine gwP (fun wb hwb => ?_)
  have HB3 : Hid (Below w.heap.size w wb) := Lib.hid (by rw [← hwb]; exact HB2.out.alloc HB2.out.size _)
  have HX3 : Hid (Blk wb (w.heap.size + 1) #[.int .i64 0, .bool false, .int .i64 0, .int .i64 0] 32) := Lib.hid (by rw [← hwb]; exact HX2.out.alloc _)
  have HO3 : Hid (Blk wb w2.heap.size #[.int .i64 s.op.time, .bool s.op.ins, .int .i64 s.op.key, .int .i64 s.op.id] 32) := Lib.hid (by rw [← hwb]; exact Blk.new _ _ _)
  have d3 : wb.cell? ⟨B, 3, none⟩ = some (.map (some M)) := bcell HB3.out HT.out.c3 hBl
  have o0 := HO3.out.cell (j := 0) rfl
  have hw2 : w.heap.size + 1 < w2.heap.size := HX2.out.lt
  obtain ⟨w5, hrun, hm5, ht5⟩ := (show IMap Try.prog 3 3 wb.drew M (liveN t.slots) (timesOf t.slots) (liveN t.slots) from HT.out.map.keep (HB3.out.block M hMl)).drop Try.underlying67 Try.underlying3 HTime.out 0
  have HRun := Lib.hid hrun
  have HM5 := Lib.hid hm5
  have HCh : Hid (Chg (fun k => k = M) wb w5) := Lib.hid (by have := turned_chg ht5; exact ⟨this.os, this.tape, this.output, this.size, this.block⟩)
  have hMw2 : M < w2.heap.size := by omega
  have HX5 : Hid (Blk w5 (w.heap.size + 1) #[.int .i64 0, .bool false, .int .i64 0, .int .i64 0] 32) := Lib.hid (HX3.out.keep HCh.out (by omega))
  have HO5 : Hid (Blk w5 w2.heap.size #[.int .i64 s.op.time, .bool s.op.ins, .int .i64 s.op.key, .int .i64 s.op.id] 32) := Lib.hid (HO3.out.keep HCh.out (by omega))
  have hRb : R < wb.heap.size := Nat.lt_of_lt_of_le hR HB3.out.size
  have r1 : w5.cell? ⟨R, i * 6 + 1, none⟩ = some (.int .i64 s.gen) := (HCh.out.cell (p := ⟨R, i * 6 + 1, none⟩) hRb hRM).trans (bcell HB3.out (HC.out 1 _ rfl) hR)
  have r2 : w5.cell? ⟨R, i * 6 + 2, none⟩ = some (.int .i64 s.op.time) := (HCh.out.cell (p := ⟨R, i * 6 + 2, none⟩) hRb hRM).trans (bcell HB3.out (HC.out 2 _ rfl) hR)
  have r3 : w5.cell? ⟨R, i * 6 + 3, none⟩ = some (.bool s.op.ins) := (HCh.out.cell (p := ⟨R, i * 6 + 3, none⟩) hRb hRM).trans (bcell HB3.out (HC.out 3 _ rfl) hR)
  have r4 : w5.cell? ⟨R, i * 6 + 4, none⟩ = some (.int .i64 s.op.key) := (HCh.out.cell (p := ⟨R, i * 6 + 4, none⟩) hRb hRM).trans (bcell HB3.out (HC.out 4 _ rfl) hR)
  have r5 : w5.cell? ⟨R, i * 6 + 5, none⟩ = some (.int .i64 s.op.id) := (HCh.out.cell (p := ⟨R, i * 6 + 5, none⟩) hRb hRM).trans (bcell HB3.out (HC.out 5 _ rfl) hR)
  have fz : ∀ j, w5.frozen? ⟨R, j, none⟩ = false := fun j => (HCh.out.frozen (p := ⟨R, j, none⟩) hRb hRM).trans (bfree HB3.out (HFr.out j) hR)
  have g1 := fz (i * 6 + 1)
  have g2 := fz (i * 6 + 2)
  have g3 := fz (i * 6 + 3)
  have g4 := fz (i * 6 + 4)
  have g5 := fz (i * 6 + 5)
  have x0 := HX5.out.cell (j := 0) rfl
  have x1 := HX5.out.cell (j := 1) rfl
  have x2 := HX5.out.cell (j := 2) rfl
  have x3 := HX5.out.cell (j := 3) rfl
  have y0 := HX5.out.free 0
  have y1 := HX5.out.free 1
  have y2 := HX5.out.free 2
  have y3 := HX5.out.free 3
  have p0 := HO5.out.cell (j := 0) rfl
  have p1 := HO5.out.cell (j := 1) rfl
  have p2 := HO5.out.cell (j := 2) rfl
  have p3 := HO5.out.cell (j := 3) rfl
  clear hwb hrun hm5 ht5 fz HX3 HO3
  have hrun := HRun.out
  go_still_tail 6, (by kernel_rfl)
  go_wp2
  refine gwB (fun wz hwz => ?_)
  clear hrun HRun r1 r2 r3 r4 r5 g1 g2 g3 g4 g5 x0 x1 x2 x3 y0 y1 y2 y3 p0 p1 p2 p3 k2 k3 k4 k5 d3 o0 hu28 hu32
  have hne : w.heap.size + 1 ≠ R := by omega
  have HZ : Hid (Blk wz (w.heap.size + 1) #[.int .i64 s.op.time, .bool s.op.ins, .int .i64 s.op.key, .int .i64 s.op.id] 32) := Lib.hid (by
    rw [← hwz]
    exact ((((blk_far (blk_far (blk_far (blk_far (blk_far HX5.out hne) hne) hne) hne) hne).set 0 _).set 1 _).set 2 _).set 3 _)
  have hcz : Chg (fun k => k = R ∨ k = w.heap.size + 1) w5 wz := by
    rw [← hwz]
    exact chg2 (chg2 (chg2 (chg2 (chg2 (chg2 (chg2 (chg2 (chg2 (Chg.refl _ w5) (.inl rfl)) (.inl rfl)) (.inl rfl)) (.inl rfl)) (.inl rfl)) (.inr rfl)) (.inr rfl)) (.inr rfl)) (.inr rfl)
  have hrow5 : w5.ownsRow 0 73 6 (.slice (some ⟨R, 0, none⟩) t.slots.length cap) t.slots.length (cellsOf t.slots) := by
    have hr := HT.out.row
    rw [HV.out] at hr
    have hr3 := row_chg hr (Chg.of_below (S := fun _ => False) HB3.out) (fun _ _ h => h)
    exact row_chg hr3 HCh.out (fun k hk e => hRM (by simp [Value.ownBlock] at hk; omega))
  have hrowz : wz.ownsRow 0 73 6 (.slice (some ⟨R, 0, none⟩) t.slots.length cap) t.slots.length (((((((cellsOf t.slots).set (i * 6 + 1) (.int .i64 0)).set (i * 6 + 2) (.int .i64 0)).set (i * 6 + 3) (.bool false)).set (i * 6 + 4) (.int .i64 0)).set (i * 6 + 5) (.int .i64 0))) := by
    rw [← hwz]
    have hne' : R ≠ w.heap.size + 1 := by omega
    exact row_far (row_far (row_far (row_far (row_set (row_set (row_set (row_set (row_set hrow5))))) hne') hne') hne') hne'
  have hvo : v.ownBlock = some R := by rw [HV.out]; rfl
  have hsz5 := HCh.out.size
  have hszb := HB3.out.size
  refine bodyPost_ret (results_ct rfl _ _ (w.heap.size + 1) 32 _ (0, 0) _ rfl HZ.out Try.underlying32 rfl (by kernel_rfl)) rfl ?_
  refine ⟨rfl, TabV.of (f := upd (timesOf t.slots) s.op.time none) (n := liveN t.slots - 1) (m := liveN t.slots) (xs := ((((((cellsOf t.slots).set (i * 6 + 1) (.int .i64 0)).set (i * 6 + 2) (.int .i64 0)).set (i * 6 + 3) (.bool false)).set (i * 6 + 4) (.int .i64 0)).set (i * 6 + 5) (.int .i64 0))) ?_ ?_ ?_ ?_ (by show _ = liveN (t.slots.set i _); have := HL.out; omega) HF.out HG.out, ?_⟩
  · have h1 := (HT.out.head.below HB3.out).keep HCh.out hBM
    rw [HV.out] at h1 ⊢
    exact h1.keep hcz (by omega)
  · show wz.ownsRow 0 73 6 v (t.slots.set i _).length _
    rw [List.length_set, HV.out]
    exact hrowz
  · show _ = cellsOf (t.slots.set i ⟨s.last, 0, op0⟩)
    rw [cellsOf_set _ HS.out]
    have hlast : (cellsOf t.slots)[i * 6]? = some (.int .i64 s.last) := cellsOf_at _ i s 0 _ HS.out rfl
    refine (set_same ?_).symm
    rw [List.getElem?_set_ne (by omega), List.getElem?_set_ne (by omega), List.getElem?_set_ne (by omega), List.getElem?_set_ne (by omega), List.getElem?_set_ne (by omega)]
    exact hlast
  · have h1 := HM5.out
    rw [HTs.out] at h1
    exact h1.keep (hcz.block M (by omega) (by omega))
  · have c1 : Chg (fun k => k = M ∨ v.ownBlock = some k) w w5 := (Chg.of_below (S := fun k => k = M ∨ v.ownBlock = some k) HB3.out).trans HCh.out (fun k _ hk => Or.inl hk)
    refine c1.trans hcz (fun k hk h => ?_)
    rcases h with h | h
    · right; rw [hvo, h]
    · omega
end
end Go.Proofs.Ytccfjjaljckinaa.Tag
