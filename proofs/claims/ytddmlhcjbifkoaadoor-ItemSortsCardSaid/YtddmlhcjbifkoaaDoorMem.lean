/- Words on memory for walks over abstract worlds: a block known whole (Blk), what a call may have changed (Chg). No conditions. -/
import Derived.WalkKit
import Derived.Below
import Derived.OneCell
import Derived.Deep.Draws
import Derived.Laws.IdiomCopy
namespace Go.Proofs.YtddmlhcjbifkoaaDoor.Mem
open Go.RowKit

/-- Block g holds just these cells, none of them frozen. -/
def Blk (w : World) (g : Nat) (cs : Array Value) (t : TypeId) : Prop := w.heap[g]? = some (.cells cs t (0, 0))

/-- w' is w but for the blocks of S (and new ones). -/
structure Chg (S : Nat → Prop) (w w' : World) : Prop where
  os : w'.os = w.os
  tape : w'.tape = w.tape
  output : w'.output = w.output
  size : w.heap.size ≤ w'.heap.size
  block : ∀ k, k < w.heap.size → ¬ S k → w'.heap[k]? = w.heap[k]?

/-- w' is X, but for what was drawn. -/
structure Same (w' X : World) : Prop where
  heap : w'.heap = X.heap
  os : w'.os = X.os
  tape : w'.tape = X.tape
  output : w'.output = X.output

section
variable {S S' : Nat → Prop} {w w1 w2 : World} {g j : Nat} {cs : Array Value} {t : TypeId} {v : Value}

theorem Blk.lt (h : Blk w g cs t) : g < w.heap.size := lt_of_block h
theorem Blk.cell (h : Blk w g cs t) (hj : cs[j]? = some v) : w.cell? ⟨g, j, none⟩ = some v := by
  unfold Blk at h
  simp [World.cell?, h, hj]
theorem Blk.free (h : Blk w g cs t) (j : Nat) : w.frozen? ⟨g, j, none⟩ = false := by
  unfold Blk at h
  simp [World.frozen?, h]
theorem Blk.set (h : Blk w g cs t) (j : Nat) (u : Value) : Blk (w.setCell ⟨g, j, none⟩ u) g (cs.setIfInBounds j u) t := by
  unfold Blk at h ⊢
  simp [World.setCell, Array.getElem?_modify, h]
theorem Blk.far (h : Blk w g cs t) {p : Addr} (hp : g ≠ p.block) (u : Value) : Blk (w.setCell p u) g cs t := (Below.heap_setCell w p u g hp).trans h
theorem Blk.drewN (h : Blk w g cs t) (n : Nat) : Blk (w.drewN n) g cs t := h
theorem Blk.drew (h : Blk w g cs t) : Blk w.drew g cs t := h
theorem Blk.alloc (h : Blk w g cs t) (o : Obj) : Blk (w.alloc o) g cs t := by
  have hl := h.lt
  unfold Blk at h ⊢
  simp only [World.alloc, Array.getElem?_push]
  rw [if_neg (by omega)]; exact h
theorem Blk.new (w : World) (cs : Array Value) (t : TypeId) : Blk (w.alloc (.cells cs t)) w.heap.size cs t := by
  unfold Blk
  simp only [World.alloc, Array.getElem?_push, if_true]
theorem Blk.at_ {n : Nat} (hn : n = w.heap.size) (cs : Array Value) (t : TypeId) : Blk (w.alloc (.cells cs t)) n cs t := by subst hn; exact Blk.new w cs t
theorem Blk.keep (h : Blk w g cs t) (hc : Chg S w w1) (hs : ¬ S g) : Blk w1 g cs t := (hc.block g h.lt hs).trans h
theorem Blk.below (h : Blk w g cs t) (hc : Below w.heap.size w w1) : Blk w1 g cs t := (hc.block g h.lt).trans h

theorem Chg.refl (S : Nat → Prop) (w : World) : Chg S w w := ⟨rfl, rfl, rfl, Nat.le_refl _, fun _ _ _ => rfl⟩
theorem Chg.trans (h : Chg S w w1) (h' : Chg S' w1 w2) (hs : ∀ k, k < w.heap.size → S' k → S k) : Chg S w w2 :=
  ⟨h'.os.trans h.os, h'.tape.trans h.tape, h'.output.trans h.output, Nat.le_trans h.size h'.size, fun k hk hn =>
    (h'.block k (Nat.lt_of_lt_of_le hk h.size) (fun hk' => hn (hs k hk hk'))).trans (h.block k hk hn)⟩
theorem Chg.mono (h : Chg S w w1) (hs : ∀ k, k < w.heap.size → S k → S' k) : Chg S' w w1 := (Chg.refl S' w).trans h hs
theorem Chg.drewN (h : Chg S w w1) (n : Nat) : Chg S w (w1.drewN n) := ⟨h.os, h.tape, h.output, h.size, h.block⟩
theorem Chg.drew (h : Chg S w w1) : Chg S w w1.drew := ⟨h.os, h.tape, h.output, h.size, h.block⟩
theorem Chg.set (h : Chg S w w1) {p : Addr} (hp : p.block < w.heap.size → S p.block) (u : Value) : Chg S w (w1.setCell p u) := by
  refine ⟨h.os, h.tape, h.output, ?_, fun k hk hn => ?_⟩
  · simpa [World.setCell] using h.size
  · have hne : k ≠ p.block := by rintro rfl; exact hn (hp hk)
    exact (Below.heap_setCell w1 p u k hne).trans (h.block k hk hn)
theorem Chg.alloc (h : Chg S w w1) (o : Obj) : Chg S w (w1.alloc o) := by
  refine ⟨h.os, h.tape, h.output, ?_, fun k hk hn => ?_⟩
  · have := h.size; simp only [World.alloc, Array.size_push]; omega
  · have := h.size
    rw [← h.block k hk hn]
    simp only [World.alloc, Array.getElem?_push]
    rw [if_neg (by omega)]
theorem Chg.below (h : Chg S w w1) {B : Nat} (hs : ∀ k, k < B → k < w.heap.size → ¬ S k) (hB : B ≤ w.heap.size) : Below B w w1 :=
  ⟨h.os, h.tape, h.output, h.size, fun k hk => h.block k (by omega) (hs k hk (by omega))⟩
theorem Chg.of_below (h : Below w.heap.size w w1) : Chg S w w1 := ⟨h.os, h.tape, h.output, h.size, fun k hk _ => h.block k hk⟩
theorem Chg.cell (h : Chg S w w1) {p : Addr} (hp : p.block < w.heap.size) (hs : ¬ S p.block) : w1.cell? p = w.cell? p := by
  have := h.block p.block hp hs
  simp [World.cell?, this]
theorem Chg.frozen (h : Chg S w w1) {p : Addr} (hp : p.block < w.heap.size) (hs : ¬ S p.block) : w1.frozen? p = w.frozen? p := by
  have := h.block p.block hp hs
  simp [World.frozen?, this]
theorem Blk.setCells (vs : List Value) : ∀ (o : Nat) {w : World} {cs : Array Value}, Blk w g cs t → ∃ cs', Blk (w.setCells g o vs) g cs' t ∧ cs'.size = cs.size := by
  induction vs with
  | nil => intro o w cs h; exact ⟨cs, h, rfl⟩
  | cons v vs ih =>
    intro o w cs h
    obtain ⟨cs', h1, h2⟩ := ih (o + 1) (h.set o v)
    exact ⟨cs', h1, by rw [h2]; simp⟩
theorem Blk.farCells (vs : List Value) {b : Nat} (hp : g ≠ b) : ∀ (o : Nat) {w : World}, Blk w g cs t → Blk (w.setCells b o vs) g cs t := by
  induction vs with
  | nil => intro o w h; exact h
  | cons v vs ih => intro o w h; exact ih (o + 1) (h.far (p := ⟨b, o, none⟩) hp v)
theorem Chg.setCells (vs : List Value) {b : Nat} (hb : b < w.heap.size → S b) : ∀ (o : Nat) {w1 : World}, Chg S w w1 → Chg S w (w1.setCells b o vs) := by
  induction vs with
  | nil => intro o w1 h; exact h
  | cons v vs ih => intro o w1 h; exact ih (o + 1) (h.set (p := ⟨b, o, none⟩) hb v)
theorem Chg.onto {N : Nat} (hb : Below N w w1) (h : Chg S w1 w2) (hN : N ≤ w.heap.size) (hs : ∀ k, k < N → ¬ S k) : Below N w w2 :=
  hb.trans (h.below (fun k hk _ => hs k hk) (Nat.le_trans hN hb.size))
theorem Same.blk {X : World} (h : Same w1 X) (hb : Blk X g cs t) : Blk w1 g cs t := by
  unfold Blk at *
  rw [h.heap]; exact hb
theorem Same.chg {X : World} (h : Same w1 X) (hc : Chg S w X) : Chg S w w1 :=
  ⟨h.os.trans hc.os, h.tape.trans hc.tape, h.output.trans hc.output, by rw [h.heap]; exact hc.size, fun k hk hn => by rw [h.heap]; exact hc.block k hk hn⟩
end

end Go.Proofs.YtddmlhcjbifkoaaDoor.Mem
