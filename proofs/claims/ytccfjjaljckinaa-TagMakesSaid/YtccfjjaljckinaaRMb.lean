/- Tables and their document, part Mb of this seat's texts: plain facts and walks. No conditions. -/
import Derived.Test.YtccfjjaljckinaaRMa
import Derived.Test.YtccfjjaljckinaaRShelfT
import Derived.Maps.AppendAt
import Derived.OwnWalk
import Derived.Laws.OwnMore
import Derived.RangeFuncBox
import Derived.Deep.RegionWith
/- Looking for a slot by a predicate. -/
namespace Go.Proofs.Ytccfjjaljckinaa.Tag
open Go.RowKit Go.Lib Go.Shelf Go.Proofs.Ytccfjjaljckinaa.Mem Go.Proofs.Ytccfjjaljckinaa.IMap Go.Proofs.YtccfjjaljckinaaW.PrintWords

def aggSlot (s : Slot) : Value := .agg (encSlot s).toArray
def pFree (s : Slot) : Bool := decide (s.gen = 0) && decide (s.last < 4294967295)
def pKnown (id : Int) (s : Slot) : Bool := decide (0 < s.gen) && decide (s.op.id = id)

set_option maxRecDepth 100000 in
set_option maxHeartbeats 1000000 in
theorem closure46 (s : Slot) (w : World) : Calls Try.prog 46 #[aggSlot s] w fun e w' => e = .returned (.bool (pFree s)) ∧ Below w.heap.size w w' := by
  have hu73 := Try.underlying73
  unfold aggSlot encSlot pFree
  by_cases a1 : s.gen = 0
  · have t1 : (s.gen == 0) = true := beq_iff_eq.2 a1
    rw [decide_eq_true a1, Bool.true_and]
    clear a1
    go_enter Try.func46, Try.ntmps46
    go_wp2
    go_ret
    exact ⟨rfl, (Below.refl _ _).alloc (Nat.le_refl _) _⟩
  · have t1 : (s.gen == 0) = false := beq_eq_false_iff_ne.2 a1
    rw [decide_eq_false a1, Bool.false_and]
    clear a1
    go_enter Try.func46, Try.ntmps46
    go_wp2
    go_ret
    exact ⟨rfl, (Below.refl _ _).alloc (Nat.le_refl _) _⟩

set_option maxRecDepth 100000 in
set_option maxHeartbeats 1000000 in
theorem closure48 (s : Slot) (id : Int) (b : Nat) (w : World) (hb : w.cell? ⟨b, 0, none⟩ = some (.int .i64 id)) (hlt : b < w.heap.size) :
    Calls Try.prog 48 #[aggSlot s, .pointer (some ⟨b, 0, none⟩)] w fun e w' => e = .returned (.bool (pKnown id s)) ∧ Below w.heap.size w w' := by
  have hu73 := Try.underlying73
  have hu32 := Try.underlying32
  unfold aggSlot encSlot pKnown
  by_cases a1 : 0 < s.gen
  · have t1 : decide (0 < s.gen) = true := decide_eq_true a1
    rw [t1, Bool.true_and]
    by_cases a2 : s.op.id = id
    · have t2 : (s.op.id == id) = true := beq_iff_eq.2 a2
      rw [decide_eq_true a2]
      clear a2
      go_enter Try.func48, Try.ntmps48
      go_wp2
      go_ret
      exact ⟨rfl, (Below.refl _ _).alloc (Nat.le_refl _) _⟩
    · have t2 : (s.op.id == id) = false := beq_eq_false_iff_ne.2 a2
      rw [decide_eq_false a2]
      clear a2
      go_enter Try.func48, Try.ntmps48
      go_wp2
      go_ret
      exact ⟨rfl, (Below.refl _ _).alloc (Nat.le_refl _) _⟩
  · have t1 : decide (0 < s.gen) = false := decide_eq_false a1
    rw [t1, Bool.false_and]
    clear a1
    go_enter Try.func48, Try.ntmps48
    go_wp2
    go_ret
    exact ⟨rfl, (Below.refl _ _).alloc (Nat.le_refl _) _⟩

theorem idx_is (p : Slot → Bool) (l : List Slot) : Lib.idxBy (fun _ y => p y) l default = match l.findIdx? p with | some i => (i : Int) | none => -1 := by
  cases hf : l.findIdx? p with
  | some i =>
    obtain ⟨hi, hp, hn⟩ := List.findIdx?_eq_some_iff_getElem.1 hf
    have := Lib.idxBy_hit (fun _ y => p y) l l.length i default hi (Nat.le_refl _) (by simpa [hi] using hp) (fun j hj => by have := hn j hj; simpa [show j < l.length by omega] using this)
    rwa [List.take_length] at this
  | none =>
    have := Lib.idxBy_miss (fun _ y => p y) l l.length default (fun j hj => by
      have := List.findIdx?_eq_none_iff.1 hf l[j] (List.getElem_mem hj)
      simpa [hj] using this)
    rwa [List.take_length] at this

section
variable {w : World} {B M : Nat} {v : Value} {t : Tab}
theorem TabV.row0 (h : TabV w B M v t) (h0 : t.slots = []) : ∃ A cap, v = .slice A 0 cap := by
  rcases h.row.2 with ⟨rfl, _⟩ | ⟨R, cap, cur, rfl, _⟩
  · exact ⟨none, 0, rfl⟩
  · rw [h0]; exact ⟨_, _, rfl⟩

set_option maxRecDepth 100000 in
set_option maxHeartbeats 1000000 in
theorem idx_empty (A : Option Addr) (cap : Nat) (f : Value) (w : World) : Calls Try.prog 45 #[.slice A 0 cap, f] w fun e w' => e = .returned (.int .i64 (-1)) ∧ w' = w := by
  go_enter Try.func45, Try.ntmps45
  go_wp2
  refine wp_loop_rounds 1 ?_
  rw [rounds_succ]
  go_wp2
  go_ret
  exact ⟨rfl, rfl⟩

theorem idx45 (h : TabV w B M v t) : Calls Try.prog 45 #[v, .func (.func 46) #[] #[]] w fun e w' => e = .returned (.int .i64 (Lib.idxBy (fun _ y => pFree y) t.slots default)) ∧ Below w.heap.size w w' := by
  rcases Nat.eq_zero_or_pos t.slots.length with h0 | h0
  · obtain ⟨A, cap, rfl⟩ := h.row0 (List.length_eq_zero_iff.1 h0)
    refine (idx_empty A cap _ w).mono ?_
    rintro e w' ⟨rfl, rfl⟩
    rw [List.length_eq_zero_iff.1 h0]
    exact ⟨rfl, Below.refl _ _⟩
  · obtain ⟨R, cap, hv, hR, hle, hRB, hRM, hc, hfr⟩ := h.cells (List.getElem?_eq_getElem h0)
    have hfew := h.good.few
    have := AnyQ.slices_IndexFunc Try.lIdx 6 (fun w => by kernel_rfl) (fun w => by kernel_rfl) encSlot (fun _ => rfl) pFree 46 #[] (enters_of Try.func46 (by kernel_rfl) rfl) R 0 t.slots.length cap t.slots w
      (fun W x hb => (closure46 x W).mono (fun e w' ⟨he, hb'⟩ => ⟨he, btrans' hb hb'⟩)) (Nat.le_refl _) (by omega) hR (fun j hj i u hu => by
        rw [Nat.zero_add]
        obtain ⟨R', cap', hv', _, _, _, _, hc', _⟩ := h.cells (List.getElem?_eq_getElem hj)
        rw [hv] at hv'
        injection hv' with hv' _ _
        injection hv' with hv'
        injection hv' with hv' _ _
        subst hv'
        exact hc' i u (by simpa [hj] using hu))
    rw [List.take_length] at this
    rw [hv]
    exact this
end
end Go.Proofs.Ytccfjjaljckinaa.Tag
/- A slot that is free. -/
namespace Go.Proofs.Ytccfjjaljckinaa.Tag
open Go.RowKit Go.Lib Go.Shelf Go.Proofs.Ytccfjjaljckinaa.Mem Go.Proofs.Ytccfjjaljckinaa.IMap Go.Proofs.YtccfjjaljckinaaW.PrintWords

def slot0 : Slot := ⟨0, 0, op0⟩
theorem info73 : (Try.prog.info? 73).map (fun i => (i.zero, i.size, i.bytes)) = some (some (aggSlot slot0), 6, 48) := by kernel_rfl

section
variable {w : World} {B M : Nat} {v : Value} {t : Tab}
set_option maxRecDepth 100000 in
set_option maxHeartbeats 1000000 in
theorem free_old (h : TabV w B M v t) {i : Nat} (hf : t.slots.findIdx? pFree = some i) :
    Calls Try.prog 30 #[.pointer (some ⟨B, 0, none⟩)] w fun e w' => e = .returned (.int .i64 i) ∧ Below w.heap.size w w' := by
  have CI : Hid (Calls Try.prog 45 #[v, .func (.func 46) #[] #[]] w fun e w' => e = .returned (.int .i64 (i : Int)) ∧ Below w.heap.size w w') := Lib.hid (by
    have := idx45 h
    rw [idx_is, hf] at this
    exact this)
  have c2 := h.c2
  clear h hf
  go_enter Try.func30, Try.ntmps30
  go_wp2_with fail
  refine CI.out.mono ?_
  rintro e w2 ⟨rfl, hb⟩
  have HB := Lib.hid hb
  have hi0 : ¬ ((i : Int) < 0) := by omega
  clear hb CI
  go_wp2_with fail
  go_ret
  exact ⟨rfl, HB.out⟩

set_option maxRecDepth 100000 in
set_option maxHeartbeats 1000000 in
theorem free_new (h : TabV w B M v t) (hf : t.slots.findIdx? pFree = none) (hroom : t.slots.length + 1 ≤ 1000000) :
    Calls Try.prog 30 #[.pointer (some ⟨B, 0, none⟩)] w fun e w' => e = .returned (.int .i64 t.slots.length) ∧ ∃ v', TabV w' B M v' { t with slots := t.slots ++ [slot0] } ∧
      Chg (fun k => k = B ∨ v.ownBlock = some k) w w' ∧ (v'.ownBlock = v.ownBlock ∨ ∃ k, v'.ownBlock = some k ∧ w.heap.size ≤ k) := by
  have CI : Hid (Calls Try.prog 45 #[v, .func (.func 46) #[] #[]] w fun e w' => e = .returned (.int .i64 (-1)) ∧ Below w.heap.size w w') := Lib.hid (by
    have := idx45 h
    rw [idx_is, hf] at this
    exact this)
  have c2 := h.c2
  obtain ⟨i0, hi, hz0, hz1, hz2⟩ := info_parts info73
  have HT := Lib.hid h
  have hBv : v.ownBlock ≠ some B := by
    intro e
    obtain ⟨_, ⟨rfl, _⟩ | ⟨R, cap, cur, rfl, _, hb, _⟩⟩ := h.row
    · cases e
    · have : R = B := by simpa [Value.ownBlock] using e
      subst this
      have := h.head
      unfold Blk at this
      rw [hb] at this
      injection this with this
      injection this with _ this
      exact absurd this (by decide)
  have HBv := Lib.hid hBv
  have hBl := h.head.lt
  clear h hf hBv
  go_enter Try.func30, Try.ntmps30
  go_wp2_with fail
  refine CI.out.mono ?_
  rintro e w2 ⟨rfl, hb⟩
  have HT2 := Lib.hid (HT.out.fresh hb)
  have HB := Lib.hid hb
  have d2 := HT2.out.c2
  have hsz2 := hb.size
  have Hc1 : Hid (∀ j u, (encSlot slot0)[j]? = some u → (w2.alloc (Obj.cells #[.int .i64 0, .int .i64 0, .int .i64 0, .bool false, .int .i64 0, .int .i64 0] 73)).cell? ((⟨w2.heap.size, 0, none⟩ : Addr).add j) = some u) := Lib.hid (fun j u hu => by
    have hb := Blk.new w2 #[.int .i64 0, .int .i64 0, .int .i64 0, .bool false, .int .i64 0, .int .i64 0] 73
    have := hb.cell (j := j) (v := u) (by simpa [encSlot, slot0, op0] using hu)
    rw [show ((⟨w2.heap.size, 0, none⟩ : Addr).add j) = ⟨w2.heap.size, j, none⟩ by simp [Addr.add]; intro h; omega]
    exact this)
  have Hc2 : Hid (∀ u ∈ encSlot slot0, u.oneCell' = true) := Lib.hid (by simp [encSlot, slot0, op0, Value.oneCell'])
  have Hc3 : Hid (t.slots.length + 1 ≤ maxLen) := Lib.hid (by unfold maxLen; omega)
  have Hc4 : Hid ((t.slots.length + 1) * 48 ≤ 140737488355328) := Lib.hid (by omega)
  have HRoom := Lib.hid hroom
  clear hb CI c2 hroom
  go_wp2_with (first
    | (at_builtin
       refine wpList_append_own_at _ rfl _ _ 68 rfl 0 73 i0 _ 6 48 Try.underlying68 hi hz0 hz1 hz2 rfl (by decide) v t.slots.length (cellsOf t.slots) rfl (HT2.out.row.alloc _) ⟨w2.heap.size, 0, none⟩ 1 1 (encSlot slot0) rfl rfl Hc1.out Hc2.out Hc3.out Hc4.out (Nat.zero_le _) ?_
       intro v' w3 hown hgrow hnil hloc
       obtain ⟨g', cap', rfl⟩ := ownsRow_succ hown
       have hch : Chg (fun k => v.ownBlock = some k) w2 w3 := (Chg.alloc (Chg.refl _ w2) _).trans ⟨hgrow.os, hgrow.tape, hgrow.output, hgrow.size, fun k hk hne => hgrow.block k hk (fun e => hne e.symm)⟩ (fun _ _ h => h)
       have hB2 : B < w2.heap.size := Nat.lt_of_lt_of_le hBl hsz2
       have e2 : w3.cell? ⟨B, 2, none⟩ = some v := (hch.cell (p := ⟨B, 2, none⟩) hB2 HBv.out).trans d2
       have f2 : w3.frozen? ⟨B, 2, none⟩ = false := (hch.frozen (p := ⟨B, 2, none⟩) hB2 HBv.out).trans (HT2.out.head.free 2)
       have HOwn := Lib.hid hown
       have HCh := Lib.hid hch
       have HLoc := Lib.hid hloc
       clear hown hgrow hnil hloc hch))
  refine gwB (fun wz hwz => ?_)
  have hg'B : g' ≠ B := by
    rcases HLoc.out with e | e
    · intro h; exact HBv.out (by rw [← e, h]; rfl)
    · have e' : some g' = some (w2.heap.size + 1) := e.trans (by simp)
      injection e' with e'
      have := HT2.out.head.lt
      omega
  have HZ : Hid (Blk wz B #[.int .i64 t.cap, .int .i64 t.serial, .slice (some ⟨g', 0, none⟩) (t.slots.length + 1) cap', .map (some M)] 70) := Lib.hid (by
    rw [← hwz]; exact (HT2.out.head.keep HCh.out HBv.out).set 2 _)
  have HR : Hid (wz.ownsRow 0 73 6 (.slice (some ⟨g', 0, none⟩) (t.slots.length + 1) cap') (t.slots.length + 1) (cellsOf t.slots ++ encSlot slot0)) := Lib.hid (by
    rw [← hwz]; exact row_far HOwn.out hg'B)
  have HC2 : Hid (Chg (fun k => k = B ∨ v.ownBlock = some k) w2 wz) := Lib.hid (by
    rw [← hwz]; exact (HCh.out.mono (S' := fun k => k = B ∨ v.ownBlock = some k) (fun k _ h => Or.inr h)).set (p := ⟨B, 2, none⟩) (fun _ => Or.inl rfl) _)
  clear hwz e2 f2 d2
  go_ret
  have hMv : v.ownBlock ≠ some M := by
    intro e
    obtain ⟨_, ⟨rfl, _⟩ | ⟨R, cap, cur, rfl, _, hb, _⟩⟩ := HT.out.row
    · cases e
    · have : R = M := by simpa [Value.ownBlock] using e
      subst this
      obtain ⟨es, clock, hm⟩ := HT.out.map.block
      rw [hb] at hm
      cases hm
  have hl : liveN (t.slots ++ [slot0]) = liveN t.slots := by unfold liveN; simp [slot0]
  have hf : ∀ x, timesOf t.slots x = timesOf (t.slots ++ [slot0]) x := by
    intro x
    unfold timesOf
    rw [List.findIdx?_append]
    cases t.slots.findIdx? (fun s => decide (0 < s.gen) && decide (s.op.time = x)) with
    | some i => rfl
    | none => simp [slot0]
  have hG : Good { t with slots := t.slots ++ [slot0] } := by
    have h := HT.out.good
    refine ⟨h.cap0, h.cap1, h.serial, fun s hs => ?_, fun a b x y ha hb hx hy he => ?_, by show (t.slots ++ [slot0]).length ≤ 1000000; simp; have := HRoom.out; omega⟩
    · rcases List.mem_append.1 hs with hs | hs
      · exact h.slots s hs
      · rw [List.mem_singleton] at hs
        subst hs
        exact ⟨by decide, by decide, by decide, by decide, by unfold In64 slot0 op0; simp, by unfold In64 slot0 op0; simp, by unfold In64 slot0 op0; simp⟩
    · have low : ∀ (a : Nat) (x : Slot), (t.slots ++ [slot0])[a]? = some x → 0 < x.gen → t.slots[a]? = some x := by
        intro a x ha hx
        rw [List.getElem?_append] at ha
        split at ha
        · exact ha
        · have := List.mem_of_getElem? ha
          rw [List.mem_singleton] at this
          subst this
          exact absurd hx (by decide)
      exact h.times a b x y (low a x ha hx) (low b y hb hy) hx hy he
  refine ⟨by have h1 := HRoom.out; have h2 : wrap64 (t.slots.length : Int) = t.slots.length := by unfold wrap64; omega
             simp [h2], .slice (some ⟨g', 0, none⟩) (t.slots.length + 1) cap', TabV.of (f := timesOf t.slots) (n := liveN t.slots) (m := liveN t.slots) (xs := cellsOf t.slots ++ encSlot slot0) HZ.out ?_ ?_ ?_ hl.symm hf hG, ?_, ?_⟩
  · show wz.ownsRow 0 73 6 _ (t.slots ++ [slot0]).length _
    rw [List.length_append]
    exact HR.out
  · show _ = cellsOf (t.slots ++ [slot0])
    unfold cellsOf
    rw [List.flatMap_append]
    rfl
  · exact HT2.out.map.keep (HC2.out.block M HT2.out.map.lt (by rintro (h | h); exact HT2.out.BM h.symm; exact hMv h))
  · exact (Chg.of_below HB.out).trans HC2.out (fun _ _ h => h)
  · rcases HLoc.out with e | e
    · exact Or.inl e
    · exact Or.inr ⟨w2.heap.size + 1, e.trans (by simp), by omega⟩
end
end Go.Proofs.Ytccfjjaljckinaa.Tag
/- Issuing an operation. -/
namespace Go.Proofs.Ytccfjjaljckinaa.Tag
open Go.RowKit Go.Lib Go.Shelf Go.Proofs.Ytccfjjaljckinaa.Mem Go.Proofs.Ytccfjjaljckinaa.IMap Go.Proofs.YtccfjjaljckinaaW.PrintWords

def freeI (t : Tab) : Nat := match t.slots.findIdx? pFree with | some i => i | none => t.slots.length
def freeT (t : Tab) : Tab := match t.slots.findIdx? pFree with | some _ => t | none => { t with slots := t.slots ++ [slot0] }
def lastI (t : Tab) : Int := ((freeT t).slots[freeI t]?.map Slot.last).getD 0
theorem freeT_cap (t : Tab) : (freeT t).cap = t.cap ∧ (freeT t).serial = t.serial := by unfold freeT; split <;> exact ⟨rfl, rfl⟩
theorem free_slot (t : Tab) : ∃ s, (freeT t).slots[freeI t]? = some s ∧ s.gen = 0 ∧ s.last < 4294967295 ∧ s.last = lastI t := by
  unfold lastI freeT freeI
  cases hf : t.slots.findIdx? pFree with
  | some i =>
    obtain ⟨hi, hp, _⟩ := List.findIdx?_eq_some_iff_getElem.1 hf
    unfold pFree at hp
    simp only [Bool.and_eq_true, decide_eq_true_eq] at hp
    refine ⟨t.slots[i], List.getElem?_eq_getElem hi, hp.1, hp.2, ?_⟩
    simp only
    rw [List.getElem?_eq_getElem hi]; rfl
  | none =>
    refine ⟨slot0, by simp, rfl, by decide, ?_⟩
    simp only
    rw [List.getElem?_append_right (Nat.le_refl _)]; simp
theorem free_times (t : Tab) (x : Int) : timesOf (freeT t).slots x = timesOf t.slots x := by
  unfold freeT
  split
  · rfl
  · unfold timesOf
    simp only
    rw [List.findIdx?_append]
    cases t.slots.findIdx? (fun s => decide (0 < s.gen) && decide (s.op.time = x)) with
    | some i => rfl
    | none => simp [slot0]

section
variable {w : World} {B M : Nat} {v : Value} {t : Tab}
theorem free_any (h : TabV w B M v t) (hroom : t.slots.length + 1 ≤ 1000000) :
    Calls Try.prog 30 #[.pointer (some ⟨B, 0, none⟩)] w fun e w' => e = .returned (.int .i64 (freeI t)) ∧ ∃ v', TabV w' B M v' (freeT t) ∧
      Chg (fun k => k = B ∨ v.ownBlock = some k) w w' ∧ (v'.ownBlock = v.ownBlock ∨ ∃ k, v'.ownBlock = some k ∧ w.heap.size ≤ k) := by
  unfold freeI freeT
  cases hf : t.slots.findIdx? pFree with
  | some i =>
    refine (free_old h hf).mono ?_
    rintro e w' ⟨rfl, hb⟩
    exact ⟨rfl, v, h.fresh hb, Chg.of_below hb, Or.inl rfl⟩
  | none => exact free_new h hf hroom

/-- What issuing gives, and what it leaves. -/
def issueOp (t : Tab) (x : Int) (ins : Bool) (key : Int) : TOp := ⟨x, ins, if ins then key else 0, t.serial⟩
def issueT (t : Tab) (x : Int) (ins : Bool) (key : Int) : Tab :=
  { freeT t with slots := (freeT t).slots.set (freeI t) ⟨lastI t + 1, lastI t + 1, issueOp t x ins key⟩, serial := t.serial + 1 }
def aggListed (i g : Int) (o : TOp) : Value := .agg #[.int .i64 i, .int .i64 g, .int .i64 o.time, .bool o.ins, .int .i64 o.key, .int .i64 o.id]

set_option maxRecDepth 100000 in
set_option maxHeartbeats 2000000 in
theorem issue_err (h : TabV w B M v t) {x : Int} {ins : Bool} {key : Int} (hx : In64 x) (he : mayE t x ≠ 0) :
    Calls Try.prog 11 #[.pointer (some ⟨B, 0, none⟩), .int .i64 x, .bool ins, .int .i64 key] w fun e w' => e = .returned (.tuple #[aggListed 0 0 op0, .int .i64 (mayE t x)]) ∧ Below w.heap.size w w' := by
  have CM : Hid (∀ w1, Below w.heap.size w w1 → Calls Try.prog 29 #[.pointer (some ⟨B, 0, none⟩), .int .i64 x] w1 fun e w' => e = .returned (.int .i64 (mayE t x)) ∧ ∃ n, w' = w1.drewN n) := Lib.hid (fun w1 hb => may (h.fresh hb) hx)
  generalize mayE t x = E at *
  have t1 : (E == 0) = false := beq_eq_false_iff_ne.2 he
  have t2 : (E != 0) = true := by rw [bne, t1]; rfl
  have hu34 := Try.underlying34
  unfold aggListed op0
  clear h hx he
  go_enter Try.func11, Try.ntmps11
  go_wp2_with fail
  refine gw (fun wa hwa => ?_)
  have HB1 : Hid (Below w.heap.size w wa) := Lib.hid (by rw [← hwa]; exact (Below.refl _ _).alloc (Nat.le_refl _) _)
  have HX1 : Hid (Blk wa w.heap.size #[.int .i64 0, .int .i64 0, .int .i64 0, .bool false, .int .i64 0, .int .i64 0] 34) := Lib.hid (by rw [← hwa]; exact Blk.new _ _ _)
  clear hwa
  refine (CM.out _ HB1.out).mono ?_
  rintro e w2 ⟨rfl, n, rfl⟩
  have HX2 : Hid (Blk (wa.drewN n) w.heap.size #[.int .i64 0, .int .i64 0, .int .i64 0, .bool false, .int .i64 0, .int .i64 0] 34) := Lib.hid (HX1.out.drewN n)
  have HB2 : Hid (Below w.heap.size w (wa.drewN n)) := Lib.hid (bdn HB1.out n)
  generalize wa.drewN n = w2 at *
  have x0 := HX2.out.cell (j := 0) rfl
  have x1 := HX2.out.cell (j := 1) rfl
  have x2 := HX2.out.cell (j := 2) rfl
  have x3 := HX2.out.cell (j := 3) rfl
  have x4 := HX2.out.cell (j := 4) rfl
  have x5 := HX2.out.cell (j := 5) rfl
  have f0 := HX2.out.free 0
  have f1 := HX2.out.free 1
  have f2 := HX2.out.free 2
  have f3 := HX2.out.free 3
  have f4 := HX2.out.free 4
  have f5 := HX2.out.free 5
  clear HB1 HX1 CM
  go_wp2_with fail
  refine bodyPost_ret (results_ct rfl _ _ w.heap.size 34 _ (0, 0) _ rfl ((((((HX2.out.set 0 (.int .i64 0)).set 1 (.int .i64 0)).set 2 (.int .i64 0)).set 3 (.bool false)).set 4 (.int .i64 0)).set 5 (.int .i64 0)) Try.underlying34 rfl (by kernel_rfl)) rfl ?_
  exact ⟨rfl, (((((HB2.out.setCell (by simp) _).setCell (by simp) _).setCell (by simp) _).setCell (by simp) _).setCell (by simp) _).setCell (by simp) _⟩
end
end Go.Proofs.Ytccfjjaljckinaa.Tag
/- Issuing an operation, where it goes well. -/
namespace Go.Proofs.Ytccfjjaljckinaa.Tag
open Go.RowKit Go.Lib Go.Shelf Go.Proofs.Ytccfjjaljckinaa.Mem Go.Proofs.Ytccfjjaljckinaa.IMap Go.Proofs.YtccfjjaljckinaaW.PrintWords

section
variable {w : World} {B M : Nat} {v : Value} {t : Tab}
set_option maxRecDepth 100000 in
set_option maxHeartbeats 4000000 in
theorem issue_true (h : TabV w B M v t) {x : Int} {key : Int} (hx : In64 x) (hk : In64 key) (he : mayE t x = 0) (hroom : t.slots.length + 1 ≤ 1000000) (hser : t.serial < 9223372036854775807) :
    Calls Try.prog 11 #[.pointer (some ⟨B, 0, none⟩), .int .i64 x, .bool true, .int .i64 key] w fun e w' => e = .returned (.tuple #[aggListed (freeI t) (lastI t + 1) (issueOp t x true key), .int .i64 0]) ∧ ∃ v', TabV w' B M v' (issueT t x true key) ∧
      Chg (fun k => k = B ∨ k = M ∨ v.ownBlock = some k) w w' ∧ (v'.ownBlock = v.ownBlock ∨ ∃ k, v'.ownBlock = some k ∧ w.heap.size ≤ k) := by
  have hms := he
  have hcap : (liveN t.slots : Int) ≠ t.cap := by intro e; unfold mayE at he; rw [if_pos e] at he; cases he
  have hnt : timesOf t.slots x = none := by
    unfold mayE at he
    rw [if_neg hcap] at he
    cases hf : timesOf t.slots x with
    | none => rfl
    | some y => rw [hf] at he; simp at he
  obtain ⟨s, hs, hsg, hsl, hla⟩ := free_slot t
  have CM : Hid (∀ w1, Below w.heap.size w w1 → Calls Try.prog 29 #[.pointer (some ⟨B, 0, none⟩), .int .i64 x] w1 fun e w' => e = .returned (.int .i64 0) ∧ ∃ n, w' = w1.drewN n) := Lib.hid (fun w1 hb => by have := may (h.fresh hb) hx; rw [he] at this; exact this)
  have hu34 := Try.underlying34
  have hu32 := Try.underlying32
  have hu30 := Try.underlying30
  have hu28 := Try.underlying28
  have HT := Lib.hid h
  have HS := Lib.hid hs
  have HNT := Lib.hid hnt
  have HX := Lib.hid hx
  have HK := Lib.hid hk
  have HRoom := Lib.hid hroom
  have HSer := Lib.hid hser
  have HLa := Lib.hid hla
  have HSG := Lib.hid hsg
  have HSL := Lib.hid hsl
  have hBl := h.head.lt
  have hMl := h.map.lt
  have HVl : Hid (∀ k, v.ownBlock = some k → k < w.heap.size) := Lib.hid (fun k hk => h.ltV hk)
  have hs1 : -9223372036854775808 ≤ t.serial := h.good.serial.1
  have hs2 := hser
  clear h hx he hms hcap hnt hs hsg hsl hla hk hroom hser
  unfold aggListed
  go_enter Try.func11, Try.ntmps11
  go_wp2_with fail
  refine gw (fun wa hwa => ?_)
  have HB1 : Hid (Below w.heap.size w wa) := Lib.hid (by rw [← hwa]; exact (Below.refl _ _).alloc (Nat.le_refl _) _)
  have HX1 : Hid (Blk wa w.heap.size #[.int .i64 0, .int .i64 0, .int .i64 0, .bool false, .int .i64 0, .int .i64 0] 34) := Lib.hid (by rw [← hwa]; exact Blk.new _ _ _)
  clear hwa
  refine (CM.out _ HB1.out).mono ?_
  rintro e w2 ⟨rfl, n, rfl⟩
  have HX2 : Hid (Blk (wa.drewN n) w.heap.size #[.int .i64 0, .int .i64 0, .int .i64 0, .bool false, .int .i64 0, .int .i64 0] 34) := Lib.hid (HX1.out.drewN n)
  have HB2 : Hid (Below w.heap.size w (wa.drewN n)) := Lib.hid (bdn HB1.out n)
  generalize wa.drewN n = w2 at *
  have c1 : w2.cell? ⟨B, 1, none⟩ = some (.int .i64 t.serial) := bcell HB2.out HT.out.c1 hBl
  have hsz2 : w.heap.size < w2.heap.size := HX2.out.lt
  clear HB1 HX1 CM
  go_wp2_with fail
  refine gw (fun wb hwb => ?_)
  have HBb : Hid (Below w.heap.size w wb) := Lib.hid (by rw [← hwb]; first | exact HB2.out.alloc HB2.out.size _ | exact (HB2.out.alloc HB2.out.size _).setCell HB2.out.size _)
  have HXb : Hid (Blk wb w.heap.size #[.int .i64 0, .int .i64 0, .int .i64 0, .bool false, .int .i64 0, .int .i64 0] 34) := Lib.hid (by rw [← hwb]; first | exact HX2.out.alloc _ | exact (HX2.out.alloc _).far (by simp; omega) _)
  have HOb : Hid (Blk wb w2.heap.size #[.int .i64 x, .bool true, .int .i64 key, .int .i64 t.serial] 32) := Lib.hid (by rw [← hwb]; first | exact Blk.new _ _ _ | exact (Blk.new _ _ _).set 2 _)
  have hszb : w2.heap.size < wb.heap.size := HOb.out.lt
  have HTb := Lib.hid (HT.out.fresh HBb.out)
  clear hwb c1
  refine (free_any HTb.out HRoom.out).mono ?_
  rintro e w3 ⟨rfl, v', ht3, hc3, ho3⟩
  have HT3 := Lib.hid ht3
  have HC3 := Lib.hid hc3
  have HO3 := Lib.hid ho3
  have hnB : ∀ k, w.heap.size ≤ k → k < wb.heap.size → ¬ (k = B ∨ v.ownBlock = some k) := fun k h1 h2 h => by
    rcases h with h | h
    · omega
    · have := HVl.out k h; omega
  have HX3 : Hid (Blk w3 w.heap.size #[.int .i64 0, .int .i64 0, .int .i64 0, .bool false, .int .i64 0, .int .i64 0] 34) := Lib.hid (HXb.out.keep hc3 (hnB _ (Nat.le_refl _) (by omega)))
  have HP3 : Hid (Blk w3 w2.heap.size #[.int .i64 x, .bool true, .int .i64 key, .int .i64 t.serial] 32) := Lib.hid (HOb.out.keep hc3 (hnB _ (by omega) hszb))
  have hV' : ∀ k, v'.ownBlock = some k → k < w.heap.size ∨ wb.heap.size ≤ k := fun k hk => by
    rcases ho3 with e | ⟨j, e, hj⟩
    · exact Or.inl (HVl.out k (by rw [← e]; exact hk))
    · rw [e] at hk; injection hk with hk; omega
  have HV' := Lib.hid hV'
  obtain ⟨R, cap, hv3, hR, hle, hRB, hRM, hcc, hfr⟩ := ht3.cells HS.out
  have HV3 := Lib.hid hv3
  have d2 : w3.cell? ⟨B, 2, none⟩ = some (.slice (some ⟨R, 0, none⟩) (freeT t).slots.length cap) := by rw [← hv3]; exact ht3.c2
  have k0 : w3.cell? ⟨R, freeI t * 6, none⟩ = some (.int .i64 s.last) := hcc 0 _ rfl
  have hlt : freeI t < (freeT t).slots.length := (List.getElem?_eq_some_iff.1 HS.out).1
  have hfew := ht3.good.few
  have hl0 := (ht3.good.slots s (List.mem_of_getElem? HS.out)).last0
  have hl1 := HSL.out
  have hsz3 := hc3.size
  clear ht3 hc3 ho3 hnB hV' hv3 hle hcc hfr HXb HOb
  have HFI : Hid (∃ i, freeI t = i) := Lib.hid ⟨_, rfl⟩
  generalize hN : (freeT t).slots.length = N at *
  have HN := Lib.hid hN
  clear hN
  generalize hI : freeI t = i at *
  have HI := Lib.hid hI
  clear hI HFI
  have hi0 : (0 : Int) ≤ i := by omega
  have hiN : (i : Int) < N := by omega
  have e1 : (i : Int).toNat = i := by omega
  have o0 := HP3.out.cell (j := 0) rfl
  have o1 := HP3.out.cell (j := 1) rfl
  have o2 := HP3.out.cell (j := 2) rfl
  have o3 := HP3.out.cell (j := 3) rfl
  have hszP : w2.heap.size < w3.heap.size := HP3.out.lt
  go_wp2_with fail
  refine gw (fun wc hwc => ?_)
  have HBc : Hid (Below w3.heap.size w3 wc) := Lib.hid (by rw [← hwc]; exact (Below.refl _ _).alloc (Nat.le_refl _) _)
  have HRc : Hid (Blk wc w3.heap.size #[.int .i64 i, .int .i64 (s.last + 1)] 28) := Lib.hid (by rw [← hwc]; exact Blk.new _ _ _)
  have hszc : w3.heap.size < wc.heap.size := HRc.out.lt
  have HTc := Lib.hid (HT3.out.fresh HBc.out)
  clear hwc d2 k0 o0 o1 o2 o3
  have hlay := lay (g := s.last + 1) (o := ⟨x, true, key, t.serial⟩) HTc.out HS.out (by rw [HSG.out]; decide) (by omega) (by omega) ⟨HX.out, HK.out, hs1, by show t.serial ≤ _; omega⟩ ((free_times t x).trans HNT.out)
  rw [show (if s.last + 1 ≤ s.last then s.last else s.last + 1) = s.last + 1 from if_neg (by omega)] at hlay
  unfold aggOp at hlay
  try rw [HI.out] at hlay
  refine hlay.mono ?_
  rintro e w4 ⟨rfl, ht4, hc4⟩
  have HT4 := Lib.hid ht4
  have HC4 := Lib.hid hc4
  have hnK : ∀ k, w.heap.size ≤ k → k < wb.heap.size ∨ w3.heap.size ≤ k → ¬ (k = M ∨ v'.ownBlock = some k) := fun k h1 h2 h => by
    rcases h with h | h
    · omega
    · have h3 := HV'.out k h
      have h4 := HT3.out.ltV h
      omega
  have HX4 : Hid (Blk w4 w.heap.size #[.int .i64 0, .int .i64 0, .int .i64 0, .bool false, .int .i64 0, .int .i64 0] 34) := Lib.hid ((HX3.out.below HBc.out).keep hc4 (hnK _ (Nat.le_refl _) (by omega)))
  have HP4 : Hid (Blk w4 w2.heap.size #[.int .i64 x, .bool true, .int .i64 key, .int .i64 t.serial] 32) := Lib.hid ((HP3.out.below HBc.out).keep hc4 (hnK _ (by omega) (by omega)))
  have HR4 : Hid (Blk w4 w3.heap.size #[.int .i64 i, .int .i64 (s.last + 1)] 28) := Lib.hid (HRc.out.keep hc4 (hnK _ (by omega) (Or.inr (Nat.le_refl _))))
  have c1 : w4.cell? ⟨B, 1, none⟩ = some (.int .i64 t.serial) := by have := ht4.c1; simp only [(freeT_cap t).2] at this; exact this
  have q1 : w4.frozen? ⟨B, 1, none⟩ = false := ht4.head.free 1
  have x0 := HX4.out.cell (j := 0) rfl
  have x1 := HX4.out.cell (j := 1) rfl
  have x2 := HX4.out.cell (j := 2) rfl
  have x3 := HX4.out.cell (j := 3) rfl
  have x4 := HX4.out.cell (j := 4) rfl
  have x5 := HX4.out.cell (j := 5) rfl
  have f0 := HX4.out.free 0
  have f1 := HX4.out.free 1
  have f2 := HX4.out.free 2
  have f3 := HX4.out.free 3
  have f4 := HX4.out.free 4
  have f5 := HX4.out.free 5
  have p0 := HP4.out.cell (j := 0) rfl
  have p1 := HP4.out.cell (j := 1) rfl
  have p2 := HP4.out.cell (j := 2) rfl
  have p3 := HP4.out.cell (j := 3) rfl
  have r0 := HR4.out.cell (j := 0) rfl
  have r1 := HR4.out.cell (j := 1) rfl
  have hsz4 := hc4.size
  have hBX : B ≠ w.heap.size := by omega
  have hBP : B ≠ w2.heap.size := by omega
  have hBR : B ≠ w3.heap.size := by omega
  clear hlay ht4 hc4 hnK HX3 HP3 HRc
  go_wp2_with fail
  refine gwB (fun wz hwz => ?_)
  have HZ : Hid (Blk wz w.heap.size #[.int .i64 i, .int .i64 (s.last + 1), .int .i64 x, .bool true, .int .i64 key, .int .i64 t.serial] 34) := Lib.hid (by
    rw [← hwz]
    exact ((((((blk_far HX4.out (Ne.symm hBX)).set 0 _).set 1 _).set 2 _).set 3 _).set 4 _).set 5 _)
  have HCz : Hid (Chg (fun k => k = B ∨ k = w.heap.size) w4 wz) := Lib.hid (by
    rw [← hwz]
    exact chg2 (chg2 (chg2 (chg2 (chg2 (chg2 (chg2 (Chg.refl _ w4) (.inl rfl)) (.inr rfl)) (.inr rfl)) (.inr rfl)) (.inr rfl)) (.inr rfl)) (.inr rfl))
  have HHz : Hid (Blk wz B #[.int .i64 (freeT t).cap, .int .i64 (t.serial + 1), v', .map (some M)] 70) := Lib.hid (by
    rw [← hwz]
    exact blk_far (blk_far (blk_far (blk_far (blk_far (blk_far (HT4.out.head.set 1 _) hBX) hBX) hBX) hBX) hBX) hBX)
  clear hwz
  refine bodyPost_ret (results_ct rfl _ _ w.heap.size 34 _ (0, 0) _ rfl HZ.out Try.underlying34 rfl (by kernel_rfl)) rfl ?_
  have hLT : s.last = lastI t := HLa.out
  have hset : (issueT t x true key).slots = (freeT t).slots.set i ⟨s.last + 1, s.last + 1, ⟨x, true, key, t.serial⟩⟩ := by
    unfold issueT issueOp
    rw [HI.out, ← hLT]
    rfl
  have hgood : Good (issueT t x true key) := by
    have h4 := HT4.out.good
    refine ⟨h4.cap0, h4.cap1, ⟨by show _ ≤ t.serial + 1; omega, by show t.serial + 1 ≤ _; omega⟩, ?_, ?_, ?_⟩
    · rw [hset]; exact h4.slots
    · rw [hset]; exact h4.times
    · rw [hset]; exact h4.few
  have hvX : ∀ k, v'.ownBlock = some k → ¬ (k = B ∨ k = w.heap.size) := fun k hk h => by
    rcases h with h | h
    · have h5 := HV3.out
      rw [h5] at hk
      have : R = k := by simpa [Value.ownBlock] using hk
      omega
    · have := HV'.out k hk; omega
  refine ⟨?_, v', TabV.of (t' := issueT t x true key) (f := timesOf (issueT t x true key).slots) (n := liveN (issueT t x true key).slots) (m := liveN (issueT t x true key).slots) (xs := cellsOf (issueT t x true key).slots) HHz.out ?_ rfl ?_ rfl (fun _ => rfl) hgood, ?_, ?_⟩
  · rw [← hLT, HI.out]; rfl
  · have := row_chg HT4.out.row HCz.out hvX
    rw [hset]
    exact this
  · have := HT4.out.map.keep (HCz.out.block M (by omega) (by have := HT4.out.BM; omega))
    rw [hset]
    exact this
  · have a1 : Chg (fun k => k = B ∨ k = M ∨ v.ownBlock = some k) w w3 := (Chg.of_below (S := fun k => k = B ∨ k = M ∨ v.ownBlock = some k) HBb.out).trans HC3.out (fun k _ h => by rcases h with h | h; exact Or.inl h; exact Or.inr (Or.inr h))
    have a2 : Chg (fun k => k = B ∨ k = M ∨ v.ownBlock = some k) w wc := a1.trans (Chg.of_below (S := fun _ => False) HBc.out) (fun _ _ h => h.elim)
    have a3 : Chg (fun k => k = B ∨ k = M ∨ v.ownBlock = some k) w w4 := a2.trans HC4.out (fun k hk h => by
      rcases h with h | h
      · exact Or.inr (Or.inl h)
      · rcases HO3.out with e | ⟨j, e, hj⟩
        · exact Or.inr (Or.inr (by rw [← e]; exact h))
        · rw [e] at h; injection h with h; omega)
    exact a3.trans HCz.out (fun k hk h => by
      rcases h with h | h
      · exact Or.inl h
      · omega)
  · rcases HO3.out with e | ⟨j, e, hj⟩
    · exact Or.inl e
    · exact Or.inr ⟨j, e, by omega⟩

set_option maxRecDepth 100000 in
set_option maxHeartbeats 4000000 in
theorem issue_false (h : TabV w B M v t) {x : Int} {key : Int} (hx : In64 x) (hk : In64 0) (he : mayE t x = 0) (hroom : t.slots.length + 1 ≤ 1000000) (hser : t.serial < 9223372036854775807) :
    Calls Try.prog 11 #[.pointer (some ⟨B, 0, none⟩), .int .i64 x, .bool false, .int .i64 key] w fun e w' => e = .returned (.tuple #[aggListed (freeI t) (lastI t + 1) (issueOp t x false key), .int .i64 0]) ∧ ∃ v', TabV w' B M v' (issueT t x false key) ∧
      Chg (fun k => k = B ∨ k = M ∨ v.ownBlock = some k) w w' ∧ (v'.ownBlock = v.ownBlock ∨ ∃ k, v'.ownBlock = some k ∧ w.heap.size ≤ k) := by
  have hms := he
  have hcap : (liveN t.slots : Int) ≠ t.cap := by intro e; unfold mayE at he; rw [if_pos e] at he; cases he
  have hnt : timesOf t.slots x = none := by
    unfold mayE at he
    rw [if_neg hcap] at he
    cases hf : timesOf t.slots x with
    | none => rfl
    | some y => rw [hf] at he; simp at he
  obtain ⟨s, hs, hsg, hsl, hla⟩ := free_slot t
  have CM : Hid (∀ w1, Below w.heap.size w w1 → Calls Try.prog 29 #[.pointer (some ⟨B, 0, none⟩), .int .i64 x] w1 fun e w' => e = .returned (.int .i64 0) ∧ ∃ n, w' = w1.drewN n) := Lib.hid (fun w1 hb => by have := may (h.fresh hb) hx; rw [he] at this; exact this)
  have hu34 := Try.underlying34
  have hu32 := Try.underlying32
  have hu30 := Try.underlying30
  have hu28 := Try.underlying28
  have HT := Lib.hid h
  have HS := Lib.hid hs
  have HNT := Lib.hid hnt
  have HX := Lib.hid hx
  have HK := Lib.hid hk
  have HRoom := Lib.hid hroom
  have HSer := Lib.hid hser
  have HLa := Lib.hid hla
  have HSG := Lib.hid hsg
  have HSL := Lib.hid hsl
  have hBl := h.head.lt
  have hMl := h.map.lt
  have HVl : Hid (∀ k, v.ownBlock = some k → k < w.heap.size) := Lib.hid (fun k hk => h.ltV hk)
  have hs1 : -9223372036854775808 ≤ t.serial := h.good.serial.1
  have hs2 := hser
  clear h hx he hms hcap hnt hs hsg hsl hla hk hroom hser
  unfold aggListed
  go_enter Try.func11, Try.ntmps11
  go_wp2_with fail
  refine gw (fun wa hwa => ?_)
  have HB1 : Hid (Below w.heap.size w wa) := Lib.hid (by rw [← hwa]; exact (Below.refl _ _).alloc (Nat.le_refl _) _)
  have HX1 : Hid (Blk wa w.heap.size #[.int .i64 0, .int .i64 0, .int .i64 0, .bool false, .int .i64 0, .int .i64 0] 34) := Lib.hid (by rw [← hwa]; exact Blk.new _ _ _)
  clear hwa
  refine (CM.out _ HB1.out).mono ?_
  rintro e w2 ⟨rfl, n, rfl⟩
  have HX2 : Hid (Blk (wa.drewN n) w.heap.size #[.int .i64 0, .int .i64 0, .int .i64 0, .bool false, .int .i64 0, .int .i64 0] 34) := Lib.hid (HX1.out.drewN n)
  have HB2 : Hid (Below w.heap.size w (wa.drewN n)) := Lib.hid (bdn HB1.out n)
  generalize wa.drewN n = w2 at *
  have c1 : w2.cell? ⟨B, 1, none⟩ = some (.int .i64 t.serial) := bcell HB2.out HT.out.c1 hBl
  have hsz2 : w.heap.size < w2.heap.size := HX2.out.lt
  clear HB1 HX1 CM
  go_wp2_with fail
  refine gw (fun wb hwb => ?_)
  have HBb : Hid (Below w.heap.size w wb) := Lib.hid (by rw [← hwb]; first | exact HB2.out.alloc HB2.out.size _ | exact (HB2.out.alloc HB2.out.size _).setCell HB2.out.size _)
  have HXb : Hid (Blk wb w.heap.size #[.int .i64 0, .int .i64 0, .int .i64 0, .bool false, .int .i64 0, .int .i64 0] 34) := Lib.hid (by rw [← hwb]; first | exact HX2.out.alloc _ | exact (HX2.out.alloc _).far (by simp; omega) _)
  have HOb : Hid (Blk wb w2.heap.size #[.int .i64 x, .bool false, .int .i64 0, .int .i64 t.serial] 32) := Lib.hid (by rw [← hwb]; first | exact Blk.new _ _ _ | exact (Blk.new _ _ _).set 2 _)
  have hszb : w2.heap.size < wb.heap.size := HOb.out.lt
  have HTb := Lib.hid (HT.out.fresh HBb.out)
  clear hwb c1
  refine (free_any HTb.out HRoom.out).mono ?_
  rintro e w3 ⟨rfl, v', ht3, hc3, ho3⟩
  have HT3 := Lib.hid ht3
  have HC3 := Lib.hid hc3
  have HO3 := Lib.hid ho3
  have hnB : ∀ k, w.heap.size ≤ k → k < wb.heap.size → ¬ (k = B ∨ v.ownBlock = some k) := fun k h1 h2 h => by
    rcases h with h | h
    · omega
    · have := HVl.out k h; omega
  have HX3 : Hid (Blk w3 w.heap.size #[.int .i64 0, .int .i64 0, .int .i64 0, .bool false, .int .i64 0, .int .i64 0] 34) := Lib.hid (HXb.out.keep hc3 (hnB _ (Nat.le_refl _) (by omega)))
  have HP3 : Hid (Blk w3 w2.heap.size #[.int .i64 x, .bool false, .int .i64 0, .int .i64 t.serial] 32) := Lib.hid (HOb.out.keep hc3 (hnB _ (by omega) hszb))
  have hV' : ∀ k, v'.ownBlock = some k → k < w.heap.size ∨ wb.heap.size ≤ k := fun k hk => by
    rcases ho3 with e | ⟨j, e, hj⟩
    · exact Or.inl (HVl.out k (by rw [← e]; exact hk))
    · rw [e] at hk; injection hk with hk; omega
  have HV' := Lib.hid hV'
  obtain ⟨R, cap, hv3, hR, hle, hRB, hRM, hcc, hfr⟩ := ht3.cells HS.out
  have HV3 := Lib.hid hv3
  have d2 : w3.cell? ⟨B, 2, none⟩ = some (.slice (some ⟨R, 0, none⟩) (freeT t).slots.length cap) := by rw [← hv3]; exact ht3.c2
  have k0 : w3.cell? ⟨R, freeI t * 6, none⟩ = some (.int .i64 s.last) := hcc 0 _ rfl
  have hlt : freeI t < (freeT t).slots.length := (List.getElem?_eq_some_iff.1 HS.out).1
  have hfew := ht3.good.few
  have hl0 := (ht3.good.slots s (List.mem_of_getElem? HS.out)).last0
  have hl1 := HSL.out
  have hsz3 := hc3.size
  clear ht3 hc3 ho3 hnB hV' hv3 hle hcc hfr HXb HOb
  have HFI : Hid (∃ i, freeI t = i) := Lib.hid ⟨_, rfl⟩
  generalize hN : (freeT t).slots.length = N at *
  have HN := Lib.hid hN
  clear hN
  generalize hI : freeI t = i at *
  have HI := Lib.hid hI
  clear hI HFI
  have hi0 : (0 : Int) ≤ i := by omega
  have hiN : (i : Int) < N := by omega
  have e1 : (i : Int).toNat = i := by omega
  have o0 := HP3.out.cell (j := 0) rfl
  have o1 := HP3.out.cell (j := 1) rfl
  have o2 := HP3.out.cell (j := 2) rfl
  have o3 := HP3.out.cell (j := 3) rfl
  have hszP : w2.heap.size < w3.heap.size := HP3.out.lt
  go_wp2_with fail
  refine gw (fun wc hwc => ?_)
  have HBc : Hid (Below w3.heap.size w3 wc) := Lib.hid (by rw [← hwc]; exact (Below.refl _ _).alloc (Nat.le_refl _) _)
  have HRc : Hid (Blk wc w3.heap.size #[.int .i64 i, .int .i64 (s.last + 1)] 28) := Lib.hid (by rw [← hwc]; exact Blk.new _ _ _)
  have hszc : w3.heap.size < wc.heap.size := HRc.out.lt
  have HTc := Lib.hid (HT3.out.fresh HBc.out)
  clear hwc d2 k0 o0 o1 o2 o3
  have hlay := lay (g := s.last + 1) (o := ⟨x, false, 0, t.serial⟩) HTc.out HS.out (by rw [HSG.out]; decide) (by omega) (by omega) ⟨HX.out, HK.out, hs1, by show t.serial ≤ _; omega⟩ ((free_times t x).trans HNT.out)
  rw [show (if s.last + 1 ≤ s.last then s.last else s.last + 1) = s.last + 1 from if_neg (by omega)] at hlay
  unfold aggOp at hlay
  try rw [HI.out] at hlay
  refine hlay.mono ?_
  rintro e w4 ⟨rfl, ht4, hc4⟩
  have HT4 := Lib.hid ht4
  have HC4 := Lib.hid hc4
  have hnK : ∀ k, w.heap.size ≤ k → k < wb.heap.size ∨ w3.heap.size ≤ k → ¬ (k = M ∨ v'.ownBlock = some k) := fun k h1 h2 h => by
    rcases h with h | h
    · omega
    · have h3 := HV'.out k h
      have h4 := HT3.out.ltV h
      omega
  have HX4 : Hid (Blk w4 w.heap.size #[.int .i64 0, .int .i64 0, .int .i64 0, .bool false, .int .i64 0, .int .i64 0] 34) := Lib.hid ((HX3.out.below HBc.out).keep hc4 (hnK _ (Nat.le_refl _) (by omega)))
  have HP4 : Hid (Blk w4 w2.heap.size #[.int .i64 x, .bool false, .int .i64 0, .int .i64 t.serial] 32) := Lib.hid ((HP3.out.below HBc.out).keep hc4 (hnK _ (by omega) (by omega)))
  have HR4 : Hid (Blk w4 w3.heap.size #[.int .i64 i, .int .i64 (s.last + 1)] 28) := Lib.hid (HRc.out.keep hc4 (hnK _ (by omega) (Or.inr (Nat.le_refl _))))
  have c1 : w4.cell? ⟨B, 1, none⟩ = some (.int .i64 t.serial) := by have := ht4.c1; simp only [(freeT_cap t).2] at this; exact this
  have q1 : w4.frozen? ⟨B, 1, none⟩ = false := ht4.head.free 1
  have x0 := HX4.out.cell (j := 0) rfl
  have x1 := HX4.out.cell (j := 1) rfl
  have x2 := HX4.out.cell (j := 2) rfl
  have x3 := HX4.out.cell (j := 3) rfl
  have x4 := HX4.out.cell (j := 4) rfl
  have x5 := HX4.out.cell (j := 5) rfl
  have f0 := HX4.out.free 0
  have f1 := HX4.out.free 1
  have f2 := HX4.out.free 2
  have f3 := HX4.out.free 3
  have f4 := HX4.out.free 4
  have f5 := HX4.out.free 5
  have p0 := HP4.out.cell (j := 0) rfl
  have p1 := HP4.out.cell (j := 1) rfl
  have p2 := HP4.out.cell (j := 2) rfl
  have p3 := HP4.out.cell (j := 3) rfl
  have r0 := HR4.out.cell (j := 0) rfl
  have r1 := HR4.out.cell (j := 1) rfl
  have hsz4 := hc4.size
  have hBX : B ≠ w.heap.size := by omega
  have hBP : B ≠ w2.heap.size := by omega
  have hBR : B ≠ w3.heap.size := by omega
  clear hlay ht4 hc4 hnK HX3 HP3 HRc
  go_wp2_with fail
  refine gwB (fun wz hwz => ?_)
  have HZ : Hid (Blk wz w.heap.size #[.int .i64 i, .int .i64 (s.last + 1), .int .i64 x, .bool false, .int .i64 0, .int .i64 t.serial] 34) := Lib.hid (by
    rw [← hwz]
    exact ((((((blk_far HX4.out (Ne.symm hBX)).set 0 _).set 1 _).set 2 _).set 3 _).set 4 _).set 5 _)
  have HCz : Hid (Chg (fun k => k = B ∨ k = w.heap.size) w4 wz) := Lib.hid (by
    rw [← hwz]
    exact chg2 (chg2 (chg2 (chg2 (chg2 (chg2 (chg2 (Chg.refl _ w4) (.inl rfl)) (.inr rfl)) (.inr rfl)) (.inr rfl)) (.inr rfl)) (.inr rfl)) (.inr rfl))
  have HHz : Hid (Blk wz B #[.int .i64 (freeT t).cap, .int .i64 (t.serial + 1), v', .map (some M)] 70) := Lib.hid (by
    rw [← hwz]
    exact blk_far (blk_far (blk_far (blk_far (blk_far (blk_far (HT4.out.head.set 1 _) hBX) hBX) hBX) hBX) hBX) hBX)
  clear hwz
  refine bodyPost_ret (results_ct rfl _ _ w.heap.size 34 _ (0, 0) _ rfl HZ.out Try.underlying34 rfl (by kernel_rfl)) rfl ?_
  have hLT : s.last = lastI t := HLa.out
  have hset : (issueT t x false key).slots = (freeT t).slots.set i ⟨s.last + 1, s.last + 1, ⟨x, false, 0, t.serial⟩⟩ := by
    unfold issueT issueOp
    rw [HI.out, ← hLT]
    rfl
  have hgood : Good (issueT t x false key) := by
    have h4 := HT4.out.good
    refine ⟨h4.cap0, h4.cap1, ⟨by show _ ≤ t.serial + 1; omega, by show t.serial + 1 ≤ _; omega⟩, ?_, ?_, ?_⟩
    · rw [hset]; exact h4.slots
    · rw [hset]; exact h4.times
    · rw [hset]; exact h4.few
  have hvX : ∀ k, v'.ownBlock = some k → ¬ (k = B ∨ k = w.heap.size) := fun k hk h => by
    rcases h with h | h
    · have h5 := HV3.out
      rw [h5] at hk
      have : R = k := by simpa [Value.ownBlock] using hk
      omega
    · have := HV'.out k hk; omega
  refine ⟨?_, v', TabV.of (t' := issueT t x false key) (f := timesOf (issueT t x false key).slots) (n := liveN (issueT t x false key).slots) (m := liveN (issueT t x false key).slots) (xs := cellsOf (issueT t x false key).slots) HHz.out ?_ rfl ?_ rfl (fun _ => rfl) hgood, ?_, ?_⟩
  · rw [← hLT, HI.out]; rfl
  · have := row_chg HT4.out.row HCz.out hvX
    rw [hset]
    exact this
  · have := HT4.out.map.keep (HCz.out.block M (by omega) (by have := HT4.out.BM; omega))
    rw [hset]
    exact this
  · have a1 : Chg (fun k => k = B ∨ k = M ∨ v.ownBlock = some k) w w3 := (Chg.of_below (S := fun k => k = B ∨ k = M ∨ v.ownBlock = some k) HBb.out).trans HC3.out (fun k _ h => by rcases h with h | h; exact Or.inl h; exact Or.inr (Or.inr h))
    have a2 : Chg (fun k => k = B ∨ k = M ∨ v.ownBlock = some k) w wc := a1.trans (Chg.of_below (S := fun _ => False) HBc.out) (fun _ _ h => h.elim)
    have a3 : Chg (fun k => k = B ∨ k = M ∨ v.ownBlock = some k) w w4 := a2.trans HC4.out (fun k hk h => by
      rcases h with h | h
      · exact Or.inr (Or.inl h)
      · rcases HO3.out with e | ⟨j, e, hj⟩
        · exact Or.inr (Or.inr (by rw [← e]; exact h))
        · rw [e] at h; injection h with h; omega)
    exact a3.trans HCz.out (fun k hk h => by
      rcases h with h | h
      · exact Or.inl h
      · omega)
  · rcases HO3.out with e | ⟨j, e, hj⟩
    · exact Or.inl e
    · exact Or.inr ⟨j, e, by omega⟩
end
end Go.Proofs.Ytccfjjaljckinaa.Tag
/- A new table; moving; what is known. -/
namespace Go.Proofs.Ytccfjjaljckinaa.Tag
open Go.RowKit Go.Lib Go.Shelf Go.Proofs.Ytccfjjaljckinaa.Mem Go.Proofs.Ytccfjjaljckinaa.IMap Go.Proofs.YtccfjjaljckinaaW.PrintWords

def capC (c : Int) : Int := min (max c 0) 65536
def newT (c : Int) : Tab := ⟨capC c, 0, []⟩
theorem newT_good (c : Int) : Good (newT c) := by
  refine ⟨?_, ?_, by unfold In64 newT; simp, fun s hs => (by cases hs), fun i j a b ha => (by simp [newT] at ha), (by simp [newT])⟩ <;> (unfold newT capC; simp only; omega)

set_option maxRecDepth 100000 in
set_option maxHeartbeats 1000000 in
theorem new_ (c : Int) (w : World) : Calls Try.prog 9 #[.int .i64 c] w fun e w' => e = .returned (.pointer (some ⟨w.heap.size + 1, 0, none⟩)) ∧ TabV w' (w.heap.size + 1) w.heap.size (.slice none 0 0) (newT c) ∧ Below w.heap.size w w' := by
  have fin : ∀ w', w' = (w.alloc (.map #[] 0)).alloc (.cells #[.int .i64 (capC c), .int .i64 0, .slice none 0 0, .map (some w.heap.size)] 70) →
      TabV w' (w.heap.size + 1) w.heap.size (.slice none 0 0) (newT c) ∧ Below w.heap.size w w' := by
    rintro w' rfl
    refine ⟨⟨Blk.at_ (by simp) _ _, World.ownsRow_nil _ _ _ _, ?_, newT_good c⟩, ((Below.refl _ _).alloc (Nat.le_refl _) _).alloc (by simp) _⟩
    have h : IMap Try.prog 3 3 (w.alloc (.map #[] 0)) w.heap.size 0 (fun _ => none) 0 := IMap.made w
    exact h.keep (Below.heap_alloc _ _ _ (by simp))
  have hmm := @run_makeMap Try.prog
  have Fin := Lib.hid fin
  clear fin
  go_enter Try.func9, Try.ntmps9
  go_wp2
  go_ret
  exact ⟨rfl, Fin.out _ rfl⟩

section
variable {w : World} {B M : Nat} {v : Value} {t : Tab}
def knownOf (t : Tab) (id : Int) : Bool := decide (0 ≤ id) && decide (id < t.serial) && !(t.slots.any (pKnown id))

theorem cont47 (h : TabV w B M v t) (id : Int) (b : Nat) (hb : w.cell? ⟨b, 0, none⟩ = some (.int .i64 id)) (hlt : b < w.heap.size) :
    Calls Try.prog 47 #[v, .func (.func 48) #[] #[.pointer (some ⟨b, 0, none⟩)]] w fun e w' => e = .returned (.bool (t.slots.any (pKnown id))) ∧ Below w.heap.size w w' := by
  rcases Nat.eq_zero_or_pos t.slots.length with h0 | h0
  · obtain ⟨A, cap, rfl⟩ := h.row0 (List.length_eq_zero_iff.1 h0)
    rw [List.length_eq_zero_iff.1 h0]
    have HI := Lib.hid (idx_empty A cap (.func (.func 48) #[] #[.pointer (some ⟨b, 0, none⟩)]) w)
    clear h h0 hb hlt
    go_enter Try.func47, Try.ntmps47
    go_wp2_with fail
    refine HI.out.mono ?_
    rintro e w' ⟨rfl, rfl⟩
    go_wp2
    go_ret
    exact ⟨rfl, Below.refl _ _⟩
  · obtain ⟨R, cap, hv, hR, hle, hRB, hRM, hc, hfr⟩ := h.cells (List.getElem?_eq_getElem h0)
    have hfew := h.good.few
    have := AnyQ.slices_ContainsFunc Try.lCont 6 (fun w => by kernel_rfl) (fun w => by kernel_rfl) encSlot (fun _ => rfl) (pKnown id) 48 #[.pointer (some ⟨b, 0, none⟩)] (enters_of Try.func48 (by kernel_rfl) rfl) R 0 t.slots.length cap t.slots w
      (fun W x hbl => (closure48 x id b W (bcell hbl hb hlt) (Nat.lt_of_lt_of_le hlt hbl.size)).mono (fun e w' ⟨he, hb'⟩ => ⟨he, btrans' hbl hb'⟩)) (Nat.le_refl _) (by omega) hR (fun j hj i u hu => by
        rw [Nat.zero_add]
        obtain ⟨R', cap', hv', _, _, _, _, hc', _⟩ := h.cells (List.getElem?_eq_getElem hj)
        rw [hv] at hv'
        injection hv' with hv' _ _
        injection hv' with hv'
        injection hv' with hv' _ _
        subst hv'
        exact hc' i u (by simpa [hj] using hu))
    rw [List.take_length] at this
    rw [hv]
    exact this

set_option maxRecDepth 100000 in
set_option maxHeartbeats 2000000 in
theorem known (h : TabV w B M v t) (id : Int) : Calls Try.prog 33 #[.pointer (some ⟨B, 0, none⟩), .int .i64 id] w fun e w' => e = .returned (.bool (knownOf t id)) ∧ Below w.heap.size w w' := by
  have c1 := h.c1
  have c2 := h.c2
  have hBl := h.head.lt
  unfold knownOf
  by_cases a1 : 0 ≤ id
  · have t1 : decide (0 ≤ id) = true := decide_eq_true a1
    rw [t1, Bool.true_and]
    by_cases a2 : id < t.serial
    · have t2 : decide (id < t.serial) = true := decide_eq_true a2
      rw [t2, Bool.true_and]
      have CC : Hid (Calls Try.prog 47 #[v, .func (.func 48) #[] #[.pointer (some ⟨w.heap.size, 0, none⟩)]] (w.alloc (.cells #[.int .i64 id] 3)).drew fun e w' => e = .returned (.bool (t.slots.any (pKnown id))) ∧ Below w.heap.size w w') := Lib.hid (by
        have hB : Below w.heap.size w (w.alloc (.cells #[.int .i64 id] 3)).drew := ((Below.refl _ _).alloc (Nat.le_refl _) _).drew
        have hX : Blk (w.alloc (.cells #[.int .i64 id] 3)).drew w.heap.size #[.int .i64 id] 3 := (Blk.new _ _ _).drew
        exact (cont47 (h.fresh hB) id w.heap.size (hX.cell (j := 0) rfl) hX.lt).mono (fun e w' ⟨he, hb⟩ => ⟨he, btrans' hB hb⟩))
      generalize t.slots.any (pKnown id) = A at *
      clear h
      go_enter Try.func33, Try.ntmps33
      go_wp2
      go_region_with (go_at_call 47; refine CC.out.mono ?_; rintro e w' ⟨rfl, hb⟩; have HB := Lib.hid hb; clear hb)
      all_goals (go_wp2; go_ret; exact ⟨rfl, HB.out⟩)
    · have t2 : decide (id < t.serial) = false := decide_eq_false a2
      rw [t2, Bool.false_and]
      clear h
      go_enter Try.func33, Try.ntmps33
      go_wp2
      go_quiet (fail)
      go_wp2
      go_ret
      exact ⟨rfl, by (repeat (refine bdn ?_ _)); exact (Below.refl _ _).alloc (Nat.le_refl _) _⟩
  · have t1 : decide (0 ≤ id) = false := decide_eq_false a1
    rw [t1, Bool.false_and, Bool.false_and]
    clear h
    go_enter Try.func33, Try.ntmps33
    go_wp2
    go_quiet (fail)
    go_wp2
    go_ret
    exact ⟨rfl, by (repeat (refine bdn ?_ _)); exact (Below.refl _ _).alloc (Nat.le_refl _) _⟩
end
end Go.Proofs.Ytccfjjaljckinaa.Tag
