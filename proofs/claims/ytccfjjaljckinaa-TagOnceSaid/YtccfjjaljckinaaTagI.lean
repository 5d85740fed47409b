/- A slot that is free. -/
import Derived.Test.YtccfjjaljckinaaTagH
import Derived.Maps.AppendAt
import Derived.OwnWalk
import Derived.Laws.OwnMore
import Derived.RangeFuncBox
namespace Go.Proofs.Ytccfjjaljckinaa.Tag
open Go.RowKit Go.Lib Go.Shelf Go.Proofs.Ytccfjjaljckinaa.Mem Go.Proofs.Ytccfjjaljckinaa.IMap Go.Proofs.YtccfjjaljckinaaW.PrintWords

def slot0 : Slot := ⟨0, 0, op0⟩
theorem info73 : (Try.prog.info? 73).map (fun i => (i.zero, i.size, i.bytes)) = some (some (aggSlot slot0), 6, 48) := by kernel_rfl

section
variable {w : World} {B M : Nat} {v : Value} {t : Tab}
set_option maxRecDepth 100000 in
set_option maxHeartbeats 1000000 in
theorem free_old (h : TabV w B M v t) {i : Nat} (hf : t.slots.findIdx? pFree = some i) :
    Calls Try.prog 30 #[.pointer (some ⟨B, 0, none⟩)] w fun e w' => e = .returned (.int .i64 i) ∧ Below w.heap.size w w' := by
  have CI : Hid (Calls Try.prog 45 #[v, .func (.func 46) #[] #[]] w fun e w' => e = .returned (.int .i64 (i : Int)) ∧ Below w.heap.size w w') := Lib.hid (by
    have := idx45 h
    rw [idx_is, hf] at this
    exact this)
  have c2 := h.c2
  clear h hf
  go_enter Try.func30, Try.ntmps30
  go_wp2_with fail
  refine CI.out.mono ?_
  rintro e w2 ⟨rfl, hb⟩
  have HB := Lib.hid hb
  have hi0 : ¬ ((i : Int) < 0) := by omega
  clear hb CI
  go_wp2_with fail
  go_ret
  exact ⟨rfl, HB.out⟩

set_option maxRecDepth 100000 in
set_option maxHeartbeats 1000000 in
theorem free_new (h : TabV w B M v t) (hf : t.slots.findIdx? pFree = none) (hroom : t.slots.length + 1 ≤ 1000000) :
    Calls Try.prog 30 #[.pointer (some ⟨B, 0, none⟩)] w fun e w' => e = .returned (.int .i64 t.slots.length) ∧ ∃ v', TabV w' B M v' { t with slots := t.slots ++ [slot0] } ∧
      Chg (fun k => k = B ∨ v.ownBlock = some k) w w' ∧ (v'.ownBlock = v.ownBlock ∨ ∃ k, v'.ownBlock = some k ∧ w.heap.size ≤ k) := by
  have CI : Hid (Calls Try.prog 45 #[v, .func (.func 46) #[] #[]] w fun e w' => e = .returned (.int .i64 (-1)) ∧ Below w.heap.size w w') := Lib.hid (by
    have := idx45 h
    rw [idx_is, hf] at this
    exact this)
  have c2 := h.c2
  obtain ⟨i0, hi, hz0, hz1, hz2⟩ := info_parts info73
  have HT := Lib.hid h
  have hBv : v.ownBlock ≠ some B := by
    intro e
    obtain ⟨_, ⟨rfl, _⟩ | ⟨R, cap, cur, rfl, _, hb, _⟩⟩ := h.row
    · cases e
    · have : R = B := by simpa [Value.ownBlock] using e
      subst this
      have := h.head
      unfold Blk at this
      rw [hb] at this
      injection this with this
      injection this with _ this
      exact absurd this (by decide)
  have HBv := Lib.hid hBv
  have hBl := h.head.lt
  clear h hf hBv
  go_enter Try.func30, Try.ntmps30
  go_wp2_with fail
  refine CI.out.mono ?_
  rintro e w2 ⟨rfl, hb⟩
  have HT2 := Lib.hid (HT.out.fresh hb)
  have HB := Lib.hid hb
  have d2 := HT2.out.c2
  have hsz2 := hb.size
  have Hc1 : Hid (∀ j u, (encSlot slot0)[j]? = some u → (w2.alloc (Obj.cells #[.int .i64 0, .int .i64 0, .int .i64 0, .bool false, .int .i64 0, .int .i64 0] 73)).cell? ((⟨w2.heap.size, 0, none⟩ : Addr).add j) = some u) := Lib.hid (fun j u hu => by
    have hb := Blk.new w2 #[.int .i64 0, .int .i64 0, .int .i64 0, .bool false, .int .i64 0, .int .i64 0] 73
    have := hb.cell (j := j) (v := u) (by simpa [encSlot, slot0, op0] using hu)
    rw [show ((⟨w2.heap.size, 0, none⟩ : Addr).add j) = ⟨w2.heap.size, j, none⟩ by simp [Addr.add]; intro h; omega]
    exact this)
  have Hc2 : Hid (∀ u ∈ encSlot slot0, u.oneCell' = true) := Lib.hid (by simp [encSlot, slot0, op0, Value.oneCell'])
  have Hc3 : Hid (t.slots.length + 1 ≤ maxLen) := Lib.hid (by unfold maxLen; omega)
  have Hc4 : Hid ((t.slots.length + 1) * 48 ≤ 140737488355328) := Lib.hid (by omega)
  have HRoom := Lib.hid hroom
  clear hb CI c2 hroom
  go_wp2_with (first
    | (at_builtin
       refine wpList_append_own_at _ rfl _ _ 68 rfl 0 73 i0 _ 6 48 Try.underlying68 hi hz0 hz1 hz2 rfl (by decide) v t.slots.length (cellsOf t.slots) rfl (HT2.out.row.alloc _) ⟨w2.heap.size, 0, none⟩ 1 1 (encSlot slot0) rfl rfl Hc1.out Hc2.out Hc3.out Hc4.out (Nat.zero_le _) ?_
       intro v' w3 hown hgrow hnil hloc
       obtain ⟨g', cap', rfl⟩ := ownsRow_succ hown
       have hch : Chg (fun k => v.ownBlock = some k) w2 w3 := (Chg.alloc (Chg.refl _ w2) _).trans ⟨hgrow.os, hgrow.tape, hgrow.output, hgrow.size, fun k hk hne => hgrow.block k hk (fun e => hne e.symm)⟩ (fun _ _ h => h)
       have hB2 : B < w2.heap.size := Nat.lt_of_lt_of_le hBl hsz2
       have e2 : w3.cell? ⟨B, 2, none⟩ = some v := (hch.cell (p := ⟨B, 2, none⟩) hB2 HBv.out).trans d2
       have f2 : w3.frozen? ⟨B, 2, none⟩ = false := (hch.frozen (p := ⟨B, 2, none⟩) hB2 HBv.out).trans (HT2.out.head.free 2)
       have HOwn := Lib.hid hown
       have HCh := Lib.hid hch
       have HLoc := Lib.hid hloc
       clear hown hgrow hnil hloc hch))
  refine gwB (fun wz hwz => ?_)
  have hg'B : g' ≠ B := by
    rcases HLoc.out with e | e
    · intro h; exact HBv.out (by rw [← e, h]; rfl)
    · have e' : some g' = some (w2.heap.size + 1) := e.trans (by simp)
      injection e' with e'
      have := HT2.out.head.lt
      omega
  have HZ : Hid (Blk wz B #[.int .i64 t.cap, .int .i64 t.serial, .slice (some ⟨g', 0, none⟩) (t.slots.length + 1) cap', .map (some M)] 70) := Lib.hid (by
    rw [← hwz]; exact (HT2.out.head.keep HCh.out HBv.out).set 2 _)
  have HR : Hid (wz.ownsRow 0 73 6 (.slice (some ⟨g', 0, none⟩) (t.slots.length + 1) cap') (t.slots.length + 1) (cellsOf t.slots ++ encSlot slot0)) := Lib.hid (by
    rw [← hwz]; exact row_far HOwn.out hg'B)
  have HC2 : Hid (Chg (fun k => k = B ∨ v.ownBlock = some k) w2 wz) := Lib.hid (by
    rw [← hwz]; exact (HCh.out.mono (S' := fun k => k = B ∨ v.ownBlock = some k) (fun k _ h => Or.inr h)).set (p := ⟨B, 2, none⟩) (fun _ => Or.inl rfl) _)
  clear hwz e2 f2 d2
  go_ret
  have hMv : v.ownBlock ≠ some M := by
    intro e
    obtain ⟨_, ⟨rfl, _⟩ | ⟨R, cap, cur, rfl, _, hb, _⟩⟩ := HT.out.row
    · cases e
    · have : R = M := by simpa [Value.ownBlock] using e
      subst this
      obtain ⟨es, clock, hm⟩ := HT.out.map.block
      rw [hb] at hm
      cases hm
  have hl : liveN (t.slots ++ [slot0]) = liveN t.slots := by unfold liveN; simp [slot0]
  have hf : ∀ x, timesOf t.slots x = timesOf (t.slots ++ [slot0]) x := by
    intro x
    unfold timesOf
    rw [List.findIdx?_append]
    cases t.slots.findIdx? (fun s => decide (0 < s.gen) && decide (s.op.time = x)) with
    | some i => rfl
    | none => simp [slot0]
  have hG : Good { t with slots := t.slots ++ [slot0] } := by
    have h := HT.out.good
    refine ⟨h.cap0, h.cap1, h.serial, fun s hs => ?_, fun a b x y ha hb hx hy he => ?_, by show (t.slots ++ [slot0]).length ≤ 1000000; simp; have := HRoom.out; omega⟩
    · rcases List.mem_append.1 hs with hs | hs
      · exact h.slots s hs
      · rw [List.mem_singleton] at hs
        subst hs
        exact ⟨by decide, by decide, by decide, by decide, by unfold In64 slot0 op0; simp, by unfold In64 slot0 op0; simp, by unfold In64 slot0 op0; simp⟩
    · have low : ∀ (a : Nat) (x : Slot), (t.slots ++ [slot0])[a]? = some x → 0 < x.gen → t.slots[a]? = some x := by
        intro a x ha hx
        rw [List.getElem?_append] at ha
        split at ha
        · exact ha
        · have := List.mem_of_getElem? ha
          rw [List.mem_singleton] at this
          subst this
          exact absurd hx (by decide)
      exact h.times a b x y (low a x ha hx) (low b y hb hy) hx hy he
  refine ⟨by have h1 := HRoom.out; have h2 : wrap64 (t.slots.length : Int) = t.slots.length := by unfold wrap64; omega
             simp [h2], .slice (some ⟨g', 0, none⟩) (t.slots.length + 1) cap', TabV.of (f := timesOf t.slots) (n := liveN t.slots) (m := liveN t.slots) (xs := cellsOf t.slots ++ encSlot slot0) HZ.out ?_ ?_ ?_ hl.symm hf hG, ?_, ?_⟩
  · show wz.ownsRow 0 73 6 _ (t.slots ++ [slot0]).length _
    rw [List.length_append]
    exact HR.out
  · show _ = cellsOf (t.slots ++ [slot0])
    unfold cellsOf
    rw [List.flatMap_append]
    rfl
  · exact HT2.out.map.keep (HC2.out.block M HT2.out.map.lt (by rintro (h | h); exact HT2.out.BM h.symm; exact hMv h))
  · exact (Chg.of_below HB.out).trans HC2.out (fun _ _ h => h)
  · rcases HLoc.out with e | e
    · exact Or.inl e
    · exact Or.inr ⟨w2.heap.size + 1, e.trans (by simp), by omega⟩
end
end Go.Proofs.Ytccfjjaljckinaa.Tag
