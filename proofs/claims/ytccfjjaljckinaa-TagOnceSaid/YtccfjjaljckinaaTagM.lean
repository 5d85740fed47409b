/- Moving an operation. -/
import Derived.Test.YtccfjjaljckinaaTagL
namespace Go.Proofs.Ytccfjjaljckinaa.Tag
open Go.RowKit Go.Lib Go.Shelf Go.Proofs.Ytccfjjaljckinaa.Mem Go.Proofs.Ytccfjjaljckinaa.IMap Go.Proofs.YtccfjjaljckinaaW.PrintWords

section
variable {w : World} {B M : Nat} {v : Value} {t : Tab}
set_option maxRecDepth 100000 in
set_option maxHeartbeats 1000000 in
theorem move_none (h : TabV w B M v t) {ri rg : Int} (tm : Int) (hf : findOf t ri rg = none) :
    Calls Try.prog 14 #[.pointer (some ⟨B, 0, none⟩), .agg #[.int .i64 ri, .int .i64 rg], .int .i64 tm] w fun e w' => e = .returned (.int .i64 13) ∧ Below w.heap.size w w' := by
  have CF : Hid (∀ w1, Below w.heap.size w w1 → Calls Try.prog 32 #[.pointer (some ⟨B, 0, none⟩), .agg #[.int .i64 ri, .int .i64 rg]] w1 fun e w' => e = .returned (.pointer none) ∧ Below w1.heap.size w1 w') := Lib.hid (fun w1 hb => find_none (h.fresh hb) hf)
  have hu28 := Try.underlying28
  clear h hf
  go_enter Try.func14, Try.ntmps14
  go_wp2_with fail
  refine gw (fun wa hwa => ?_)
  have HB1 : Hid (Below w.heap.size w wa) := Lib.hid (by rw [← hwa]; exact (Below.refl _ _).alloc (Nat.le_refl _) _)
  clear hwa
  refine (CF.out _ HB1.out).mono ?_
  rintro e w2 ⟨rfl, hb⟩
  have HB2 : Hid (Below w.heap.size w w2) := Lib.hid (btrans HB1.out hb)
  clear hb HB1 CF
  go_wp2_with fail
  go_ret
  exact ⟨rfl, HB2.out⟩

theorem find_ptr (h : TabV w B M v t) {ri rg : Int} {i R cap : Nat} {s : Slot} (hs : t.slots[i]? = some s) (hi : ri = i) (hg : s.gen = rg) (h1 : 1 ≤ rg) (hv : v = .slice (some ⟨R, 0, none⟩) t.slots.length cap) (w1 : World) (hb : Below w.heap.size w w1) :
    Calls Try.prog 32 #[.pointer (some ⟨B, 0, none⟩), .agg #[.int .i64 ri, .int .i64 rg]] w1 fun e w' => e = .returned (.pointer (some ⟨R, i * 6, none⟩)) ∧ Below w1.heap.size w1 w' := by
  obtain ⟨R', cap', hv', hcall⟩ := find_some (h.fresh hb) hs hi hg h1
  rw [hv] at hv'
  injection hv' with hv' _ _
  injection hv' with hv'
  injection hv' with hv' _ _
  subst hv'
  exact hcall

set_option maxRecDepth 100000 in
set_option maxHeartbeats 1000000 in
theorem move_taken (h : TabV w B M v t) {ri rg tm y : Int} {i : Nat} {s : Slot} (hto : In64 tm) (hf : findOf t ri rg = some i) (hs : t.slots[i]? = some s) (hy : timesOf t.slots tm = some y) (hne : tm ≠ s.op.time) :
    Calls Try.prog 14 #[.pointer (some ⟨B, 0, none⟩), .agg #[.int .i64 ri, .int .i64 rg], .int .i64 tm] w fun e w' => e = .returned (.int .i64 11) ∧ Below w.heap.size w w' := by
  obtain ⟨s', hs', hi, hg, h1⟩ := findOf_some hf
  rw [hs] at hs'
  injection hs' with hs'
  subst hs'
  obtain ⟨R, cap, hv, hR, hle, hRB, hRM, hc, hfr⟩ := h.cells hs
  have CF : Hid (∀ w1, Below w.heap.size w w1 → Calls Try.prog 32 #[.pointer (some ⟨B, 0, none⟩), .agg #[.int .i64 ri, .int .i64 rg]] w1 fun e w' => e = .returned (.pointer (some ⟨R, i * 6, none⟩)) ∧ Below w1.heap.size w1 w') := Lib.hid (fun w1 hb => find_ptr h hs hi hg h1 hv w1 hb)
  have HC : Hid (∀ j u, (encSlot s)[j]? = some u → w.cell? ⟨R, i * 6 + j, none⟩ = some u) := Lib.hid hc
  have hu28 := Try.underlying28
  have HT := Lib.hid h
  have HY := Lib.hid hy
  have HTo := Lib.hid hto
  have hBl := h.head.lt
  have t1 : (tm == s.op.time) = false := beq_eq_false_iff_ne.2 hne
  have t2 : (tm != s.op.time) = true := by rw [bne, t1]; rfl
  clear h hf hs hc hfr hv hi hg h1 hle hto hne hy
  go_enter Try.func14, Try.ntmps14
  go_wp2_with fail
  refine gw (fun wa hwa => ?_)
  have HB1 : Hid (Below w.heap.size w wa) := Lib.hid (by rw [← hwa]; exact (Below.refl _ _).alloc (Nat.le_refl _) _)
  clear hwa
  refine (CF.out _ HB1.out).mono ?_
  rintro e w2 ⟨rfl, hb⟩
  have HB2 : Hid (Below w.heap.size w w2) := Lib.hid (btrans HB1.out hb)
  have c3 : w2.cell? ⟨B, 3, none⟩ = some (.map (some M)) := bcell HB2.out HT.out.c3 hBl
  have hlk := (HT.out.fresh HB2.out).look HTo.out
  rw [HY.out] at hlk
  have k2 : w2.cell? ⟨R, i * 6 + 2, none⟩ = some (.int .i64 s.op.time) := bcell HB2.out (HC.out 2 _ rfl) hR
  clear hb HB1 CF
  go_wp2_with fail
  go_ret
  exact ⟨rfl, HB2.out⟩

def moveSlot (s : Slot) (tm : Int) : Slot := { s with op := { s.op with time := tm } }
set_option maxRecDepth 100000 in
set_option maxHeartbeats 2000000 in
theorem move_free (h : TabV w B M v t) {ri rg tm : Int} {i : Nat} {s : Slot} (hto : In64 tm) (hf : findOf t ri rg = some i) (hs : t.slots[i]? = some s) (hn : timesOf t.slots tm = none) :
    Calls Try.prog 14 #[.pointer (some ⟨B, 0, none⟩), .agg #[.int .i64 ri, .int .i64 rg], .int .i64 tm] w fun e w' => e = .returned (.int .i64 0) ∧ TabV w' B M v { t with slots := t.slots.set i (moveSlot s tm) } ∧
      Chg (fun k => k = M ∨ v.ownBlock = some k) w w' := by
  obtain ⟨s', hs', hi, hg, h1⟩ := findOf_some hf
  rw [hs] at hs'
  injection hs' with hs'
  subst hs'
  have hgp : 0 < s.gen := by omega
  have gs := h.good.slots s (List.mem_of_getElem? hs)
  have hG : Good { t with slots := t.slots.set i (moveSlot s tm) } := by
    refine h.good.set ⟨gs.last0, gs.last1, gs.gen0, gs.gen1, hto, gs.key, gs.id⟩ (fun _ j b hj hb hbg he => ?_)
    exact timesOf_none hn b (List.mem_of_getElem? hb) hbg he
  have hTt : timesOf t.slots s.op.time = some (i : Int) := T_some h.good.times hs hgp rfl
  have hL : liveN (t.slots.set i (moveSlot s tm)) = liveN t.slots := by
    have := liveN_set (moveSlot s tm) hs
    rw [show (moveSlot s tm).gen = s.gen from rfl] at this
    omega
  have hF : ∀ x, upd (upd (timesOf t.slots) s.op.time none) tm (some (i : Int)) x = timesOf (t.slots.set i (moveSlot s tm)) x := by
    intro x
    rw [timesOf_set hs h.good.times hG.times]
    unfold upd
    rw [show (moveSlot s tm).gen = s.gen from rfl, show (moveSlot s tm).op.time = tm from rfl]
    simp only [hgp, true_and]
    by_cases hx : x = tm
    · subst hx; simp
    · have hx' : ¬ tm = x := fun e => hx e.symm
      by_cases hx2 : x = s.op.time
      · have hx3 : s.op.time = x := hx2.symm
        have h4 : ¬ s.op.time = tm := fun e => hx' (e.symm.trans hx3)
        have h5 : ¬ tm = s.op.time := fun e => h4 e.symm
        simp [hx2, h4, h5]
      · have hx3 : ¬ s.op.time = x := fun e => hx2 e.symm
        simp [hx, hx', hx2, hx3]
  have hF0 : upd (timesOf t.slots) s.op.time none tm = none := by
    unfold upd; split; rfl; exact hn
  have hLpos : 0 < liveN t.slots := by
    unfold liveN
    exact List.length_pos_iff.2 (fun e => by
      have : s ∈ t.slots.filter (fun s => decide (0 < s.gen)) := List.mem_filter.2 ⟨List.mem_of_getElem? hs, by simp [hgp]⟩
      rw [e] at this; cases this)
  obtain ⟨R, cap, hv, hR, hle, hRB, hRM, hc, hfr⟩ := h.cells hs
  have CF : Hid (∀ w1, Below w.heap.size w w1 → Calls Try.prog 32 #[.pointer (some ⟨B, 0, none⟩), .agg #[.int .i64 ri, .int .i64 rg]] w1 fun e w' => e = .returned (.pointer (some ⟨R, i * 6, none⟩)) ∧ Below w1.heap.size w1 w') := Lib.hid (fun w1 hb => find_ptr h hs hi hg h1 hv w1 hb)
  have HC : Hid (∀ j u, (encSlot s)[j]? = some u → w.cell? ⟨R, i * 6 + j, none⟩ = some u) := Lib.hid hc
  have HFr : Hid (∀ j, w.frozen? ⟨R, j, none⟩ = false) := Lib.hid hfr
  have hu28 := Try.underlying28
  have HT := Lib.hid h
  have HV := Lib.hid hv
  have HS := Lib.hid hs
  have HG := Lib.hid hG
  have HL := Lib.hid hL
  have HF := Lib.hid hF
  have HF0 := Lib.hid hF0
  have HTt := Lib.hid hTt
  have HLp := Lib.hid hLpos
  have HTo := Lib.hid hto
  have HTime := Lib.hid gs.time
  have hBl := h.head.lt
  have hMl := h.map.lt
  have hBM := h.BM
  have hfew := h.good.few
  have hlt := (List.getElem?_eq_some_iff.1 hs).1
  have HI := Lib.hid hi
  have HLook : Hid (∀ W, Below w.heap.size w W → (Instr.lookup 67 (.map (some M)) (.int .i64 tm) true).run Try.prog W = .ok (.tuple #[.int .i64 0, .bool false]) W) := Lib.hid (fun W hb => by
    have := (h.fresh hb).look hto
    rw [hn] at this
    exact this)
  clear hn
  clear h hf hs hc hfr hv hi hg h1 hle hG hL hF hF0 hTt hLpos hto gs hgp
  go_enter Try.func14, Try.ntmps14
  go_wp2_with fail
  refine gw (fun wa hwa => ?_)
  have HB1 : Hid (Below w.heap.size w wa) := Lib.hid (by rw [← hwa]; exact (Below.refl _ _).alloc (Nat.le_refl _) _)
  have HX1 : Hid (Blk wa w.heap.size #[.int .i64 ri, .int .i64 rg] 28) := Lib.hid (by rw [← hwa]; exact Blk.new _ _ _)
  clear hwa
  refine (CF.out _ HB1.out).mono ?_
  rintro e w2 ⟨rfl, hb⟩
  have HX2 := Lib.hid (HX1.out.below hb)
  have HB2 : Hid (Below w.heap.size w w2) := Lib.hid (btrans HB1.out hb)
  have c3 : w2.cell? ⟨B, 3, none⟩ = some (.map (some M)) := bcell HB2.out HT.out.c3 hBl
  have hlk := HLook.out w2 HB2.out
  have k2 : w2.cell? ⟨R, i * 6 + 2, none⟩ = some (.int .i64 s.op.time) := bcell HB2.out (HC.out 2 _ rfl) hR
  clear hb HB1 HX1 CF
  go_wp2_with fail
  clear hlk
  obtain ⟨w5, hrun, hm5, ht5⟩ := (show IMap Try.prog 3 3 w2.drew M (liveN t.slots) (timesOf t.slots) (liveN t.slots) from HT.out.map.keep (HB2.out.block M hMl)).drop Try.underlying67 Try.underlying3 HTime.out 0
  have HRun := Lib.hid hrun
  have HM5 := Lib.hid hm5
  have HCh : Hid (Chg (fun k => k = M) w2 w5) := Lib.hid (by have := turned_chg ht5; exact ⟨this.os, this.tape, this.output, this.size, this.block⟩)
  have hsz2 : w.heap.size < w2.heap.size := HX2.out.lt
  have hR2 : R < w2.heap.size := by omega
  have r2 : w5.cell? ⟨R, i * 6 + 2, none⟩ = some (.int .i64 s.op.time) := (HCh.out.cell (p := ⟨R, i * 6 + 2, none⟩) hR2 hRM).trans k2
  have g2 : w5.frozen? ⟨R, i * 6 + 2, none⟩ = false := (HCh.out.frozen (p := ⟨R, i * 6 + 2, none⟩) hR2 hRM).trans (bfree HB2.out (HFr.out _) hR)
  clear hrun hm5 ht5
  have hrun := HRun.out
  go_still_tail 9, (by kernel_rfl)
  go_wp2
  refine gwP (fun w6 hw6 => ?_)
  clear hrun HRun c3 k2 r2 g2
  have HC6 : Hid (Chg (fun k => k = R) w5 w6) := Lib.hid (by rw [← hw6]; exact chgR (Chg.refl _ w5))
  have HRow5 : Hid (w5.ownsRow 0 73 6 (.slice (some ⟨R, 0, none⟩) t.slots.length cap) t.slots.length (cellsOf t.slots)) := Lib.hid (by
    have hr := HT.out.row
    rw [HV.out] at hr
    exact row_chg (row_chg hr (Chg.of_below (S := fun _ => False) HB2.out) (fun _ _ h => h)) HCh.out (fun k hk e => hRM (by simp [Value.ownBlock] at hk; omega)))
  have HRow6 : Hid (w6.ownsRow 0 73 6 (.slice (some ⟨R, 0, none⟩) t.slots.length cap) t.slots.length ((cellsOf t.slots).set (i * 6 + 2) (.int .i64 tm))) := Lib.hid (by rw [← hw6]; exact row_set HRow5.out)
  clear hw6
  have HHd6 : Hid (Blk w6 B #[.int .i64 t.cap, .int .i64 t.serial, v, .map (some M)] 70) := Lib.hid (((HT.out.head.below HB2.out).keep HCh.out hBM).keep HC6.out (fun e => hRB e.symm))
  have HX6 : Hid (Blk w6 w.heap.size #[.int .i64 ri, .int .i64 rg] 28) := Lib.hid ((HX2.out.keep HCh.out (by omega)).keep HC6.out (by omega))
  have hsz5 := HCh.out.size
  have hsz6 := HC6.out.size
  have hM6 : IMap Try.prog 3 3 w6.drew M (liveN t.slots) (upd (timesOf t.slots) s.op.time none) (liveN t.slots - 1) := by
    have := HM5.out
    rw [HTt.out] at this
    exact this.keep (HC6.out.block M (by omega) (fun e => hRM e.symm))
  obtain ⟨w7, hrun, hm7, ht7⟩ := hM6.tight.store Try.underlying67 Try.underlying3 Try.underlying3 (by have := liveN_le t.slots; unfold maxLen; omega) HTo.out (show In64 ri by have := HI.out; unfold In64; omega)
  rw [HF0.out] at hm7
  have HRun := Lib.hid hrun
  have HM7 := Lib.hid hm7
  have HC7 : Hid (Chg (fun k => k = M) w6 w7) := Lib.hid (by have := turned_chg ht7; exact ⟨this.os, this.tape, this.output, this.size, this.block⟩)
  have c3 : w6.cell? ⟨B, 3, none⟩ = some (.map (some M)) := HHd6.out.cell (j := 3) rfl
  have x0 : w6.cell? ⟨w.heap.size, 0, none⟩ = some (.int .i64 ri) := HX6.out.cell (j := 0) rfl
  clear hrun hm7 ht7 hM6
  have hrun := HRun.out
  go_still_tail 7, (by kernel_rfl)
  go_wp2
  go_ret
  have hvo : v.ownBlock = some R := by rw [HV.out]; rfl
  refine ⟨rfl, TabV.of (f := upd (upd (timesOf t.slots) s.op.time none) tm (some (i : Int))) (n := liveN t.slots) (m := liveN t.slots) (xs := (cellsOf t.slots).set (i * 6 + 2) (.int .i64 tm)) ?_ ?_ ?_ ?_ HL.out.symm HF.out HG.out, ?_⟩
  · exact HHd6.out.keep HC7.out hBM
  · show w7.ownsRow 0 73 6 v (t.slots.set i _).length _
    rw [List.length_set, HV.out]
    exact row_chg HRow6.out HC7.out (fun k hk e => hRM (by simp [Value.ownBlock] at hk; omega))
  · show _ = cellsOf (t.slots.set i (moveSlot s tm))
    rw [cellsOf_set _ HS.out]
    have a0 := cellsOf_at t.slots i s 0 _ HS.out rfl
    have a1 := cellsOf_at t.slots i s 1 _ HS.out rfl
    have a3 := cellsOf_at t.slots i s 3 _ HS.out rfl
    have a4 := cellsOf_at t.slots i s 4 _ HS.out rfl
    have a5 := cellsOf_at t.slots i s 5 _ HS.out rfl
    have b1 : (cellsOf t.slots).set (i * 6 + 1) (.int .i64 (moveSlot s tm).gen) = cellsOf t.slots := set_same a1
    rw [b1]
    have far : ∀ j u, (encSlot s)[j]? = some u → j ≠ 2 → ((cellsOf t.slots).set (i * 6 + 2) (.int .i64 (moveSlot s tm).op.time))[i * 6 + j]? = some u := fun j u hj h2 => by
      rw [List.getElem?_set_ne (by omega)]; exact cellsOf_at t.slots i s j u HS.out hj
    have far0 : ((cellsOf t.slots).set (i * 6 + 2) (.int .i64 (moveSlot s tm).op.time))[i * 6]? = some (.int .i64 (moveSlot s tm).last) := far 0 _ rfl (by decide)
    rw [set_same (far 3 (.bool (moveSlot s tm).op.ins) rfl (by decide)), set_same (far 4 (.int .i64 (moveSlot s tm).op.key) rfl (by decide)), set_same (far 5 (.int .i64 (moveSlot s tm).op.id) rfl (by decide)), set_same far0]
    rfl
  · have h7 := HM7.out
    have hri : ri = (i : Int) := HI.out
    rw [hri] at h7
    have e : liveN t.slots - 1 + 1 = liveN t.slots := by have := HLp.out; omega
    simp only [Option.isSome_none, Bool.false_eq_true, if_false, e] at h7
    exact h7
  · have a1 : Chg (fun k => k = M ∨ v.ownBlock = some k) w w5 := (Chg.of_below (S := fun k => k = M ∨ v.ownBlock = some k) HB2.out).trans HCh.out (fun k _ h => Or.inl h)
    have a2 : Chg (fun k => k = M ∨ v.ownBlock = some k) w w6 := a1.trans HC6.out (fun k _ h => Or.inr (by rw [hvo, h]))
    exact a2.trans HC7.out (fun k _ h => Or.inl h)

set_option maxRecDepth 100000 in
set_option maxHeartbeats 2000000 in
theorem move_same (h : TabV w B M v t) {ri rg tm : Int} {i : Nat} {s : Slot} (hto : In64 tm) (hf : findOf t ri rg = some i) (hs : t.slots[i]? = some s) (hn : tm = s.op.time) :
    Calls Try.prog 14 #[.pointer (some ⟨B, 0, none⟩), .agg #[.int .i64 ri, .int .i64 rg], .int .i64 tm] w fun e w' => e = .returned (.int .i64 0) ∧ TabV w' B M v { t with slots := t.slots.set i (moveSlot s tm) } ∧
      Chg (fun k => k = M ∨ v.ownBlock = some k) w w' := by
  obtain ⟨s', hs', hi, hg, h1⟩ := findOf_some hf
  rw [hs] at hs'
  injection hs' with hs'
  subst hs'
  have hgp : 0 < s.gen := by omega
  have gs := h.good.slots s (List.mem_of_getElem? hs)
  have hG : Good { t with slots := t.slots.set i (moveSlot s tm) } := by
    refine h.good.set ⟨gs.last0, gs.last1, gs.gen0, gs.gen1, hto, gs.key, gs.id⟩ (fun _ j b hj hb hbg he => ?_)
    exact hj (h.good.times j i b s hb hs hbg hgp (he.trans hn))
  have hTt : timesOf t.slots s.op.time = some (i : Int) := T_some h.good.times hs hgp rfl
  have hL : liveN (t.slots.set i (moveSlot s tm)) = liveN t.slots := by
    have := liveN_set (moveSlot s tm) hs
    rw [show (moveSlot s tm).gen = s.gen from rfl] at this
    omega
  have hF : ∀ x, upd (upd (timesOf t.slots) s.op.time none) tm (some (i : Int)) x = timesOf (t.slots.set i (moveSlot s tm)) x := by
    intro x
    rw [timesOf_set hs h.good.times hG.times]
    unfold upd
    rw [show (moveSlot s tm).gen = s.gen from rfl, show (moveSlot s tm).op.time = tm from rfl]
    simp only [hgp, true_and]
    by_cases hx : x = tm
    · subst hx; simp
    · have hx' : ¬ tm = x := fun e => hx e.symm
      by_cases hx2 : x = s.op.time
      · have hx3 : s.op.time = x := hx2.symm
        have h4 : ¬ s.op.time = tm := fun e => hx' (e.symm.trans hx3)
        have h5 : ¬ tm = s.op.time := fun e => h4 e.symm
        simp [hx2, h4, h5]
      · have hx3 : ¬ s.op.time = x := fun e => hx2 e.symm
        simp [hx, hx', hx2, hx3]
  have hF0 : upd (timesOf t.slots) s.op.time none tm = none := by
    unfold upd; rw [if_pos hn]
  have hLpos : 0 < liveN t.slots := by
    unfold liveN
    exact List.length_pos_iff.2 (fun e => by
      have : s ∈ t.slots.filter (fun s => decide (0 < s.gen)) := List.mem_filter.2 ⟨List.mem_of_getElem? hs, by simp [hgp]⟩
      rw [e] at this; cases this)
  obtain ⟨R, cap, hv, hR, hle, hRB, hRM, hc, hfr⟩ := h.cells hs
  have CF : Hid (∀ w1, Below w.heap.size w w1 → Calls Try.prog 32 #[.pointer (some ⟨B, 0, none⟩), .agg #[.int .i64 ri, .int .i64 rg]] w1 fun e w' => e = .returned (.pointer (some ⟨R, i * 6, none⟩)) ∧ Below w1.heap.size w1 w') := Lib.hid (fun w1 hb => find_ptr h hs hi hg h1 hv w1 hb)
  have HC : Hid (∀ j u, (encSlot s)[j]? = some u → w.cell? ⟨R, i * 6 + j, none⟩ = some u) := Lib.hid hc
  have HFr : Hid (∀ j, w.frozen? ⟨R, j, none⟩ = false) := Lib.hid hfr
  have hu28 := Try.underlying28
  have HT := Lib.hid h
  have HV := Lib.hid hv
  have HS := Lib.hid hs
  have HG := Lib.hid hG
  have HL := Lib.hid hL
  have HF := Lib.hid hF
  have HF0 := Lib.hid hF0
  have HTt := Lib.hid hTt
  have HLp := Lib.hid hLpos
  have HTo := Lib.hid hto
  have HTime := Lib.hid gs.time
  have hBl := h.head.lt
  have hMl := h.map.lt
  have hBM := h.BM
  have hfew := h.good.few
  have hlt := (List.getElem?_eq_some_iff.1 hs).1
  have HI := Lib.hid hi
  have HLook : Hid (∀ W, Below w.heap.size w W → (Instr.lookup 67 (.map (some M)) (.int .i64 tm) true).run Try.prog W = .ok (.tuple #[.int .i64 i, .bool true]) W) := Lib.hid (fun W hb => by
    have := (h.fresh hb).look hto
    rw [show timesOf t.slots tm = some (i : Int) by rw [hn]; exact hTt] at this
    exact this)
  have t1 : (tm == s.op.time) = true := beq_iff_eq.2 hn
  have t2 : (tm != s.op.time) = false := by rw [bne, t1]; rfl
  clear hn
  clear h hf hs hc hfr hv hi hg h1 hle hG hL hF hF0 hTt hLpos hto gs hgp
  go_enter Try.func14, Try.ntmps14
  go_wp2_with fail
  refine gw (fun wa hwa => ?_)
  have HB1 : Hid (Below w.heap.size w wa) := Lib.hid (by rw [← hwa]; exact (Below.refl _ _).alloc (Nat.le_refl _) _)
  have HX1 : Hid (Blk wa w.heap.size #[.int .i64 ri, .int .i64 rg] 28) := Lib.hid (by rw [← hwa]; exact Blk.new _ _ _)
  clear hwa
  refine (CF.out _ HB1.out).mono ?_
  rintro e w2 ⟨rfl, hb⟩
  have HX2 := Lib.hid (HX1.out.below hb)
  have HB2 : Hid (Below w.heap.size w w2) := Lib.hid (btrans HB1.out hb)
  have c3 : w2.cell? ⟨B, 3, none⟩ = some (.map (some M)) := bcell HB2.out HT.out.c3 hBl
  have hlk := HLook.out w2 HB2.out
  have k2 : w2.cell? ⟨R, i * 6 + 2, none⟩ = some (.int .i64 s.op.time) := bcell HB2.out (HC.out 2 _ rfl) hR
  clear hb HB1 HX1 CF
  go_wp2_with fail
  clear hlk
  obtain ⟨w5, hrun, hm5, ht5⟩ := (show IMap Try.prog 3 3 w2.drew M (liveN t.slots) (timesOf t.slots) (liveN t.slots) from HT.out.map.keep (HB2.out.block M hMl)).drop Try.underlying67 Try.underlying3 HTime.out 0
  have HRun := Lib.hid hrun
  have HM5 := Lib.hid hm5
  have HCh : Hid (Chg (fun k => k = M) w2 w5) := Lib.hid (by have := turned_chg ht5; exact ⟨this.os, this.tape, this.output, this.size, this.block⟩)
  have hsz2 : w.heap.size < w2.heap.size := HX2.out.lt
  have hR2 : R < w2.heap.size := by omega
  have r2 : w5.cell? ⟨R, i * 6 + 2, none⟩ = some (.int .i64 s.op.time) := (HCh.out.cell (p := ⟨R, i * 6 + 2, none⟩) hR2 hRM).trans k2
  have g2 : w5.frozen? ⟨R, i * 6 + 2, none⟩ = false := (HCh.out.frozen (p := ⟨R, i * 6 + 2, none⟩) hR2 hRM).trans (bfree HB2.out (HFr.out _) hR)
  clear hrun hm5 ht5
  have hrun := HRun.out
  go_still_tail 9, (by kernel_rfl)
  go_wp2
  refine gwP (fun w6 hw6 => ?_)
  clear hrun HRun c3 k2 r2 g2
  have HC6 : Hid (Chg (fun k => k = R) w5 w6) := Lib.hid (by rw [← hw6]; exact chgR (Chg.refl _ w5))
  have HRow5 : Hid (w5.ownsRow 0 73 6 (.slice (some ⟨R, 0, none⟩) t.slots.length cap) t.slots.length (cellsOf t.slots)) := Lib.hid (by
    have hr := HT.out.row
    rw [HV.out] at hr
    exact row_chg (row_chg hr (Chg.of_below (S := fun _ => False) HB2.out) (fun _ _ h => h)) HCh.out (fun k hk e => hRM (by simp [Value.ownBlock] at hk; omega)))
  have HRow6 : Hid (w6.ownsRow 0 73 6 (.slice (some ⟨R, 0, none⟩) t.slots.length cap) t.slots.length ((cellsOf t.slots).set (i * 6 + 2) (.int .i64 tm))) := Lib.hid (by rw [← hw6]; exact row_set HRow5.out)
  clear hw6
  have HHd6 : Hid (Blk w6 B #[.int .i64 t.cap, .int .i64 t.serial, v, .map (some M)] 70) := Lib.hid (((HT.out.head.below HB2.out).keep HCh.out hBM).keep HC6.out (fun e => hRB e.symm))
  have HX6 : Hid (Blk w6 w.heap.size #[.int .i64 ri, .int .i64 rg] 28) := Lib.hid ((HX2.out.keep HCh.out (by omega)).keep HC6.out (by omega))
  have hsz5 := HCh.out.size
  have hsz6 := HC6.out.size
  have hM6 : IMap Try.prog 3 3 w6.drew M (liveN t.slots) (upd (timesOf t.slots) s.op.time none) (liveN t.slots - 1) := by
    have := HM5.out
    rw [HTt.out] at this
    exact this.keep (HC6.out.block M (by omega) (fun e => hRM e.symm))
  obtain ⟨w7, hrun, hm7, ht7⟩ := hM6.tight.store Try.underlying67 Try.underlying3 Try.underlying3 (by have := liveN_le t.slots; unfold maxLen; omega) HTo.out (show In64 ri by have := HI.out; unfold In64; omega)
  rw [HF0.out] at hm7
  have HRun := Lib.hid hrun
  have HM7 := Lib.hid hm7
  have HC7 : Hid (Chg (fun k => k = M) w6 w7) := Lib.hid (by have := turned_chg ht7; exact ⟨this.os, this.tape, this.output, this.size, this.block⟩)
  have c3 : w6.cell? ⟨B, 3, none⟩ = some (.map (some M)) := HHd6.out.cell (j := 3) rfl
  have x0 : w6.cell? ⟨w.heap.size, 0, none⟩ = some (.int .i64 ri) := HX6.out.cell (j := 0) rfl
  clear hrun hm7 ht7 hM6
  have hrun := HRun.out
  go_still_tail 7, (by kernel_rfl)
  go_wp2
  go_ret
  have hvo : v.ownBlock = some R := by rw [HV.out]; rfl
  refine ⟨rfl, TabV.of (f := upd (upd (timesOf t.slots) s.op.time none) tm (some (i : Int))) (n := liveN t.slots) (m := liveN t.slots) (xs := (cellsOf t.slots).set (i * 6 + 2) (.int .i64 tm)) ?_ ?_ ?_ ?_ HL.out.symm HF.out HG.out, ?_⟩
  · exact HHd6.out.keep HC7.out hBM
  · show w7.ownsRow 0 73 6 v (t.slots.set i _).length _
    rw [List.length_set, HV.out]
    exact row_chg HRow6.out HC7.out (fun k hk e => hRM (by simp [Value.ownBlock] at hk; omega))
  · show _ = cellsOf (t.slots.set i (moveSlot s tm))
    rw [cellsOf_set _ HS.out]
    have a0 := cellsOf_at t.slots i s 0 _ HS.out rfl
    have a1 := cellsOf_at t.slots i s 1 _ HS.out rfl
    have a3 := cellsOf_at t.slots i s 3 _ HS.out rfl
    have a4 := cellsOf_at t.slots i s 4 _ HS.out rfl
    have a5 := cellsOf_at t.slots i s 5 _ HS.out rfl
    have b1 : (cellsOf t.slots).set (i * 6 + 1) (.int .i64 (moveSlot s tm).gen) = cellsOf t.slots := set_same a1
    rw [b1]
    have far : ∀ j u, (encSlot s)[j]? = some u → j ≠ 2 → ((cellsOf t.slots).set (i * 6 + 2) (.int .i64 (moveSlot s tm).op.time))[i * 6 + j]? = some u := fun j u hj h2 => by
      rw [List.getElem?_set_ne (by omega)]; exact cellsOf_at t.slots i s j u HS.out hj
    have far0 : ((cellsOf t.slots).set (i * 6 + 2) (.int .i64 (moveSlot s tm).op.time))[i * 6]? = some (.int .i64 (moveSlot s tm).last) := far 0 _ rfl (by decide)
    rw [set_same (far 3 (.bool (moveSlot s tm).op.ins) rfl (by decide)), set_same (far 4 (.int .i64 (moveSlot s tm).op.key) rfl (by decide)), set_same (far 5 (.int .i64 (moveSlot s tm).op.id) rfl (by decide)), set_same far0]
    rfl
  · have h7 := HM7.out
    have hri : ri = (i : Int) := HI.out
    rw [hri] at h7
    have e : liveN t.slots - 1 + 1 = liveN t.slots := by have := HLp.out; omega
    simp only [Option.isSome_none, Bool.false_eq_true, if_false, e] at h7
    exact h7
  · have a1 : Chg (fun k => k = M ∨ v.ownBlock = some k) w w5 := (Chg.of_below (S := fun k => k = M ∨ v.ownBlock = some k) HB2.out).trans HCh.out (fun k _ h => Or.inl h)
    have a2 : Chg (fun k => k = M ∨ v.ownBlock = some k) w w6 := a1.trans HC6.out (fun k _ h => Or.inr (by rw [hvo, h]))
    exact a2.trans HC7.out (fun k _ h => Or.inl h)
end
end Go.Proofs.Ytccfjjaljckinaa.Tag
