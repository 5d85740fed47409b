/- Laying an operation into a slot. -/
import Derived.Test.YtccfjjaljckinaaTagP
import Derived.RegionTactic
import Derived.StillTailTactics
import Derived.BigRegion
import Derived.ChangeAlike
namespace Go.Proofs.Ytccfjjaljckinaa.Tag
open Go.RowKit Go.Lib Go.Proofs.Ytccfjjaljckinaa.Mem Go.Proofs.Ytccfjjaljckinaa.IMap Go.Proofs.YtccfjjaljckinaaW.PrintWords

theorem chg_set {S : Nat → Prop} {w w1 : World} (h : Chg S w w1) {b : Nat} (hb : S b) {o : Nat} {u : Value} : Chg S w (w1.setCell ⟨b, o, none⟩ u) := h.set (p := ⟨b, o, none⟩) (fun _ => hb) u
theorem chgR {R : Nat} {w w1 : World} (h : Chg (fun k => k = R) w w1) {o : Nat} {u : Value} : Chg (fun k => k = R) w (w1.setCell ⟨R, o, none⟩ u) := h.set (p := ⟨R, o, none⟩) (fun _ => rfl) u
theorem chg_alloc {S : Nat → Prop} {w w1 : World} (h : Chg S w w1) {o : Obj} : Chg S w (w1.alloc o) := h.alloc o
theorem row_set {w : World} {e : TypeId} {sz g n cap : Nat} {xs : List Value} {j : Nat} {u : Value} (h : w.ownsRow 0 e sz (.slice (some ⟨g, 0, none⟩) n cap) n xs) : (w.setCell ⟨g, j, none⟩ u).ownsRow 0 e sz (.slice (some ⟨g, 0, none⟩) n cap) n (xs.set j u) := (h.stored j u).1
theorem row_drew {w : World} {e : TypeId} {sz n : Nat} {v : Value} {xs : List Value} (h : w.ownsRow 0 e sz v n xs) : w.drew.ownsRow 0 e sz v n xs := h
theorem gwP {P : Program} {c : Code} {Q : Exit → Act → World → Prop} {a : Act} {W : World} (h : ∀ wa, W = wa → c.wp P Q a wa) : c.wp P Q a W := h _ rfl
theorem gwE {K : Act → World → Prop} {Q : Exit → Act → World → Prop} {e : Exit} {a : Act} {W : World} (h : ∀ wa, W = wa → Exit.then K Q e a wa) : Exit.then K Q e a W := h _ rfl
section
variable {w : World} {B M : Nat} {v : Value} {t : Tab}
set_option maxRecDepth 100000 in
set_option maxHeartbeats 1000000 in
theorem lay (h : TabV w B M v t) {i : Nat} {s : Slot} {g : Int} {o : TOp} (hs : t.slots[i]? = some s) (hd : ¬ 0 < s.gen) (hg : 0 < g) (hg1 : g ≤ 4294967295) (ho : In64 o.time ∧ In64 o.key ∧ In64 o.id) (hn : timesOf t.slots o.time = none) :
    Calls Try.prog 31 #[.pointer (some ⟨B, 0, none⟩), .int .i64 i, .int .i64 g, aggOp o] w fun e w' => e = .returned (.tuple #[]) ∧ TabV w' B M v { t with slots := t.slots.set i ⟨if g ≤ s.last then s.last else g, g, o⟩ } ∧
      Chg (fun k => k = M ∨ v.ownBlock = some k) w w' := by
  have hG : Good { t with slots := t.slots.set i ⟨if g ≤ s.last then s.last else g, g, o⟩ } := by
    have gs := h.good.slots s (List.mem_of_getElem? hs)
    have l0 := gs.last0
    have l1 := gs.last1
    refine h.good.set ⟨?_, ?_, by show 0 ≤ g; omega, ?_, ho.1, ho.2.1, ho.2.2⟩ (fun _ j b _ hb hbg => timesOf_none hn b (List.mem_of_getElem? hb) hbg)
    · show 0 ≤ (if g ≤ s.last then s.last else g); split <;> omega
    · show (if g ≤ s.last then s.last else g) ≤ 4294967295; split <;> omega
    · show g ≤ (if g ≤ s.last then s.last else g); split <;> omega
  have hF : ∀ x, timesOf (t.slots.set i ⟨if g ≤ s.last then s.last else g, g, o⟩) x = upd (timesOf t.slots) o.time (some (i : Int)) x := by
    intro x
    rw [timesOf_set hs h.good.times hG.times]
    unfold upd
    simp only [hg, hd, true_and, false_and, if_false]
    by_cases hx : x = o.time
    · rw [if_pos hx.symm, if_pos hx]
    · rw [if_neg (fun e => hx e.symm), if_neg hx]
  have hL : liveN (t.slots.set i ⟨if g ≤ s.last then s.last else g, g, o⟩) = liveN t.slots + 1 := by
    have := liveN_set (⟨if g ≤ s.last then s.last else g, g, o⟩ : Slot) hs
    simp only [hg, hd, if_true, if_false] at this
    omega
  generalize hmx : (if g ≤ s.last then s.last else g) = m at *
  have HMX := Lib.hid hmx
  clear hmx
  have HGood := Lib.hid hG
  have HF := Lib.hid hF
  have HL := Lib.hid hL
  have HOT := Lib.hid ho.1
  have HNone := Lib.hid hn
  clear hG hF hL ho hn hd hg1
  obtain ⟨R, cap, hv, hR, hle, hRB, hRM, hc, hfr⟩ := h.cells hs
  have c2 := h.c2
  rw [hv] at c2
  have hB := h.head.lt
  have hu32 := Try.underlying32
  have hfew := h.good.few
  have hlt := (List.getElem?_eq_some_iff.1 hs).1
  have k0 : w.cell? ⟨R, i * 6, none⟩ = some (.int .i64 s.last) := hc 0 _ rfl
  have k1 : w.cell? ⟨R, i * 6 + 1, none⟩ = some (.int .i64 s.gen) := hc 1 _ rfl
  have k2 : w.cell? ⟨R, i * 6 + 2, none⟩ = some (.int .i64 s.op.time) := hc 2 _ rfl
  have k3 : w.cell? ⟨R, i * 6 + 3, none⟩ = some (.bool s.op.ins) := hc 3 _ rfl
  have k4 : w.cell? ⟨R, i * 6 + 4, none⟩ = some (.int .i64 s.op.key) := hc 4 _ rfl
  have k5 : w.cell? ⟨R, i * 6 + 5, none⟩ = some (.int .i64 s.op.id) := hc 5 _ rfl
  have f0 : w.frozen? ⟨R, i * 6, none⟩ = false := hfr _
  have f1 : w.frozen? ⟨R, i * 6 + 1, none⟩ = false := hfr _
  have f2 : w.frozen? ⟨R, i * 6 + 2, none⟩ = false := hfr _
  have f3 : w.frozen? ⟨R, i * 6 + 3, none⟩ = false := hfr _
  have f4 : w.frozen? ⟨R, i * 6 + 4, none⟩ = false := hfr _
  have f5 : w.frozen? ⟨R, i * 6 + 5, none⟩ = false := hfr _
  have hi0 : (0 : Int) ≤ i := by omega
  have e1 : (i : Int).toNat = i := by omega
  have HT := Lib.hid h
  have HV := Lib.hid hv
  have HS := Lib.hid hs
  clear h hs hc hfr hv hle
  generalize hN : t.slots.length = N at *
  have HN := Lib.hid hN
  clear hN
  have hiN : (i : Int) < N := by omega
  unfold aggOp
  by_cases hm : g ≤ s.last
  · go_enter Try.func31, Try.ntmps31
    go_wp2
    go_region
    refine gwE (fun wa hwa => ?_)
    have HA : Hid (Chg (fun k => k = R) w wa) := Lib.hid (by rw [← hwa]; exact (chg_alloc (chgR (chgR (chgR (chgR (chgR (Chg.refl (fun k => k = R) w))))))).drew)
    have HO : Hid (Blk wa w.heap.size #[.int .i64 o.time, .bool o.ins, .int .i64 o.key, .int .i64 o.id] 32) := Lib.hid (by rw [← hwa]; exact Blk.drew (Blk.at_ (by simp [World.setCell]) _ _))
    have d2 : wa.cell? ⟨B, 2, none⟩ = some (.slice (some ⟨R, 0, none⟩) N cap) := (HA.out.cell (p := ⟨B, 2, none⟩) hB (fun e => hRB e.symm)).trans c2
    have HRow : Hid (wa.ownsRow 0 73 6 (.slice (some ⟨R, 0, none⟩) N cap) N ((((((cellsOf t.slots).set (i * 6 + 1) (.int .i64 g)).set (i * 6 + 2) (.int .i64 o.time)).set (i * 6 + 3) (.bool o.ins)).set (i * 6 + 4) (.int .i64 o.key)).set (i * 6 + 5) (.int .i64 o.id))) := Lib.hid (by
      have hr := HT.out.row
      rw [HN.out, HV.out] at hr
      rw [← hwa]
      exact row_drew ((row_set (row_set (row_set (row_set (row_set hr))))).alloc _))
    have g0 : wa.cell? ⟨R, i * 6, none⟩ = some (.int .i64 s.last) := (HRow.out.cellAt (i * 6) (by omega)).trans (by
      rw [List.getElem?_set_ne (by omega), List.getElem?_set_ne (by omega), List.getElem?_set_ne (by omega), List.getElem?_set_ne (by omega), List.getElem?_set_ne (by omega)]
      exact cellsOf_at _ i s 0 _ HS.out rfl)
    have q0 : wa.frozen? ⟨R, i * 6, none⟩ = false := HRow.out.frozenAt _
    clear hwa k0 k1 k2 k3 k4 k5 f0 f1 f2 f3 f4 f5 c2
    go_wp2
    refine gwP (fun wb hwb => ?_)
    have HB : Hid (Chg (fun k => k = R) w wb) := Lib.hid (by rw [← hwb]; exact chgR HA.out)
    have HO2 : Hid (Blk wb w.heap.size #[.int .i64 o.time, .bool o.ins, .int .i64 o.key, .int .i64 o.id] 32) := Lib.hid (by rw [← hwb]; exact HO.out.far (p := ⟨R, i * 6, none⟩) (by simp; omega) _)
    have hrow2 := row_set (j := i * 6) (u := .int .i64 s.last) HRow.out
    rw [hwb] at hrow2
    have HRow2 := Lib.hid hrow2
    have hhd : Blk wb B #[.int .i64 t.cap, .int .i64 t.serial, .slice (some ⟨R, 0, none⟩) N cap, .map (some M)] 70 := by
      have := HT.out.head
      rw [HV.out] at this
      exact this.keep HB.out (fun e => hRB e.symm)
    have hM : IMap Try.prog 3 3 wb M (liveN t.slots) (timesOf t.slots) (liveN t.slots) := HT.out.map.keep (HB.out.block M HT.out.map.lt (fun e => hRM e.symm))
    have HHd := Lib.hid hhd
    have HM := Lib.hid hM
    have d3 : wb.cell? ⟨B, 3, none⟩ = some (.map (some M)) := hhd.cell (j := 3) rfl
    have o0 : wb.cell? ⟨w.heap.size, 0, none⟩ = some (.int .i64 o.time) := HO2.out.cell (j := 0) rfl
    have hsz := HB.out.size
    clear hwb d2 hrow2 hhd hM HRow HO HA g0 q0
    go_still_tail 7, (by kernel_rfl)
    obtain ⟨w5, hrun, hm5, ht5⟩ := (show IMap Try.prog 3 3 wb.drew M (liveN t.slots) (timesOf t.slots) (liveN t.slots) from HM.out.keep rfl).store Try.underlying67 Try.underlying3 Try.underlying3 (by have := liveN_le t.slots; rw [HN.out] at this; unfold maxLen; omega) HOT.out (show In64 (i : Int) from ⟨by omega, by omega⟩)
    have HRun := Lib.hid hrun
    have HM5 := Lib.hid hm5
    have HT5 := Lib.hid ht5
    clear hrun hm5 ht5
    have hrun := HRun.out
    go_wp2
    go_end0
    clear hrun HRun
    have hch : Chg (fun k => k = M) wb w5 := by
      have := turned_chg HT5.out
      exact ⟨this.os, this.tape, this.output, this.size, this.block⟩
    have hvo : v.ownBlock = some R := by rw [HV.out]; rfl
    refine ⟨rfl, ⟨?_, ?_, ?_, HGood.out⟩, ?_⟩
    · rw [HV.out]
      exact HHd.out.keep hch (fun e => by
        obtain ⟨es, clock, hb⟩ := HT.out.map.block
        have := HT.out.head
        unfold Blk at this
        rw [e, hb] at this
        cases this)
    · rw [show (Tab.mk t.cap t.serial (t.slots.set i ⟨m, g, o⟩)).slots = t.slots.set i ⟨m, g, o⟩ from rfl, cellsOf_set _ HS.out, List.length_set, HN.out, HV.out]
      have hk := HRow2.out.kept (w' := w5) (row := some M) ⟨hch.os, hch.tape, hch.output, hch.size, fun k hk hne => hch.block k hk (fun e => hne (by rw [e]))⟩ (Or.inr (by simp [Value.ownBlock]; exact hRM))
      rw [show m = s.last by rw [← HMX.out, if_pos hm]]
      exact hk
    · show IMap Try.prog 3 3 w5 M (liveN (t.slots.set i _)) (timesOf (t.slots.set i _)) (liveN (t.slots.set i _))
      rw [HL.out, show timesOf (t.slots.set i ⟨m, g, o⟩) = upd (timesOf t.slots) o.time (some (i : Int)) from funext HF.out]
      have := HM5.out
      rw [HNone.out] at this
      exact this
    · exact (HB.out.mono (S' := fun k => k = M ∨ v.ownBlock = some k) (fun k _ hk => Or.inr (by rw [hvo, hk]))).trans hch (fun k _ hk => Or.inl hk)
  · go_enter Try.func31, Try.ntmps31
    go_wp2
    go_region
    refine gwE (fun wa hwa => ?_)
    have HA : Hid (Chg (fun k => k = R) w wa) := Lib.hid (by rw [← hwa]; exact (chg_alloc (chgR (chgR (chgR (chgR (chgR (Chg.refl (fun k => k = R) w))))))).drew)
    have HO : Hid (Blk wa w.heap.size #[.int .i64 o.time, .bool o.ins, .int .i64 o.key, .int .i64 o.id] 32) := Lib.hid (by rw [← hwa]; exact Blk.drew (Blk.at_ (by simp [World.setCell]) _ _))
    have d2 : wa.cell? ⟨B, 2, none⟩ = some (.slice (some ⟨R, 0, none⟩) N cap) := (HA.out.cell (p := ⟨B, 2, none⟩) hB (fun e => hRB e.symm)).trans c2
    have HRow : Hid (wa.ownsRow 0 73 6 (.slice (some ⟨R, 0, none⟩) N cap) N ((((((cellsOf t.slots).set (i * 6 + 1) (.int .i64 g)).set (i * 6 + 2) (.int .i64 o.time)).set (i * 6 + 3) (.bool o.ins)).set (i * 6 + 4) (.int .i64 o.key)).set (i * 6 + 5) (.int .i64 o.id))) := Lib.hid (by
      have hr := HT.out.row
      rw [HN.out, HV.out] at hr
      rw [← hwa]
      exact row_drew ((row_set (row_set (row_set (row_set (row_set hr))))).alloc _))
    have g0 : wa.cell? ⟨R, i * 6, none⟩ = some (.int .i64 s.last) := (HRow.out.cellAt (i * 6) (by omega)).trans (by
      rw [List.getElem?_set_ne (by omega), List.getElem?_set_ne (by omega), List.getElem?_set_ne (by omega), List.getElem?_set_ne (by omega), List.getElem?_set_ne (by omega)]
      exact cellsOf_at _ i s 0 _ HS.out rfl)
    have q0 : wa.frozen? ⟨R, i * 6, none⟩ = false := HRow.out.frozenAt _
    clear hwa k0 k1 k2 k3 k4 k5 f0 f1 f2 f3 f4 f5 c2
    go_wp2
    refine gwP (fun wb hwb => ?_)
    have HB : Hid (Chg (fun k => k = R) w wb) := Lib.hid (by rw [← hwb]; exact chgR HA.out)
    have HO2 : Hid (Blk wb w.heap.size #[.int .i64 o.time, .bool o.ins, .int .i64 o.key, .int .i64 o.id] 32) := Lib.hid (by rw [← hwb]; exact HO.out.far (p := ⟨R, i * 6, none⟩) (by simp; omega) _)
    have hrow2 := row_set (j := i * 6) (u := .int .i64 g) HRow.out
    rw [hwb] at hrow2
    have HRow2 := Lib.hid hrow2
    have hhd : Blk wb B #[.int .i64 t.cap, .int .i64 t.serial, .slice (some ⟨R, 0, none⟩) N cap, .map (some M)] 70 := by
      have := HT.out.head
      rw [HV.out] at this
      exact this.keep HB.out (fun e => hRB e.symm)
    have hM : IMap Try.prog 3 3 wb M (liveN t.slots) (timesOf t.slots) (liveN t.slots) := HT.out.map.keep (HB.out.block M HT.out.map.lt (fun e => hRM e.symm))
    have HHd := Lib.hid hhd
    have HM := Lib.hid hM
    have d3 : wb.cell? ⟨B, 3, none⟩ = some (.map (some M)) := hhd.cell (j := 3) rfl
    have o0 : wb.cell? ⟨w.heap.size, 0, none⟩ = some (.int .i64 o.time) := HO2.out.cell (j := 0) rfl
    have hsz := HB.out.size
    clear hwb d2 hrow2 hhd hM HRow HO HA g0 q0
    go_still_tail 7, (by kernel_rfl)
    obtain ⟨w5, hrun, hm5, ht5⟩ := (show IMap Try.prog 3 3 wb.drew M (liveN t.slots) (timesOf t.slots) (liveN t.slots) from HM.out.keep rfl).store Try.underlying67 Try.underlying3 Try.underlying3 (by have := liveN_le t.slots; rw [HN.out] at this; unfold maxLen; omega) HOT.out (show In64 (i : Int) from ⟨by omega, by omega⟩)
    have HRun := Lib.hid hrun
    have HM5 := Lib.hid hm5
    have HT5 := Lib.hid ht5
    clear hrun hm5 ht5
    have hrun := HRun.out
    go_wp2
    go_end0
    clear hrun HRun
    have hch : Chg (fun k => k = M) wb w5 := by
      have := turned_chg HT5.out
      exact ⟨this.os, this.tape, this.output, this.size, this.block⟩
    have hvo : v.ownBlock = some R := by rw [HV.out]; rfl
    refine ⟨rfl, ⟨?_, ?_, ?_, HGood.out⟩, ?_⟩
    · rw [HV.out]
      exact HHd.out.keep hch (fun e => by
        obtain ⟨es, clock, hb⟩ := HT.out.map.block
        have := HT.out.head
        unfold Blk at this
        rw [e, hb] at this
        cases this)
    · rw [show (Tab.mk t.cap t.serial (t.slots.set i ⟨m, g, o⟩)).slots = t.slots.set i ⟨m, g, o⟩ from rfl, cellsOf_set _ HS.out, List.length_set, HN.out, HV.out]
      have hk := HRow2.out.kept (w' := w5) (row := some M) ⟨hch.os, hch.tape, hch.output, hch.size, fun k hk hne => hch.block k hk (fun e => hne (by rw [e]))⟩ (Or.inr (by simp [Value.ownBlock]; exact hRM))
      rw [show m = g by rw [← HMX.out, if_neg (by omega)]]
      exact hk
    · show IMap Try.prog 3 3 w5 M (liveN (t.slots.set i _)) (timesOf (t.slots.set i _)) (liveN (t.slots.set i _))
      rw [HL.out, show timesOf (t.slots.set i ⟨m, g, o⟩) = upd (timesOf t.slots) o.time (some (i : Int)) from funext HF.out]
      have := HM5.out
      rw [HNone.out] at this
      exact this
    · exact (HB.out.mono (S' := fun k => k = M ∨ v.ownBlock = some k) (fun k _ hk => Or.inr (by rw [hvo, hk]))).trans hch (fun k _ hk => Or.inl hk)
end
end Go.Proofs.Ytccfjjaljckinaa.Tag
