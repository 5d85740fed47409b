/- Dropping an operation. -/
import Derived.Test.YtccfjjaljckinaaTagF
namespace Go.Proofs.Ytccfjjaljckinaa.Tag
open Go.RowKit Go.Lib Go.Proofs.Ytccfjjaljckinaa.Mem Go.Proofs.Ytccfjjaljckinaa.IMap Go.Proofs.YtccfjjaljckinaaW.PrintWords

section
variable {w : World} {B M : Nat} {v : Value} {t : Tab}
theorem TabV.of {t' : Tab} {n : Nat} {f : Int → Option Int} {xs : List Value} (hh : Blk w B #[.int .i64 t'.cap, .int .i64 t'.serial, v, .map (some M)] 70) (hr : w.ownsRow 0 73 6 v t'.slots.length xs) (hx : xs = cellsOf t'.slots)
    {m : Nat} (hm : IMap Try.prog 3 3 w M m f n) (hn : n = liveN t'.slots) (hf : ∀ x, f x = timesOf t'.slots x) (hg : Good t') : TabV w B M v t' := by
  subst hx; subst hn
  rw [show f = timesOf t'.slots from funext hf] at hm
  exact ⟨hh, hr, hm.tight, hg⟩
theorem TabV.BM (h : TabV w B M v t) : B ≠ M := by
  rintro rfl
  obtain ⟨es, clock, hb⟩ := h.map.block
  have := h.head
  unfold Blk at this
  rw [hb] at this
  cases this
theorem row_chg {w' : World} {S : Nat → Prop} {e : TypeId} {sz n : Nat} {v : Value} {xs : List Value} (h : w.ownsRow 0 e sz v n xs) (hc : Chg S w w') (hs : ∀ k, v.ownBlock = some k → ¬ S k) : w'.ownsRow 0 e sz v n xs := by
  obtain ⟨hlen, ⟨rfl, h0⟩ | ⟨R, cap, cur, rfl, hge, hb, hle, hm, hsz, htake⟩⟩ := h
  · exact ⟨hlen, .inl ⟨rfl, h0⟩⟩
  · exact ⟨hlen, .inr ⟨R, cap, cur, rfl, hge, (hc.block R (lt_of_block hb) (hs R rfl)).trans hb, hle, hm, hsz, htake⟩⟩
theorem row_far {w : World} {e : TypeId} {sz g n cap : Nat} {xs : List Value} {b o : Nat} {u : Value} (h : w.ownsRow 0 e sz (.slice (some ⟨g, 0, none⟩) n cap) n xs) (hp : g ≠ b) : (w.setCell ⟨b, o, none⟩ u).ownsRow 0 e sz (.slice (some ⟨g, 0, none⟩) n cap) n xs :=
  row_chg (S := fun k => k = b) h (chgR (Chg.refl (fun k => k = b) w)) (fun k hk e => hp (by simp [Value.ownBlock] at hk; omega))
theorem blk_far {w : World} {g b o : Nat} {cs : Array Value} {ty : TypeId} {u : Value} (h : Blk w g cs ty) (hp : g ≠ b) : Blk (w.setCell ⟨b, o, none⟩ u) g cs ty := h.far (p := ⟨b, o, none⟩) hp u
theorem chg2 {a b c o : Nat} {w w1 : World} {u : Value} (h : Chg (fun k => k = a ∨ k = b) w w1) (hc : c = a ∨ c = b) : Chg (fun k => k = a ∨ k = b) w (w1.setCell ⟨c, o, none⟩ u) := h.set (p := ⟨c, o, none⟩) (fun _ => hc) u
theorem gwB {P : Program} {fn : Func} {R : Ending → World → Prop} {e : Exit} {a : Act} {W : World} (h : ∀ wa, W = wa → bodyPost P fn R e a wa) : bodyPost P fn R e a W := h _ rfl
theorem set_same {α : Type} : ∀ {l : List α} {i : Nat} {a : α}, l[i]? = some a → l.set i a = l
  | [], i, a, h => by simp at h
  | x :: l, 0, a, h => by simp at h; subst h; rfl
  | x :: l, i + 1, a, h => by rw [List.set_cons_succ, set_same (by simpa using h)]
theorem turned_chg' {w w' : World} {n b : Nat} (h : (w.drewN n).mapTurned w' b) : Chg (fun k => k = b) w w' := by
  have := turned_chg h
  exact ⟨this.os, this.tape, this.output, this.size, this.block⟩

set_option maxRecDepth 100000 in
set_option maxHeartbeats 1000000 in
theorem drop_none (h : TabV w B M v t) {ri rg : Int} (hf : findOf t ri rg = none) :
    Calls Try.prog 12 #[.pointer (some ⟨B, 0, none⟩), .agg #[.int .i64 ri, .int .i64 rg]] w fun e w' => e = .returned (.tuple #[aggOp op0, .bool false]) ∧ Below w.heap.size w w' := by
  have CF : Hid (∀ w1, Below w.heap.size w w1 → Calls Try.prog 32 #[.pointer (some ⟨B, 0, none⟩), .agg #[.int .i64 ri, .int .i64 rg]] w1 fun e w' => e = .returned (.pointer none) ∧ Below w1.heap.size w1 w') := Lib.hid (fun w1 hb => find_none (h.fresh hb) hf)
  have hu28 := Try.underlying28
  have hu32 := Try.underlying32
  unfold aggOp op0
  clear h hf
  go_enter Try.func12, Try.ntmps12
  go_wp2_with fail
  refine gw (fun wa hwa => ?_)
  have HB1 : Hid (Below w.heap.size w wa) := Lib.hid (by rw [← hwa]; exact ((Below.refl _ _).alloc (Nat.le_refl _) _).alloc (by simp) _)
  have HX1 : Hid (Blk wa (w.heap.size + 1) #[.int .i64 0, .bool false, .int .i64 0, .int .i64 0] 32) := Lib.hid (by rw [← hwa]; exact Blk.at_ (by simp) _ _)
  clear hwa
  refine (CF.out _ HB1.out).mono ?_
  rintro e w2 ⟨rfl, hb⟩
  have HX2 := Lib.hid (HX1.out.below hb)
  have HB2 : Hid (Below w.heap.size w w2) := Lib.hid (btrans HB1.out hb)
  have x0 := HX2.out.cell (j := 0) rfl
  have x1 := HX2.out.cell (j := 1) rfl
  have x2 := HX2.out.cell (j := 2) rfl
  have x3 := HX2.out.cell (j := 3) rfl
  have f0 := HX2.out.free 0
  have f1 := HX2.out.free 1
  have f2 := HX2.out.free 2
  have f3 := HX2.out.free 3
  clear hb HB1 HX1 CF
  go_wp2_with fail
  refine bodyPost_ret (results_ct rfl _ _ (w.heap.size + 1) 32 _ (0, 0) _ rfl ((((HX2.out.set 0 (.int .i64 0)).set 1 (.bool false)).set 2 (.int .i64 0)).set 3 (.int .i64 0)) Try.underlying32 rfl (by kernel_rfl)) rfl ?_
  exact ⟨rfl, (((HB2.out.setCell (by simp) _).setCell (by simp) _).setCell (by simp) _).setCell (by simp) _⟩

set_option maxRecDepth 100000 in
set_option maxHeartbeats 1000000 in
theorem drop_some (h : TabV w B M v t) {ri rg : Int} {i : Nat} {s : Slot} (hf : findOf t ri rg = some i) (hs : t.slots[i]? = some s) :
    Calls Try.prog 12 #[.pointer (some ⟨B, 0, none⟩), .agg #[.int .i64 ri, .int .i64 rg]] w fun e w' => e = .returned (.tuple #[aggOp s.op, .bool true]) ∧ TabV w' B M v { t with slots := t.slots.set i ⟨s.last, 0, op0⟩ } ∧
      Chg (fun k => k = M ∨ v.ownBlock = some k) w w' := by
  obtain ⟨s', hs', hi, hg, h1⟩ := findOf_some hf
  rw [hs] at hs'
  injection hs' with hs'
  subst hs'
  have gs := h.good.slots s (List.mem_of_getElem? hs)
  have hG : Good { t with slots := t.slots.set i ⟨s.last, 0, op0⟩ } :=
    h.good.set ⟨gs.last0, gs.last1, Int.le_refl 0, gs.last0, by unfold In64 op0; simp, by unfold In64 op0; simp, by unfold In64 op0; simp⟩ (fun hx => absurd hx (Int.lt_irrefl 0))
  have hgp : 0 < s.gen := by omega
  have hL : liveN t.slots = liveN (t.slots.set i ⟨s.last, 0, op0⟩) + 1 := by
    have := liveN_set (⟨s.last, 0, op0⟩ : Slot) hs
    simp only [hgp, if_true, show ¬ (0 : Int) < 0 by decide, if_false] at this
    omega
  have hFF : ∀ x, upd (timesOf t.slots) s.op.time none x = timesOf (t.slots.set i ⟨s.last, 0, op0⟩) x := by
    intro x
    rw [timesOf_set hs h.good.times hG.times]
    unfold upd
    simp only [hgp, show ¬ (0 : Int) < 0 by decide, true_and, false_and, if_false]
    by_cases hx : x = s.op.time
    · rw [if_pos hx, if_pos hx.symm]
    · rw [if_neg hx, if_neg (fun e => hx e.symm)]
  have hTs : (timesOf t.slots s.op.time).isSome = true := by rw [T_some h.good.times hs hgp rfl]; rfl
  obtain ⟨R, cap, hv, hR, hle, hRB, hRM, hc, hfr⟩ := h.cells hs
  have CF : Hid (∀ w1, Below w.heap.size w w1 → Calls Try.prog 32 #[.pointer (some ⟨B, 0, none⟩), .agg #[.int .i64 ri, .int .i64 rg]] w1 fun e w' => e = .returned (.pointer (some ⟨R, i * 6, none⟩)) ∧ Below w1.heap.size w1 w') := Lib.hid (fun w1 hb => by
    obtain ⟨R', cap', hv', hcall⟩ := find_some (h.fresh hb) hs hi hg h1
    rw [hv] at hv'
    injection hv' with hv' _ _
    injection hv' with hv'
    injection hv' with hv' _ _
    subst hv'
    exact hcall)
  have HC : Hid (∀ j u, (encSlot s)[j]? = some u → w.cell? ⟨R, i * 6 + j, none⟩ = some u) := Lib.hid hc
  have HFr : Hid (∀ j, w.frozen? ⟨R, j, none⟩ = false) := Lib.hid hfr
  have hu28 := Try.underlying28
  have hu32 := Try.underlying32
  have HG := Lib.hid hG
  have HL := Lib.hid hL
  have HF := Lib.hid hFF
  have HTs := Lib.hid hTs
  have HT := Lib.hid h
  have HV := Lib.hid hv
  have HS := Lib.hid hs
  have HTime := Lib.hid gs.time
  have hBl := h.head.lt
  have hMl := h.map.lt
  have hBM := h.BM
  unfold aggOp
  clear h hf hs hc hfr hv hi hg h1 hle hG hL hFF hTs gs hgp
  go_enter Try.func12, Try.ntmps12
  go_wp2_with fail
  refine gw (fun wa hwa => ?_)
  have HB1 : Hid (Below w.heap.size w wa) := Lib.hid (by rw [← hwa]; exact ((Below.refl _ _).alloc (Nat.le_refl _) _).alloc (by simp) _)
  have HX1 : Hid (Blk wa (w.heap.size + 1) #[.int .i64 0, .bool false, .int .i64 0, .int .i64 0] 32) := Lib.hid (by rw [← hwa]; exact Blk.at_ (by simp) _ _)
  clear hwa
  refine (CF.out _ HB1.out).mono ?_
  rintro e w2 ⟨rfl, hb⟩
  have HX2 := Lib.hid (HX1.out.below hb)
  have HB2 : Hid (Below w.heap.size w w2) := Lib.hid (btrans HB1.out hb)
  have k2 : w2.cell? ⟨R, i * 6 + 2, none⟩ = some (.int .i64 s.op.time) := bcell HB2.out (HC.out 2 _ rfl) hR
  have k3 : w2.cell? ⟨R, i * 6 + 3, none⟩ = some (.bool s.op.ins) := bcell HB2.out (HC.out 3 _ rfl) hR
  have k4 : w2.cell? ⟨R, i * 6 + 4, none⟩ = some (.int .i64 s.op.key) := bcell HB2.out (HC.out 4 _ rfl) hR
  have k5 : w2.cell? ⟨R, i * 6 + 5, none⟩ = some (.int .i64 s.op.id) := bcell HB2.out (HC.out 5 _ rfl) hR
  clear hb HB1 HX1 CF
  go_wp2_with fail
  refine gwP (fun wb hwb => ?_)
  have HB3 : Hid (Below w.heap.size w wb) := Lib.hid (by rw [← hwb]; exact HB2.out.alloc HB2.out.size _)
  have HX3 : Hid (Blk wb (w.heap.size + 1) #[.int .i64 0, .bool false, .int .i64 0, .int .i64 0] 32) := Lib.hid (by rw [← hwb]; exact HX2.out.alloc _)
  have HO3 : Hid (Blk wb w2.heap.size #[.int .i64 s.op.time, .bool s.op.ins, .int .i64 s.op.key, .int .i64 s.op.id] 32) := Lib.hid (by rw [← hwb]; exact Blk.new _ _ _)
  have d3 : wb.cell? ⟨B, 3, none⟩ = some (.map (some M)) := bcell HB3.out HT.out.c3 hBl
  have o0 := HO3.out.cell (j := 0) rfl
  have hw2 : w.heap.size + 1 < w2.heap.size := HX2.out.lt
  obtain ⟨w5, hrun, hm5, ht5⟩ := (show IMap Try.prog 3 3 wb.drew M (liveN t.slots) (timesOf t.slots) (liveN t.slots) from HT.out.map.keep (HB3.out.block M hMl)).drop Try.underlying67 Try.underlying3 HTime.out 0
  have HRun := Lib.hid hrun
  have HM5 := Lib.hid hm5
  have HCh : Hid (Chg (fun k => k = M) wb w5) := Lib.hid (by have := turned_chg ht5; exact ⟨this.os, this.tape, this.output, this.size, this.block⟩)
  have hMw2 : M < w2.heap.size := by omega
  have HX5 : Hid (Blk w5 (w.heap.size + 1) #[.int .i64 0, .bool false, .int .i64 0, .int .i64 0] 32) := Lib.hid (HX3.out.keep HCh.out (by omega))
  have HO5 : Hid (Blk w5 w2.heap.size #[.int .i64 s.op.time, .bool s.op.ins, .int .i64 s.op.key, .int .i64 s.op.id] 32) := Lib.hid (HO3.out.keep HCh.out (by omega))
  have hRb : R < wb.heap.size := Nat.lt_of_lt_of_le hR HB3.out.size
  have r1 : w5.cell? ⟨R, i * 6 + 1, none⟩ = some (.int .i64 s.gen) := (HCh.out.cell (p := ⟨R, i * 6 + 1, none⟩) hRb hRM).trans (bcell HB3.out (HC.out 1 _ rfl) hR)
  have r2 : w5.cell? ⟨R, i * 6 + 2, none⟩ = some (.int .i64 s.op.time) := (HCh.out.cell (p := ⟨R, i * 6 + 2, none⟩) hRb hRM).trans (bcell HB3.out (HC.out 2 _ rfl) hR)
  have r3 : w5.cell? ⟨R, i * 6 + 3, none⟩ = some (.bool s.op.ins) := (HCh.out.cell (p := ⟨R, i * 6 + 3, none⟩) hRb hRM).trans (bcell HB3.out (HC.out 3 _ rfl) hR)
  have r4 : w5.cell? ⟨R, i * 6 + 4, none⟩ = some (.int .i64 s.op.key) := (HCh.out.cell (p := ⟨R, i * 6 + 4, none⟩) hRb hRM).trans (bcell HB3.out (HC.out 4 _ rfl) hR)
  have r5 : w5.cell? ⟨R, i * 6 + 5, none⟩ = some (.int .i64 s.op.id) := (HCh.out.cell (p := ⟨R, i * 6 + 5, none⟩) hRb hRM).trans (bcell HB3.out (HC.out 5 _ rfl) hR)
  have fz : ∀ j, w5.frozen? ⟨R, j, none⟩ = false := fun j => (HCh.out.frozen (p := ⟨R, j, none⟩) hRb hRM).trans (bfree HB3.out (HFr.out j) hR)
  have g1 := fz (i * 6 + 1)
  have g2 := fz (i * 6 + 2)
  have g3 := fz (i * 6 + 3)
  have g4 := fz (i * 6 + 4)
  have g5 := fz (i * 6 + 5)
  have x0 := HX5.out.cell (j := 0) rfl
  have x1 := HX5.out.cell (j := 1) rfl
  have x2 := HX5.out.cell (j := 2) rfl
  have x3 := HX5.out.cell (j := 3) rfl
  have y0 := HX5.out.free 0
  have y1 := HX5.out.free 1
  have y2 := HX5.out.free 2
  have y3 := HX5.out.free 3
  have p0 := HO5.out.cell (j := 0) rfl
  have p1 := HO5.out.cell (j := 1) rfl
  have p2 := HO5.out.cell (j := 2) rfl
  have p3 := HO5.out.cell (j := 3) rfl
  clear hwb hrun hm5 ht5 fz HX3 HO3
  have hrun := HRun.out
  go_still_tail 6, (by kernel_rfl)
  go_wp2
  refine gwB (fun wz hwz => ?_)
  clear hrun HRun r1 r2 r3 r4 r5 g1 g2 g3 g4 g5 x0 x1 x2 x3 y0 y1 y2 y3 p0 p1 p2 p3 k2 k3 k4 k5 d3 o0 hu28 hu32
  have hne : w.heap.size + 1 ≠ R := by omega
  have HZ : Hid (Blk wz (w.heap.size + 1) #[.int .i64 s.op.time, .bool s.op.ins, .int .i64 s.op.key, .int .i64 s.op.id] 32) := Lib.hid (by
    rw [← hwz]
    exact ((((blk_far (blk_far (blk_far (blk_far (blk_far HX5.out hne) hne) hne) hne) hne).set 0 _).set 1 _).set 2 _).set 3 _)
  have hcz : Chg (fun k => k = R ∨ k = w.heap.size + 1) w5 wz := by
    rw [← hwz]
    exact chg2 (chg2 (chg2 (chg2 (chg2 (chg2 (chg2 (chg2 (chg2 (Chg.refl _ w5) (.inl rfl)) (.inl rfl)) (.inl rfl)) (.inl rfl)) (.inl rfl)) (.inr rfl)) (.inr rfl)) (.inr rfl)) (.inr rfl)
  have hrow5 : w5.ownsRow 0 73 6 (.slice (some ⟨R, 0, none⟩) t.slots.length cap) t.slots.length (cellsOf t.slots) := by
    have hr := HT.out.row
    rw [HV.out] at hr
    have hr3 := row_chg hr (Chg.of_below (S := fun _ => False) HB3.out) (fun _ _ h => h)
    exact row_chg hr3 HCh.out (fun k hk e => hRM (by simp [Value.ownBlock] at hk; omega))
  have hrowz : wz.ownsRow 0 73 6 (.slice (some ⟨R, 0, none⟩) t.slots.length cap) t.slots.length (((((((cellsOf t.slots).set (i * 6 + 1) (.int .i64 0)).set (i * 6 + 2) (.int .i64 0)).set (i * 6 + 3) (.bool false)).set (i * 6 + 4) (.int .i64 0)).set (i * 6 + 5) (.int .i64 0))) := by
    rw [← hwz]
    have hne' : R ≠ w.heap.size + 1 := by omega
    exact row_far (row_far (row_far (row_far (row_set (row_set (row_set (row_set (row_set hrow5))))) hne') hne') hne') hne'
  have hvo : v.ownBlock = some R := by rw [HV.out]; rfl
  have hsz5 := HCh.out.size
  have hszb := HB3.out.size
  refine bodyPost_ret (results_ct rfl _ _ (w.heap.size + 1) 32 _ (0, 0) _ rfl HZ.out Try.underlying32 rfl (by kernel_rfl)) rfl ?_
  refine ⟨rfl, TabV.of (f := upd (timesOf t.slots) s.op.time none) (n := liveN t.slots - 1) (m := liveN t.slots) (xs := ((((((cellsOf t.slots).set (i * 6 + 1) (.int .i64 0)).set (i * 6 + 2) (.int .i64 0)).set (i * 6 + 3) (.bool false)).set (i * 6 + 4) (.int .i64 0)).set (i * 6 + 5) (.int .i64 0))) ?_ ?_ ?_ ?_ (by show _ = liveN (t.slots.set i _); have := HL.out; omega) HF.out HG.out, ?_⟩
  · have h1 := (HT.out.head.below HB3.out).keep HCh.out hBM
    rw [HV.out] at h1 ⊢
    exact h1.keep hcz (by omega)
  · show wz.ownsRow 0 73 6 v (t.slots.set i _).length _
    rw [List.length_set, HV.out]
    exact hrowz
  · show _ = cellsOf (t.slots.set i ⟨s.last, 0, op0⟩)
    rw [cellsOf_set _ HS.out]
    have hlast : (cellsOf t.slots)[i * 6]? = some (.int .i64 s.last) := cellsOf_at _ i s 0 _ HS.out rfl
    refine (set_same ?_).symm
    rw [List.getElem?_set_ne (by omega), List.getElem?_set_ne (by omega), List.getElem?_set_ne (by omega), List.getElem?_set_ne (by omega), List.getElem?_set_ne (by omega)]
    exact hlast
  · have h1 := HM5.out
    rw [HTs.out] at h1
    exact h1.keep (hcz.block M (by omega) (by omega))
  · have c1 : Chg (fun k => k = M ∨ v.ownBlock = some k) w w5 := (Chg.of_below (S := fun k => k = M ∨ v.ownBlock = some k) HB3.out).trans HCh.out (fun k _ hk => Or.inl hk)
    refine c1.trans hcz (fun k hk h => ?_)
    rcases h with h | h
    · right; rw [hvo, h]
    · omega
end
end Go.Proofs.Ytccfjjaljckinaa.Tag
